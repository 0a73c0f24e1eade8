/- Packed by a program of mine (wip/tools/pack.py): the same texts with short names and few blanks. -/
import Derived.ChangeKeysEq
import Derived.KernelRfl
import Derived.Laws.BytesArg
import Derived.Laws.StructEq
import Derived.Lib.AppendStr
import Derived.OrdersIn
import Derived.RangeFuncLeaves
import Derived.RangeFuncNested
import Derived.Scope
import Derived.Shelf.Slices.Clone
import Derived.Shelf.Slices.In.SortNone
import Derived.Shelf.Small.Utf8
import Derived.Shelf.Sort.Plain
import Derived.Shelf.Strings.Builder1
import Derived.Shelf.Strings.Runes
import Derived.Shelf.Strings.Search1
import Derived.Shelf.Strings.Search3
import Derived.Shelf.Strings.SlTrimAscii
import Derived.Shelf.Strings.Trim
import Derived.Shelf.Unicode.DecodeAny
import Derived.Shelf.Unicode.ValidAny
import Derived.Test.YtbbpilohihldiaaGreatDoorProg
import Derived.WalkSpells
import Derived.Test.YtbbpilohihldiaaGreatDoorR00
set_option linter.unusedVariables false
set_option linter.unusedSimpArgs false
set_option linter.unusedSectionVars false
set_option maxRecDepth 100000
set_option maxHeartbeats 4000000
namespace Go.Proofs.YtbbpilohihldiaaGreatDoor.Vc
open Go.RowKit
theorem a6m {H:qQ}{ws more:List pW}: ∀{wh:pW}{b:p8},QH H ws wh b->QH H (ws++more) wh b
 | .box _ _ _ _ _,.cells _ _ _,⟨h1,h2,h4⟩=>⟨h1,h2,fun q n h=>let ⟨k,k1,k2⟩:=h4 q n h;⟨k,by rw[aMN (aMG.1 k1).1];exact k1,k2⟩⟩
 | .box _ _ _ _ _,.grow _ _ _,h=>h.elim
 | .box _ _ _ _ _,.dead,h=>h.elim
 | .box _ _ _ _ _,.row _ _ _ _,h=>h.elim
 | .box _ _ _ _ _,.map _ _ _,h=>h.elim
 | .box _ _ _ _ _,.iter _ _,h=>h.elim
 | .tok _,.iter _ _,h=>h.elim
 | .tok _,.row _ _ _ _,h=>h
 | .tok _,.grow _ _ _,h=>h
 | .tok _,.map _ _ _,h=>h
 | .tok _,.cells _ _ _,h=>h.elim
 | .tok _,.dead,h=>h.elim
theorem JB (g:Gh) (w:World) (ws more:List pW):Le (tN g ws) w (tN g (ws++more)) w:=by
 refine⟨fun _ _ h=>h,fun _ _ _=>rfl,fun c p h=> ?_,fun c n v h=> ?_⟩
 ·have h':uJ g ws[c]? =some p:=h;show uJ g (ws++more)[c]? =some p;cases hc:ws[c]? with
  |none=>rw[hc] at h';cases h'
  |some wh=>rw[aMN (aMG.1 hc).1];exact h'
 ·have h':yZ g ws[c]? n=some v:=h;show yZ g (ws++more)[c]? n=some v;cases hc:ws[c]? with
  |none=>rw[hc] at h';cases h'
  |some wh=>rw[aMN (aMG.1 hc).1];exact h'
theorem JC {g g':Gh}{w w':World}(h:Le g w g' w'): ∀{ss:List pB}{vs:List Value},tY g w ss vs->tY g' w' ss vs
 |[],_,r=>r
 |_::_,_,⟨v,vs',e,r1,r2⟩=>⟨v,vs',e,yX h r1,JC h r2⟩
theorem F5 {g:Gh}{w:World}: ∀{ss:List pB}{vs:List Value}{s:pB}{v:Value},tY g w ss vs->q7 g w s v->tY g w (ss++[s]) (vs++[v])
 |[],_,_,_,h,k=>by rw[show _=[] from h];exact⟨_,_,rfl,k,rfl⟩
 |_::_,_,_,_,⟨v,vs',e,r1,r2⟩,k=>⟨v,vs'++_,by rw[e];rfl,r1,F5 r2 k⟩
theorem D8.tok {H:qQ}{ws:List pW}{L:List p8}(h:D8 H ws L) {k:Nat}{b0:p8}(hk:QH H (ws++[.tok k]) (.tok k) b0) (hn:k∉qV ws):D8 H (ws++[.tok k]) (L++[b0]):=by
 refine⟨by simp [h.len],fun i wh b h1 h2=> ?_,?_⟩
 ·by_cases hi:i<ws.length
  ·rw[aMN hi] at h1;rw[aMN (h.len▸hi)] at h2;exact a6m (h.ok i wh b h1 h2)
  ·rw[aMD (by omega)] at h1;rw[aMD (by rw[<-h.len];omega),<-h.len] at h2;obtain⟨d,hd⟩: ∃d,i-ws.length=d:=⟨_,rfl⟩;rw[hd] at h1 h2;cases d with
   |zero=>
    simp only[aMY,aMt] at h1 h2;subst h1;subst h2;exact hk
   |succ d=>simp at h1
 ·rw[F4];exact List.nodup_append.2 ⟨h.nodup,by simp [qV],fun a ha b hb=>by
   simp only[qV,pW.id,aME] at hb;subst hb;intro e;exact hn (e▸ha)⟩
theorem a6n: ∀{os:List Nat}{n q m:Nat},(q,m)∈G9 os n->∃j:Nat,os[j]? =some q/\m=n+j
 |[],_,_,_,h=>by simp [G9] at h
 |q'::os,n,q,m,h=>by
  simp only[G9,aMK,aMX] at h;rcases h with⟨rfl,rfl⟩ |h
  ·exact⟨0,rfl,rfl⟩
  ·obtain⟨j,h1,h2⟩:=a6n h;exact⟨j+1,by simpa using h1,by omega⟩
theorem a6o {n:Nat}: ∀{os:List Nat}{j q:Nat},IM n os=true->os[j]? =some q->q<n
 |[],_,_,_,h=>by simp at h
 |q'::os,0,q,h,h2=>by
  simp only[IM,aMz,aMw] at h;simp only[aMY,aMt] at h2;exact h2▸h.1
 |q'::os,j+1,q,h,h2=>by
  simp only[IM,aMz] at h;exact a6o h.2 (by simpa using h2)
theorem QM {H:qQ}{toks:List (Nat×Nat)}{o:Nat}: ∀{os:List Nat}{a a':rS},wP H toks o os (some a)=some a'->
  ∃(ks:List Nat) (bs:List p8),ks.length=os.length/\bs.length=os.length/\a'.args=a.args/\a'.H.reverse=a.H.reverse++bs/\a'.ws.reverse=a.ws.reverse++ks.map pW.tok/\a'.n=a.n+os.length/\
   (∀(j:Nat) q k,os[j]? =some q->ks[j]? =some k->vH toks (o+q)=some k)/\(∀(j:Nat) k b,ks[j]? =some k->bs[j]? =some b->pD H k=some b/\∃e c m,b= .grow e c m)/\(∀k∈ks,k∉qV a.ws.reverse)/\ks.Nodup
 |[],a,a',h=>by
  simp only[wP,aMt] at h;subst h;exact⟨[],[],rfl,rfl,rfl,by simp,by simp,rfl,by simp,by simp,by simp,by simp⟩
 |q::os,a,a',h=>by
  simp only[wP] at h;have none_no: ∀os,wP H toks o os none=none:=by
   intro os
   induction os with
   |nil=>rfl
   |cons q os ih=>
    have:xD H (vH toks (o+q)) none=none:=by
     cases vH toks (o+q) with
     |none=>rfl
     |some k=>simp only[xD];cases pD H k with
      |none=>rfl
      |some b=>cases b<;>rfl
    simp only[wP,this,ih]
  cases hk:vH toks (o+q) with
  |none=>rw[hk] at h;simp only[xD,none_no] at h;cases h
  |some k=>
   rw[hk] at h;simp only[xD] at h;cases hb:pD H k with
   |none=>rw[hb] at h;simp only[zT,none_no] at h;cases h
   |some b=>
    rw[hb] at h;cases b with
    |grow e c m=>
     simp only[zT] at h;by_cases hm:AG k (qV a.ws)=true
     ·rw[if_pos hm,none_no] at h;cases h
     ·rw[if_neg hm] at h;obtain⟨ks,bs,h1,h2,h3,h4,h5,h6,h7,h8,h9,h10⟩:=QM h;simp only[aNf] at h4 h5 h9;have hrev: ∀ws:List pW,∀i,i∈qV ws.reverse↔i∈qV ws:=by
       intro ws i
       induction ws with
       |nil=>simp
       |cons x r ih=>rw[aNf,F4];simp [qV,ih,or_comm]
      refine⟨k::ks,.grow e c m::bs,by simp [h1],by simp [h2],h3,by rw[h4];simp,by rw[h5];simp,by rw[h6];simp;omega,fun j q' k'=> ?_,fun j k' b'=> ?_,fun k' hk'=> ?_,?_⟩
      ·cases j with
       |zero=>intro e1 e2;simp only[aMY,aMt] at e1 e2;subst e1;subst e2;exact hk
       |succ j=>intro e1 e2;exact h7 j q' k' (by simpa using e1) (by simpa using e2)
      ·cases j with
       |zero=>intro e1 e2;simp only[aMY,aMt] at e1 e2;subst e1;subst e2;exact⟨hb,_,_,_,rfl⟩
       |succ j=>intro e1 e2;exact h8 j k' b' (by simpa using e1) (by simpa using e2)
      ·rcases aMK.1 hk' with rfl|hk'
       ·rw[hrev];exact fun hmem=>hm (GS.2 hmem)
       ·intro hmem;exact h9 k' hk' (by rw[F4];exact List.mem_append_left _ hmem)
      ·refine List.nodup_cons.2 ⟨fun hmem=>h9 k hmem (by rw[F4];simp [qV,pW.id]),h10⟩
    |cells t y ts=>simp only[zT,none_no] at h;cases h
    |row=>simp only[zT,none_no] at h;cases h
    |map=>simp only[zT,none_no] at h;cases h
    |iter=>simp only[zT,none_no] at h;cases h
    |dead=>simp only[zT,none_no] at h;cases h
theorem a6p: ∀ks:List Nat,qV (ks.map pW.tok)=ks
 |[]=>rfl
 |k::ks=>by simp [qV,pW.id,a6p ks]
theorem D8.box {H:qQ}{ws:List pW}{L:List p8}(h:D8 H ws L) {t u:Ty}{x:u.den}{y:t.den}{toks:List (Nat×Nat)}{i o:Nat}{os ks:List Nat}{bs:List p8}(hi:pD H i=some (.cells u x toks)) (hy:pS t u x o=some y) (hlt:IM t.cells os=true) (hn:i∉qV ws)
  (h1:ks.length=os.length) (h2:bs.length=os.length) (h7: ∀(j:Nat) q k,os[j]? =some q->ks[j]? =some k->vH toks (o+q)=some k) (h8: ∀(j:Nat) k b,ks[j]? =some k->bs[j]? =some b->pD H k=some b/\∃e c m,b= .grow e c m) (h9: ∀k∈ks,k∉qV (ws++[.box i u x toks o])) (h10:ks.Nodup):
  D8 H ((ws++[.box i u x toks o])++ks.map pW.tok) ((L++[.cells t y (G9 os (ws.length+1))])++bs):=by
 have hlen1:(ws++[pW.box i u x toks o]).length=ws.length+1:=by simp
 have hlen2:(L++[p8.cells t y (G9 os (ws.length+1))]).length=ws.length+1:=by simp [h.len]
 refine⟨by simp [h.len,h1,h2],fun c wh b e1 e2=> ?_,?_⟩
 ·by_cases hc:c<ws.length
  ·rw[aMN (by omega),aMN hc] at e1;rw[aMN (by omega),aMN (h.len▸hc)] at e2;rw[aMC];exact a6m (h.ok c wh b e1 e2)
  ·by_cases hc2:c=ws.length
   ·subst hc2;rw[aMN (by omega),aMD (Nat.le_refl _),aOv] at e1;rw[aMN (by omega),aMD (by rw[h.len];exact Nat.le_refl _),h.len,aOv] at e2;simp only[aMY,aMt] at e1 e2;subst e1;subst e2;refine⟨hi,hy,fun q n hm=> ?_⟩;rw[<-h.len] at hm;obtain⟨j,hj,rfl⟩:=a6n hm;have hjl:j<ks.length:=by rw[h1];exact(aMG.1 hj).1
    refine⟨ks[j],?_,h7 j q _ hj (aMA hjl),a6o hlt hj⟩;rw[aMD (by omega),hlen1,show ws.length+1+j- (ws.length+1)=j from by omega];simp [hjl]
   ·rw[aMD (by omega),hlen1] at e1;rw[aMD (by omega),hlen2] at e2;rw[List.getElem?_map] at e1;obtain⟨k,hk,rfl⟩:=aMI.1 e1;obtain⟨hg,e,cc,m,rfl⟩:=h8 _ k b hk e2;exact hg
 ·rw[F4,a6p];refine List.nodup_append.2 ⟨?_,h10,fun a ha b hb e=>h9 b hb (e▸ha)⟩;rw[F4];exact List.nodup_append.2 ⟨h.nodup,by simp [qV],fun a ha b hb=>by
   simp only[qV,pW.id,aME] at hb;subst hb;intro e;exact hn (e▸ha)⟩
theorem QN (ws:List pW) (i:Nat):i∈qV ws.reverse↔i∈qV ws:=by
 induction ws with
 |nil=>simp
 |cons x r ih=>rw[aNf,F4];simp [qV,ih,or_comm]
structure z6 (g:Gh) (w:World) (H:qQ) (vals:List Value) (a:rS):Prop where
 n:a.n=a.ws.reverse.length
 m:D8 H a.ws.reverse a.H.reverse
 args:tY (tN g a.ws.reverse) w a.args.reverse vals
theorem aEA {g:Gh}{w:World}{ws:List pW}{t:Ty}(hp:t.pure=true) {x:t.den}{v:Value}{k:Option Nat}(h:q7 g w (.val t x,k) v):q7 (tN g ws) w (.val t x,none) v:=
 ⟨h.1.imp (fun⟨a,cs,e,q⟩=>⟨a,cs,e,uE (g:=g) (g':=tN g ws) rfl hp q⟩) (fun⟨a,q⟩=>⟨a,uE (g:=g) (g':=tN g ws) rfl hp q⟩),trivial⟩
theorem aEB {H:qQ}{k:Option Nat}{a b:rS}{l m:List pB}(h:xD H k (some ⟨l,a.H,a.ws,a.n⟩)=some b):b.args=l/\xD H k (some ⟨m,a.H,a.ws,a.n⟩)=some ⟨m,b.H,b.ws,b.n⟩:=by
 cases k with
 |none=>cases h
 |some k=>
  simp only[xD] at h⊢;cases hb:pD H k with
  |none=>rw[hb] at h;simp [zT] at h
  |some bl=>
   rw[hb] at h;cases bl with
   |grow e c n=>
    simp only[zT] at h⊢;split at h
    ·cases h
    ·rename_i hc;rw[if_neg hc];cases h;exact⟨rfl,rfl⟩
   |_=>simp [zT] at h
theorem a6q {H:qQ}{toks:List (Nat×Nat)}{o:Nat}{m:List pB}: ∀{os:List Nat}{a b:rS},wP H toks o os (some a)=some b->b.args=a.args/\wP H toks o os (some ⟨m,a.H,a.ws,a.n⟩)=some ⟨m,b.H,b.ws,b.n⟩
 |[],a,b,h=>by simp only[wP,aMt] at h;subst h;exact⟨rfl,rfl⟩
 |q::os,a,b,h=>by
  simp only[wP] at h⊢;have none_no: ∀os,wP H toks o os none=none:=by
   intro os
   induction os with
   |nil=>rfl
   |cons q os ih=>
    have:xD H (vH toks (o+q)) none=none:=by
     cases vH toks (o+q) with
     |none=>rfl
     |some k=>simp only[xD];cases pD H k with
      |none=>rfl
      |some b=>cases b<;>rfl
    simp only[wP,this,ih]
  cases hm:xD H (vH toks (o+q)) (some a) with
  |none=>rw[hm,none_no] at h;cases h
  |some c=>
   rw[hm] at h;obtain⟨h1,h2⟩:=aEB (a:=a) (l:=a.args) (m:=m) hm;obtain⟨h3,h4⟩:=a6q (m:=m) h;rw[h2];exact⟨h3.trans h1,h4⟩
theorem aEC {H:qQ}{t:Ty}{os:List Nat}{i o:Nat}{a b:rS}{m:List pB}(h:uD H t os i o a (pD H i)=some b):uD H t os i o ⟨m,a.H,a.ws,a.n⟩ (pD H i)=some ⟨(.val .ref (some (a.n,0)),none)::m,b.H,b.ws,b.n⟩:=by
 cases hb:pD H i with
 |none=>rw[hb] at h;simp [uD] at h
 |some bl=>
  rw[hb] at h;cases bl with
  |cells u x toks=>
   simp only[uD] at h⊢;cases hy:pS t u x o with
   |none=>rw[hy] at h;simp [C0] at h
   |some y=>
    rw[hy] at h;simp only[C0] at h⊢;split at h
    ·rename_i hc;rw[if_pos hc];exact(a6q (m:=(.val .ref (some (a.n,0)),none)::m) h).2
    ·cases h
  |_=>simp [uD] at h
theorem a6r {g:Gh}{i o:Nat}{p:Pl}{v:Value}: ∀{l:List (Nat×Nat)}{vs:List Value},wH g l vs->g.J i=some p->v= .pointer (some ⟨p.1,p.2+o,none⟩)->wH g (l++[(i,o)]) (vs++[v])
 |[],vs,h,hp,hv=>by rw[show vs=[] from h];exact⟨p,[],hp,by rw[hv];rfl,rfl⟩
 |(_,_)::l,vs,⟨q,vs',h1,h2,h3⟩,hp,hv=>⟨q,vs'++[v],h1,by rw[h2];rfl,a6r h3 hp hv⟩
theorem a6s {α:Type}: ∀(l acc:List α),xC l acc=l.reverse++acc
 |[],_=>rfl
 |x::l,acc=>by simp [xC,a6s l]
theorem a6t {g:Gh}{w:World}{H:qQ}(hH:rH g w H) {t:Ty}{os:List Nat}{i o:Nat}{vals:List Value}{a a':rS}(ha:z6 g w H vals a) {p:Pl}(hp:g.J i=some p) (h:uD H t os i o a (pD H i)=some a'):
  z6 g w H vals ⟨a.args,a'.H,a'.ws,a'.n⟩/\∃more,a'.ws.reverse=a.ws.reverse++more/\a'.args=(.val .ref (some (a.n,0)),none)::a.args/\(tN g a'.ws.reverse).J a.n=some ⟨p.1,p.2+o,p.3⟩:=by
 cases hb:pD H i with
 |none=>rw[hb] at h;simp [uD] at h
 |some b=>
  rw[hb] at h;cases b with
  |cells u x toks=>
   simp only[uD] at h;cases hy:pS t u x o with
   |none=>rw[hy] at h;simp [C0] at h
   |some y=>
    rw[hy] at h;simp only[C0] at h;split at h
    ·rename_i hc;simp only[aMz,aMV] at hc;obtain⟨ks,bs,h1,h2,h3,h4,h5,h6,h7,h8,h9,h10⟩:=QM h;simp only[aNf] at h3 h4 h5 h6 h9;have hnm:i∉qV a.ws.reverse:=fun hmem=>by
      have:=GS.2 ((QN _ _).1 hmem);rw[hc.2] at this;cases this
     have e5:a'.ws.reverse=a.ws.reverse++([pW.box i u x toks o]++ks.map pW.tok):=by rw[h5];simp only[aMC]
     refine⟨⟨by rw[h6];simp only;rw[h5,ha.n];simp [h1];omega,?_,?_⟩,_,e5,h3,?_⟩
     ·simp only;rw[h4,h5,ha.n];exact ha.m.box hb hy hc.1 hnm h1 h2 h7 h8 h9 h10
     ·simp only;rw[e5];exact JC (JB g w _ _) ha.args
     ·show uJ g a'.ws.reverse[a.n]? =_;rw[e5,ha.n,aMD (Nat.le_refl _),aOv];show (g.J i).map _=_;rw[hp];rfl
    ·cases h
  |grow=>simp [uD] at h
  |row=>simp [uD] at h
  |map=>simp [uD] at h
  |iter=>simp [uD] at h
  |dead=>simp [uD] at h
theorem a6u {H:qQ}{f:FuncId}{args0:List pB}: ∀{ks:List (Ty×List Nat)}{cs ids:List (Nat×Nat)}{a a':rS},vU H f args0 ks cs ids (some a)=some a'->∃s more,a'.args=s::args0/\a'.ws.reverse=a.ws.reverse++more
 |[],[],ids,a,a',h=>by
  simp only[vU,aMt] at h;subst h;exact⟨_,[],rfl,by simp⟩
 |[],_::_,_,_,_,h=>by simp [vU] at h
 |_::_,[],_,_,_,h=>by simp [vU] at h
 |(t,os)::ks,(i,o)::cs,ids,a,a',h=>by
  simp only[vU] at h;cases hb:uD H t os i o a (pD H i) with
  |none=>rw[hb] at h;cases ks<;>cases cs<;>simp [vU] at h
  |some b=>
   rw[hb] at h;obtain⟨s,more,h1,h2⟩:=a6u h;obtain⟨more0,h3⟩: ∃more0,b.ws.reverse=a.ws.reverse++more0:=by
    unfold uD at hb;split at hb
    ·unfold C0 at hb;split at hb
     ·split at hb
      ·obtain⟨ks,bs,_,_,_,_,h5,_⟩:=QM hb;exact⟨_,by rw[h5];simp only[aNf];exact aMC ..⟩
      ·cases hb
     ·cases hb
    ·cases hb
   exact⟨s,more0++more,h1,by rw[h2,h3,aMC]⟩
theorem a6v {g:Gh}{w:World}{H:qQ}(hH:rH g w H) {f:FuncId}{args0:List pB}{vals:List Value}: ∀{ks:List (Ty×List Nat)}{cs:List (Nat×Nat)}{ids:List (Nat×Nat)}{vs us:List Value}{a a':rS},z6 g w H vals ⟨args0,a.H,a.ws,a.n⟩->
  wH g cs vs->wH (tN g a.ws.reverse) ids.reverse us->vU H f args0 ks cs ids (some a)=some a'->
  z6 g w H vals ⟨args0,a'.H,a'.ws,a'.n⟩/\∃ids',a'.args=(.val .clo (some (f,ids')),none)::args0/\(∃more,a'.ws.reverse=a.ws.reverse++more)/\wH (tN g a'.ws.reverse) ids' (us++vs)
 |[],[],ids,vs,us,a,a',ha,hv,hu,h=>by
  simp only[vU,a6s,List.append_nil,aMt] at h;subst h;rw[show vs=[] from hv,List.append_nil];exact⟨ha,_,rfl,⟨[],by simp⟩,hu⟩
 |[],_::_,_,_,_,_,_,_,_,_,h=>by simp [vU] at h
 |_::_,[],_,_,_,_,_,_,_,_,h=>by simp [vU] at h
 |(t,os)::ks,(i,o)::cs,ids,vs,us,a,a',ha,⟨p,vs',hp,hv1,hv2⟩,hu,h=>by
  simp only[vU] at h;cases hb:uD H t os i o a (pD H i) with
  |none=>rw[hb] at h;cases ks<;>cases cs<;>simp [vU] at h
  |some b=>
   rw[hb] at h;have hb':uD H t os i o ⟨args0,a.H,a.ws,a.n⟩ (pD H i)=some ⟨(.val .ref (some (a.n,0)),none)::args0,b.H,b.ws,b.n⟩:=aEC hb;obtain⟨q1,more,q2,q3,q4⟩:=a6t hH ha hp hb';simp only at q1 q2 q3 q4;have hmono:=JB g w a.ws.reverse more;rw[<-q2] at hmono;have hu2:wH (tN g b.ws.reverse) ((a.n,0)::ids).reverse (us++[.pointer (some ⟨p.1,p.2+o,none⟩)]):=by
    simp only[aNf];exact a6r (V3 hmono.J hu) q4 (by simp)
   obtain⟨z1,ids',z2,⟨more',z3⟩,z4⟩:=a6v hH (a:=b) q1 hv2 hu2 h;refine⟨z1,ids',z2,⟨more++more',by rw[z3,q2,aMC]⟩,?_⟩;rw[hv1];rw[aMC] at z4;exact z4
theorem a6w {g:Gh}{w:World}{H:qQ}(hH:rH g w H) {p:PK}{s:pB}{v:Value}{vals:List Value}{a a':rS}(ha:z6 g w H vals a) (hs:q7 g w s v) (h:wG H a p s=some a'):z6 g w H (vals++[v]) a':=by
 unfold wG at h;split at h
 ·rename_i f k;simp only[OT,aMt] at h;subst h;refine⟨ha.n,ha.m,?_⟩;simp only[aNf];refine F5 ha.args ⟨?_,trivial⟩;rcases hs.1 with⟨h1,_⟩ |⟨h1,vs,h2,h3⟩
  ·cases h1
  ·rw[show vs=[] from h2] at h3;exact .inr ⟨rfl,[],rfl,h3⟩
 ·rename_i t x k _;simp only[OS] at h;split at h
  ·rename_i hp;simp only[aMt] at h;subst h;refine⟨ha.n,ha.m,?_⟩;simp only[aNf];exact F5 ha.args (aEA hp hs)
  ·cases h
 ·rename_i t x k;cases hb:pD H k with
  |none=>rw[hb] at h;simp [zU] at h
  |some b=>
   rw[hb] at h;cases b with
   |grow e c m=>
    simp only[zU] at h;split at h
    ·rename_i hc;simp only[aMz,aMV] at hc;simp only[aMt] at h;subst h;have hnm:k∉qV a.ws.reverse:=fun hmem=>by
      have:=GS.2 ((QN _ _).1 hmem);rw[hc.2] at this;cases this
     refine⟨by simp [ha.n],by simpa using ha.m.tok (b0:= .grow e c m) hb hnm,?_⟩;simp only[aNf];refine F5 (JC (JB g w _ _) ha.args) (QG (g:=g) (g':=tN g (a.ws.reverse++[.tok k])) (k':=some a.n) rfl hc.1 hs (fun c' e1=> ?_) (fun e1=>by cases e1));cases e1;refine⟨_,rfl,fun n u hu=> ?_⟩;show yZ g (a.ws.reverse++[pW.tok k])[a.n]? n=some u;rw[ha.n,aMD (Nat.le_refl _),aOv];exact hu
    ·cases h
   |cells=>simp [zU] at h
   |row=>simp [zU] at h
   |map=>simp [zU] at h
   |iter=>simp [zU] at h
   |dead=>simp [zU] at h
 ·rename_i t os i o k;obtain⟨p,hp,hv⟩:=yF hs.1;obtain⟨h1,more,h2,h3,h4⟩:=a6t hH ha hp h;refine⟨h1.n,h1.m,?_⟩;rw[h3];simp only[aNf];exact F5 h1.args ⟨.inr ⟨rfl,_,h4,by rw[hv];rfl⟩,trivial⟩
 ·rename_i i k;cases hb:pD H i with
  |none=>rw[hb] at h;simp [zV] at h
  |some b=>
   rw[hb] at h;cases b with
   |map s t l=>
    simp only[zV] at h;split at h
    ·rename_i hc;simp only[aMz,aMV] at hc;simp only[aMt] at h;subst h;have hnm:i∉qV a.ws.reverse:=fun hmem=>by
      have:=GS.2 ((QN _ _).1 hmem);rw[hc.2] at this;cases this
     refine⟨by simp [ha.n],by simpa using ha.m.tok (b0:= .map s t l) ⟨hb,hc.1.1,hc.1.2⟩ hnm,?_⟩;simp only[aNf];obtain⟨p,hp,hv⟩: ∃p,g.J i=some p/\v= .map (some p.1):=by
      obtain⟨p,h1,e⟩:=A2 rfl hs.1;simp only[aNo,and_true] at e;exact⟨p,h1,e⟩
     refine F5 (JC (JB g w _ _) ha.args) ⟨.inr ⟨rfl,p,?_,by rw[hv]⟩,trivial⟩;show uJ g (a.ws.reverse++[pW.tok i])[a.n]? =_;rw[ha.n,aMD (Nat.le_refl _),aOv];exact hp
    ·cases h
   |cells=>simp [zV] at h
   |row=>simp [zV] at h
   |grow=>simp [zV] at h
   |iter=>simp [zV] at h
   |dead=>simp [zV] at h
 ·rename_i k n k';cases hb:pD H k with
  |none=>rw[hb] at h;simp [zW] at h
  |some b=>
   rw[hb] at h;cases b with
   |row e t l m=>
    simp only[zW] at h;split at h
    ·rename_i hc;simp only[aMz,aMV] at hc;simp only[aMt] at h;subst h;have hnm:k∉qV a.ws.reverse:=fun hmem=>by
      have:=GS.2 ((QN _ _).1 hmem);rw[hc.2] at this;cases this
     refine⟨by simp [ha.n],by simpa using ha.m.tok (b0:= .row e t l m) ⟨hb,hc.1⟩ hnm,?_⟩;simp only[aNf];obtain⟨h1,h2⟩:=hs.1;refine F5 (JC (JB g w _ _) ha.args) ⟨⟨?_,h2⟩,trivial⟩;show yZ g (a.ws.reverse++[pW.tok k])[a.n]? n=_;rw[ha.n,aMD (Nat.le_refl _),aOv];exact h1
    ·cases h
   |cells=>simp [zW] at h
   |grow=>simp [zW] at h
   |map=>simp [zW] at h
   |iter=>simp [zW] at h
   |dead=>simp [zW] at h
 ·rename_i ks f cs k';obtain⟨vs,hv1,hv2⟩: ∃vs,wH g cs vs/\v= .func (.func f) #[] vs.toArray:=by
   rcases hs.1 with⟨h1,_⟩ |⟨_,vs,h2,h3⟩
   ·cases h1
   ·simp only[aNo,and_true] at h3;exact⟨vs,h2,h3⟩
  obtain⟨z1,ids',z2,_,z4⟩:=a6v hH (ids:=[]) (a:=a) (us:=[]) ha hv1 rfl h;refine⟨z1.n,z1.m,?_⟩;rw[z2];simp only[aNf];exact F5 z1.args ⟨.inr ⟨rfl,vs,by simpa using z4,by rw[hv2]⟩,trivial⟩
 ·cases h
theorem a6x {g:Gh}{w:World}{H:qQ}(hH:rH g w H): ∀{ps:List PK}{ss:List pB}{vs vals:List Value}{a a':rS},z6 g w H vals a->tY g w ss vs->vV H ps ss (some a)=some a'->z6 g w H (vals++vs) a'
 |[],[],vs,vals,a,a',ha,hs,h=>by
  simp only[vV,aMt] at h;subst h;rw[show vs=[] from hs,List.append_nil];exact ha
 |p::ps,s::ss,vs,vals,a,a',ha,⟨v,vs',e,h1,h2⟩,h=>by
  simp only[vV] at h;cases ho:wG H a p s with
  |none=>rw[ho] at h;cases ps<;>cases ss<;>simp [vV] at h
  |some a1=>
   rw[ho] at h;have:=a6x hH (a6w hH ha h1 ho) h2 h;rw[e];simpa using this
 |[],_::_,_,_,_,_,_,_,h=>by simp [vV] at h
 |_::_,[],_,_,_,_,_,_,h=>by simp [vV] at h
theorem z6.nil (g:Gh) (w:World) (H:qQ):z6 g w H [] ⟨[],[],[],0⟩:=
 ⟨rfl,⟨rfl,fun c wh b h _=>by simp at h,by simp [qV]⟩,rfl⟩
theorem a6y: ∀(l:List p8) (n:Nat),EU l n=l[n]?
 |[],_=>by simp [EU]
 |_::_,0=>rfl
 |_::r,n+1=>by simpa[EU] using a6y r n
theorem aED {g:Gh}{w:World}: ∀{t:Ty}{x:t.den}{cs:List Value}{o:Nat}{y:Option (Nat×Nat)},Rd g w t x cs->CX t x o=some y->∃cs',F2 g y cs':=by
 intro t
 induction t with
 |pair a b iha ihb=>
  intro x cs o y r h;obtain⟨c1,c2,_,r1,r2⟩:=r;simp only[CX] at h;split at h
  ·exact iha r1 h
  ·exact ihb r2 h
 |rl e u=>
  intro x cs o y r h;cases o with
  |zero=>simp only[CX,aMt] at h;subst h;exact⟨cs,r⟩
  |succ o=>simp [CX] at h
 |_=>intro x cs o y r h;cases o<;>simp [CX] at h
theorem aEE {g:Gh}{w:World}{H:qQ}(hH:rH g w H) {vals:List Value}{a:rS}(ha:z6 g w H vals a) (c q:Nat) (pk:PK): ∃v,q7 g w (GA q pk (EU a.H c)) v:=by
 rw[a6y];have any: ∃v,q7 g w (.any,none) v:=⟨undef,trivial,trivial⟩;cases hb:a.H[c]? with
 |none=>cases pk<;>exact any
 |some b=>
  cases b with
  |cells t y ts=>
   have hlt:c<a.H.length:=(aMG.1 hb).1;have hb':a.H.reverse[a.H.length-1-c]? =some (.cells t y ts):=by
    rw[List.getElem?_reverse (by omega),show a.H.length-1- (a.H.length-1-c)=c by omega];exact hb
   obtain⟨wh,hwh⟩: ∃wh,a.ws.reverse[a.H.length-1-c]? =some wh:=by
    have hl:=ha.m.len;simp only[List.length_reverse] at hl;exact⟨_,aMA (by rw[List.length_reverse];omega)⟩
   have hw:=ha.m.ok _ wh _ hwh hb';cases wh with
   |tok k=>exact hw.elim
   |box i u x toks off=>
    obtain⟨h1,h2,_⟩:=hw;obtain⟨p,cs,hp,hR,_⟩:=hH.blk i _ h1;obtain⟨c1,c2,c3,hcs,hl,hR2⟩:=C8 hR h2;cases pk with
    |p t' os=>
     simp only[GA];cases hg:pS .ref t y q with
     |none=>exact any
     |some z=>
      cases z with
      |none=>exact any
      |some z=>
       obtain⟨d1,d2,d3,_,_,hR3⟩:=C8 hR2 hg;obtain⟨p',hp',e⟩:=hR3;exact⟨_,.inr ⟨rfl,p',hp',rfl⟩,trivial⟩
    |m=>
     simp only[GA];cases hg:pS .mp t y q with
     |none=>exact any
     |some z=>
      cases z with
      |none=>exact any
      |some z=>
       obtain⟨d1,d2,d3,_,_,hR3⟩:=C8 hR2 hg;obtain⟨p',hp',e⟩:=hR3;exact⟨_,.inr ⟨rfl,p',hp',rfl⟩,trivial⟩
    |v=>exact any
    |own=>exact any
    |f ks=>exact any
    |r=>
     simp only[GA];cases hg:CX t y q with
     |none=>exact any
     |some z=>
      cases z with
      |none=>exact any
      |some z=>
       obtain⟨cs',hR3⟩:=aED hR2 hg;obtain⟨v,hv,_,hsh⟩:=hR3;exact⟨v,⟨hv,hsh⟩,trivial⟩
  |_=>cases pk<;>exact any
theorem a6z {g:Gh}{w:World}{H:qQ}(hH:rH g w H) {vals:List Value}: ∀{gs:List (Nat×Nat×PK)}{a a':rS},z6 g w H vals a->yU H gs (some a)=some a'->z6 g w H vals a'
 |[],a,a',ha,h=>by
  simp only[yU,aMt] at h;subst h;exact ha
 |(c,q,pk)::gs,a,a',ha,h=>by
  simp only[yU] at h;obtain⟨v,hv⟩:=aEE hH ha (a.n-1-c) q pk;cases hp:wG H a pk (GA q pk (EU a.H (a.n-1-c))) with
  |none=>
   rw[hp] at h;simp only[IN] at h;cases gs<;>simp [yU] at h
  |some b=>
   rw[hp] at h;simp only[IN] at h;have hb:=a6w hH ha hv hp;refine a6z hH (a:=⟨a.args,b.H,b.ws,b.n⟩) ⟨hb.n,hb.m,?_⟩ h;obtain⟨s,more,e1,e2⟩: ∃s more,b.args=s::a.args/\b.ws.reverse=a.ws.reverse++more:=by
    have hp':=hp;unfold wG at hp';split at hp'
    ·simp only[OT,aMt] at hp';subst hp';exact⟨_,[],rfl,by simp⟩
    ·simp only[OS] at hp';split at hp'
     ·simp only[aMt] at hp';subst hp';exact⟨_,[],rfl,by simp⟩
     ·cases hp'
    ·unfold zU at hp';split at hp'
     ·split at hp'
      ·simp only[aMt] at hp';subst hp';exact⟨_,[_],rfl,aNf ..⟩
      ·cases hp'
     ·cases hp'
    ·unfold uD at hp';split at hp'
     ·unfold C0 at hp';split at hp'
      ·split at hp'
       ·obtain⟨ks,bs,_,_,h3,_,h5,_⟩:=QM hp';exact⟨_,_,h3,by rw[h5];simp only[aNf];exact aMC ..⟩
       ·cases hp'
      ·cases hp'
     ·cases hp'
    ·unfold zV at hp';split at hp'
     ·split at hp'
      ·simp only[aMt] at hp';subst hp';exact⟨_,[_],rfl,aNf ..⟩
      ·cases hp'
     ·cases hp'
    ·unfold zW at hp';split at hp'
     ·split at hp'
      ·simp only[aMt] at hp';subst hp';exact⟨_,[_],rfl,aNf ..⟩
      ·cases hp'
     ·cases hp'
    ·exact a6u hp'
    ·cases hp'
   rw[e2];exact JC (JB g w _ _) ha.args
theorem aEF {b:Option p8}{l:Option (List p8)}{r:List p8}(h:U5 b l=some r): ∃b' l',b=some b'/\l=some l'/\r=b'::l':=by
 cases b<;>cases l<;>simp [U5] at h
 exact⟨_,_,rfl,rfl,h.symm⟩
theorem a6A {W:List pW}: ∀{L0 L:List p8},EV W L0=some L->L.length=L0.length/\∀(c:Nat) (b:p8),L[c]? =some b->∃b0,L0[c]? =some b0/\OV W b0=some b
 |[],L,h=>by
  simp only[EV,aMt] at h;subst h;exact⟨rfl,fun c b h=>by simp at h⟩
 |b0::L0,L,h=>by
  simp only[EV] at h;obtain⟨b',l',h1,h2,rfl⟩:=aEF h;obtain⟨k1,k2⟩:=a6A h2;refine⟨by simp [k1],fun c b hc=> ?_⟩;cases c with
  |zero=>simp only[aMY,aMt] at hc;subst hc;exact⟨b0,rfl,h1⟩
  |succ c=>obtain⟨b1,q1,q2⟩:=k2 c b (by simpa using hc);exact⟨b1,by simpa using q1,q2⟩
theorem D8.ren {H:qQ}{ws:List pW}{L0 L:List p8}(h:D8 H ws L0) (hc:EV ws L0=some L):MC H ws L:=by
 obtain⟨k1,k2⟩:=a6A hc;refine⟨h.len.trans k1.symm,fun c wh b hw hb=> ?_,h.nodup⟩;obtain⟨b0,q1,q2⟩:=k2 c b hb;have hok:=h.ok c wh b0 hw q1;cases b0 with
 |cells t y ts=>
  cases wh with
  |tok k=>exact hok.elim
  |box i u x toks o=>
   obtain⟨h1,h2,h3⟩:=hok;simp only[OV] at q2;split at q2
   ·rename_i hp;obtain rfl:=aMy q2;exact⟨h1,⟨y,h2,.inl ⟨hp,rfl⟩⟩,h3⟩
   ·cases hy:AH ws t y with
    |none=>rw[hy] at q2;cases q2
    |some z=>
     rw[hy] at q2;obtain rfl:=aMy q2;exact⟨h1,⟨y,h2,.inr hy⟩,h3⟩
 |_=>
  simp only[OV,aMt] at q2;subst q2;cases wh<;>exact hok
theorem xZ: ∀(W:List pW) (c:Nat),yC W c=W[c]?
  |[],c=>by simp [yC]
  |_::_,0=>rfl
  |_::W,c+1=>by simpa[yC] using xZ W c
theorem a6B: ∀L:List p8,pT L=L.length
  |[]=>rfl
  |_::L=>by simp [pT,a6B L]
theorem a6C {α:Type}: ∀(l acc:List α),xC l acc=l.reverse++acc
  |[],_=>rfl
  |x::l,acc=>by simp [xC,a6C l]
theorem VZ {a:Option (Nat×p8)}{b:Option (List (Nat×p8))}{l:List (Nat×p8)}(h:LE a b=some l): ∃q r,a=some q∧b=some r∧l=q::r:=by
  cases a<;>cases b<;>simp [LE] at h
  exact⟨_,_,rfl,rfl,h.symm⟩
def F6 (base n:Nat) (W ws:List pW) (R:List p8) (c0:Nat) (id:Nat) (b:p8):Prop:=
  (∃(c:Nat) (i:Nat) (u:Ty) (x:u.den) (toks:List (Nat×Nat)) (o:Nat) (b0:p8),ws[c]? =some (.box i u x toks o)∧id=i∧R[c]? =some b0∧vW base n i o W u x toks b0=some (i,b))∨
  (∃(c k:Nat) (b0:p8),ws[c]? =some (.tok k)∧id=k∧R[c]? =some b0∧xR k b0=some (k,b))∨
  (∃(c:Nat) (b0:p8),R[c]? =some b0∧id=base+(c0+c)∧ws[c]? =none∧B4 base n (c0+c) W b0=some (id,b))
theorem F6.succ {base n:Nat}{W:List pW}{wh:pW}{ws:List pW}{b0:p8}{R:List p8}{c0 id:Nat}{b:p8}(h:F6 base n W ws R (c0+1) id b):F6 base n W (wh::ws) (b0::R) c0 id b:=by
  rcases h with⟨c,i,u,x,toks,o,b1,h1,h2,h3,h4⟩ |⟨c,k,b1,h1,h2,h3,h4⟩ |⟨c,b1,h1,h2,h3,h4⟩
  ·exact .inl ⟨c+1,i,u,x,toks,o,b1,by simpa using h1,h2,by simpa using h3,h4⟩
  ·exact .inr (.inl ⟨c+1,k,b1,by simpa using h1,h2,by simpa using h3,h4⟩)
  ·exact .inr (.inr ⟨c+1,b1,by simpa using h1,by rw[h2];omega,by simpa using h3,by rw[show c0+(c+1)=c0+1+c from by omega];exact h4⟩)
theorem F6.succ0 {base n:Nat}{W:List pW}{b0:p8}{R:List p8}{c0 id:Nat}{b:p8}(h:F6 base n W [] R (c0+1) id b):F6 base n W [] (b0::R) c0 id b:=by
  rcases h with⟨c,i,u,x,toks,o,b1,h1,_⟩ |⟨c,k,b1,h1,_⟩ |⟨c,b1,h1,h2,h3,h4⟩
  ·simp at h1
  ·simp at h1
  ·exact .inr (.inr ⟨c+1,b1,by simpa using h1,by rw[h2];omega,by simp,by rw[show c0+(c+1)=c0+1+c from by omega];exact h4⟩)
theorem a6D {i:Nat}{t:Ty}{ts:List (Nat×Nat)}{o:Option t.den}{q:Nat×p8}(h:a47 i t ts o=some q): ∃y,o=some y∧q=(i,.cells t y ts):=by
  cases o with
  |none=>cases h
  |some y=>exact⟨y,rfl,(aMy h).symm⟩
theorem aEG {base n c:Nat}{W:List pW}{b:p8}{q:Nat×p8}(h:B4 base n c W b=some q):q.1=base+c:=by
  cases b<;>simp only[B4] at h
  · split at h
    ·exact(aMy h)▸rfl
    ·obtain⟨y,_,rfl⟩:=a6D h;rfl
  ·exact(aMy h)▸rfl
  · split at h
    ·exact(aMy h)▸rfl
    ·cases h
  · split at h
    ·exact(aMy h)▸rfl
    ·cases h
  ·cases h
  ·exact(aMy h)▸rfl
def bY (base n:Nat) (W:List pW) (t:Ty) (x y:t.den):Prop:=(t.pure=true∧y=x)∨zX base n W t x=some y
theorem W3 {base n i o:Nat}{W:List pW}{u t:Ty}{x:u.den}{y:t.den}{toks ts:List (Nat×Nat)}{q:Nat×p8}(h:vW base n i o W u x toks (.cells t y ts)=some q):
    ∃y2 z,bY base n W t y y2∧rM t y2 u x o=some z∧q=(i,.cells u z (pN (B3 base n W o ts) (tV toks o t.cells))):=by
  simp only[vW] at h;split at h
  · rename_i hp
    cases hs:rM t y u x o with
    |none=>rw[hs] at h;simp [OX] at h
    |some z=>rw[hs] at h;exact⟨y,z,.inl ⟨hp,rfl⟩,hs,(aMy h).symm⟩
  · cases hy:zX base n W t y with
    |none=>rw[hy] at h;cases h
    | some y2=>
      rw[hy] at h;simp only[a48] at h;cases hs:rM t y2 u x o with
      |none=>rw[hs] at h;simp [OX] at h
      |some z=>rw[hs] at h;exact⟨y2,z,.inr hy,hs,(aMy h).symm⟩
theorem aEH {k:Nat}{b:p8}{q:Nat×p8}(h:xR k b=some q):q.1=k:=by
  cases b<;>simp only[xR] at h
  ·cases h
  ·exact(aMy h)▸rfl
  · split at h
    ·exact(aMy h)▸rfl
    ·cases h
  · split at h
    ·exact(aMy h)▸rfl
    ·cases h
  ·cases h
  ·exact(aMy h)▸rfl
theorem aEI {base n i o:Nat}{W:List pW}{u:Ty}{x:u.den}{toks:List (Nat×Nat)}{b:p8}{q:Nat×p8}(h:vW base n i o W u x toks b=some q):q.1=i:=by
  cases b with
  |cells t y ts=>obtain⟨y2,z,_,_,rfl⟩:=W3 h;rfl
  |grow=>simp [vW] at h
  |row=>simp [vW] at h
  |map=>simp [vW] at h
  |iter=>simp [vW] at h
  |dead=>simp only[vW,aMt] at h;exact h▸rfl
theorem JD {base n:Nat}{W:List pW}: ∀{ws:List pW}{R:List p8}{c0:Nat}{upd:List (Nat×p8)},yV base n W c0 ws R=some upd→
    ws.length≤R.length∧(∀id b,pD upd id=some b→F6 base n W ws R c0 id b)∧(∀id,id∈pE upd→∃b,pD upd id=some b)∧
    (∀(c:Nat) wh,ws[c]? =some wh→wh.id∈pE upd)∧(∀(c:Nat) b,R[c]? =some b→ws[c]? =none→base+(c0+c)∈pE upd)
  | [],[],_,upd,h=>by
    simp only[yV,aMt] at h;subst h;exact⟨Nat.le_refl _,fun _ _ h=>by simp [pD] at h,fun _ h=>by simp [pE] at h,fun _ _ h=>by simp at h,fun _ _ h=>by simp at h⟩
  | [],b::R,c0,upd,h=>by
    simp only[yV] at h;obtain⟨q,r,h1,h2,rfl⟩:=VZ h;obtain⟨k1,k2,k3,k4,k5⟩:=JD h2;have hq:=aEG h1;obtain⟨q1,q2⟩:=q;simp only at hq;subst hq;refine⟨by simp,fun id b' hg=> ?_,fun id hi=> ?_,fun c wh hw=>by simp at hw,fun c b' hb hn=> ?_⟩
    · simp only[pD] at hg
      split at hg
      · rename_i e
        obtain rfl:=aMy hg;subst e;exact .inr (.inr ⟨0,b,rfl,rfl,by simp,h1⟩)
      ·exact(k2 id b' hg).succ0
    · simp only[pD]
      by_cases e:base+c0=id
      ·rw[if_pos e];exact⟨_,rfl⟩
      · rw[if_neg e]
        simp only[pE,aMK] at hi;exact k3 id (hi.resolve_left (Ne.symm e))
    · cases c with
      |zero=>simp [pE]
      | succ c=>
        have:=k5 c b' (by simpa using hb) (by simp);simp only[pE,aMK];right;rw[show base+(c0+(c+1))=base+(c0+1+c) from by omega];exact this
  | .box i u x toks o::ws,[],c0,upd,h=>by simp [yV] at h
  | .tok k::ws,[],c0,upd,h=>by simp [yV] at h
  | .box i u x toks o::ws,b::R,c0,upd,h=>by
    simp only[yV] at h;obtain⟨q,r,h1,h2,rfl⟩:=VZ h;obtain⟨k1,k2,k3,k4,k5⟩:=JD h2;have hq:=aEI h1;obtain⟨q1,q2⟩:=q;simp only at hq;subst hq;refine⟨by simp;omega,fun id b' hg=> ?_,fun id hi=> ?_,fun c wh hw=> ?_,fun c b' hb hn=> ?_⟩
    · simp only[pD] at hg
      split at hg
      · rename_i e
        obtain rfl:=aMy hg;subst e;exact .inl ⟨0,q1,u,x,toks,o,b,rfl,rfl,rfl,h1⟩
      ·exact(k2 id b' hg).succ
    · simp only[pD]
      by_cases e:q1=id
      ·rw[if_pos e];exact⟨_,rfl⟩
      · rw[if_neg e]
        simp only[pE,aMK] at hi;exact k3 id (hi.resolve_left (Ne.symm e))
    · cases c with
      |zero=>simp only[aMY,aMt] at hw;subst hw;simp [pE,pW.id]
      |succ c=>simp only[pE,aMK];exact .inr (k4 c wh (by simpa using hw))
    · cases c with
      |zero=>simp at hn
      | succ c=>
        have:=k5 c b' (by simpa using hb) (by simpa using hn);simp only[pE,aMK];right;rw[show base+(c0+(c+1))=base+(c0+1+c) from by omega];exact this
  | .tok k::ws,b::R,c0,upd,h=>by
    simp only[yV] at h;obtain⟨q,r,h1,h2,rfl⟩:=VZ h;obtain⟨k1,k2,k3,k4,k5⟩:=JD h2;have hq:=aEH h1;obtain⟨q1,q2⟩:=q;simp only at hq;subst hq;refine⟨by simp;omega,fun id b' hg=> ?_,fun id hi=> ?_,fun c wh hw=> ?_,fun c b' hb hn=> ?_⟩
    · simp only[pD] at hg
      split at hg
      · rename_i e
        obtain rfl:=aMy hg;subst e;exact .inr (.inl ⟨0,q1,b,rfl,rfl,rfl,h1⟩)
      ·exact(k2 id b' hg).succ
    · simp only[pD]
      by_cases e:q1=id
      ·rw[if_pos e];exact⟨_,rfl⟩
      · rw[if_neg e]
        simp only[pE,aMK] at hi;exact k3 id (hi.resolve_left (Ne.symm e))
    · cases c with
      |zero=>simp only[aMY,aMt] at hw;subst hw;simp [pE,pW.id]
      |succ c=>simp only[pE,aMK];exact .inr (k4 c wh (by simpa using hw))
    · cases c with
      |zero=>simp at hn
      | succ c=>
        have:=k5 c b' (by simpa using hb) (by simpa using hn);simp only[pE,aMK];right;rw[show base+(c0+(c+1))=base+(c0+1+c) from by omega];exact this
def sB (g g':Gh) (base:Nat) (W:List pW) (ids:List Nat):Gh:=
  ⟨g'.S,fun i=>if base≤i∧i∈ids then g'.J (i-base) else match uN i W 0 with|some c=>g'.J c|none=>g.J i,
   fun i=>if base≤i∧i∈ids then g'.cur (i-base) else match uN i W 0 with|some c=>g'.cur c|none=>g.cur i⟩
theorem QO {n c:Nat}{wh:Option pW}:IP n c wh=true↔c<n∧wh=none:=by
  cases wh with
  |none=>simp [IP]
  |some wh=>simp [IP]
theorem aEJ {base n c i:Nat}{wh:Option pW}(h:yD base n c wh=some i):wh=some (.tok i)∨(wh=none∧c<n∧i=base+c):=by
  cases wh with
  | none=>
    simp only[yD] at h;split at h
    ·rename_i hc;exact .inr ⟨rfl,hc,(aMy h).symm⟩
    ·cases h
  | some wh=>
    cases wh with
    |box=>cases h
    |tok k=>simp only[yD,aMt] at h;subst h;exact .inl rfl
theorem QP {i:Nat}: ∀{ws:List pW}{c0:Nat},(∀c:Nat,ws[c]? ≠some (.tok i))→uN i ws c0=none
  |[],_,_=>rfl
  | .tok j::r,c0,h=>by
    simp only[uN];split
    ·rename_i e;subst e;exact absurd rfl (h 0)
    ·exact QP (fun c=>by have:=h (c+1);simpa using this)
  | .box _ _ _ _ _::r,c0,h=>by
    simp only[uN];exact QP (fun c=>by have:=h (c+1);simpa using this)
theorem aEK {i c:Nat}{ws:List pW}(hnd:(qV ws).Nodup) (h:ws[c]? =some (.tok i)):uN i ws 0=some c:=by
  cases hc:uN i ws 0 with
  | none=>
    exfalso
    have: ∀{ws:List pW}{c0 c:Nat},ws[c]? =some (.tok i)→uN i ws c0≠none:=by
      intro ws
      induction ws with
      |nil=>intro c0 c h;simp at h
      | cons wh r ih=>
        intro c0 c h;cases c with
        | zero=>
          simp only[aMY,aMt] at h;subst h;simp [uN]
        | succ c=>
          simp only[aNd] at h;cases wh with
          |box=>exact ih h
          | tok j=>
            simp only[uN];split
            ·simp
            ·exact ih h
    exact this h hc
  | some d=>
    obtain⟨d',e1,h2⟩:=JA hc;rw[aM3] at e1;subst e1;rw[QL hnd h h2 rfl]
theorem Fr.mono {A B:Nat→Nat→Prop}{w w':World}{S S':Nat→Nat→Prop}(h:Fr A w w' S S') (hAB: ∀b o,A b o→B b o):Fr B w w' S S':=
  ⟨h.os,h.tape,h.output,h.size,fun b hb hn=>h.blk b hb (fun o ho=>hn o (hAB b o ho)),fun b o hb hn=>h.cell b o hb (fun ho=>hn (hAB b o ho)),fun b o hs=>(h.new b o hs).imp id (Or.imp id (hAB b o)),fun b s hs=>(h.shape b s hs).imp id fun h o=>hAB b o (h o)⟩
theorem QQ {base n:Nat}{W:List pW}{o:Nat}: ∀{ts:List (Nat×Nat)}{q k:Nat},(q,k)∈B3 base n W o ts→∃q' c,(q',c)∈ts∧yD base n c (yC W c)=some k∧q=o+q'
  |[],_,_,h=>by simp [B3] at h
  | (q',c)::r,q,k,h=>by
    simp only[B3] at h;cases hn:yD base n c (yC W c) with
    | none=>
      rw[hn] at h;obtain⟨a,b,h1,h2⟩:=QQ h;exact⟨a,b,aMH _ h1,h2⟩
    | some k'=>
      rw[hn] at h;rcases aMK.1 h with h|h
      · simp only[aMX] at h
        obtain⟨rfl,rfl⟩:=h;exact⟨q',c,by simp,hn,rfl⟩
      · obtain⟨a,b,h1,h2⟩:=QQ h
        exact⟨a,b,aMH _ h1,h2⟩
theorem v8 {α:Type}{x:α}: ∀{l m:List α},x∈pN l m↔x∈l∨x∈m
  |[],m=>by simp [pN]
  |y::l,m=>by simp [pN,v8 (l:=l),or_assoc]
theorem W4: ∀{toks:List (Nat×Nat)}{off n q k:Nat},(q,k)∈tV toks off n→(q,k)∈toks∧¬(off≤q∧q<off+n)
  |[],_,_,_,_,h=>by simp [tV] at h
  | (q',k')::r,off,n,q,k,h=>by
    simp only[tV] at h;split at h
    · obtain⟨h1,h2⟩:=W4 h
      exact⟨aMH _ h1,h2⟩
    · rename_i hn
      rcases aMK.1 h with h|h
      · cases h
        exact⟨by simp,hn⟩
      · obtain⟨h1,h2⟩:=W4 h
        exact⟨aMH _ h1,h2⟩
section
variable {g g':Gh}{w w':World}{H:qQ}{W:List pW}{L:List p8}{r:pG}{v:Value}{base:Nat}{upd:List (Nat×p8)}
variable (hH:rH g w H) (hm:MC H W L) (hr:GR (tN g W) w L r g' w' v) (hb:yV base r.H.length W 0 W r.H=some upd) (hf: ∀i,i∈pE upd→base≤i→g.J i=none∧∀n,g.cur i n=none)
include hH hm hr hb hf
theorem CB {c:Nat}{wh:pW}(hw:W[c]? =some wh):wh.id∈pE upd∧wh.id<base∧∃b,L[c]? =some b∧QI H W wh b:=by
  have hin:=(JD hb).2.2.2.1 c wh hw;have hlt:c<L.length:=hm.len▸(aMG.1 hw).1;have hok:=hm.ok c wh _ hw (aMA hlt);refine⟨hin,Nat.lt_of_not_le fun hle=> ?_,_,aMA hlt,hok⟩;have hfr:=hf _ hin hle;cases wh with
  | box i u x toks o=>
    cases hL:L[c] with
    | cells t y ts=>
      rw[hL] at hok;obtain⟨p,cs,hp,_⟩:=hH.blk i _ hok.1;rw[show (pW.box i u x toks o).id=i from rfl] at hfr;rw[hfr.1] at hp;cases hp
    |_=>rw[hL] at hok;exact hok.elim
  | tok k=>
    cases hL:L[c] with
    | grow e cc m=>
      rw[hL] at hok;obtain⟨v,xs,hv,_⟩:=hH.blk k _ hok;rw[show (pW.tok k).id=k from rfl] at hfr;rw[hfr.2] at hv;cases hv
    | map s t l=>
      rw[hL] at hok;obtain⟨p,es,cl,hp,_⟩:=hH.blk k _ hok.1;rw[show (pW.tok k).id=k from rfl] at hfr;rw[hfr.1] at hp;cases hp
    | row e t l m=>
      rw[hL] at hok;obtain⟨_,v,xs,hv,_⟩:=hH.blk k _ hok.1;rw[show (pW.tok k).id=k from rfl] at hfr;rw[hfr.2] at hv;cases hv
    |_=>rw[hL] at hok;exact hok.elim
theorem aEL {c:Nat}(hc:c<r.H.length) (hn:W[c]? =none):base+c∈pE upd:=by
  have:=(JD hb).2.2.2.2 c _ (aMA hc) hn;simpa using this
theorem JE {c:Nat}(hc:c<r.H.length) (hn:W[c]? =none):(sB g g' base W (pE upd)).J (base+c)=g'.J c∧(sB g g' base W (pE upd)).cur (base+c)=g'.cur c:=by
  have hin:=aEL hH hm hr hb hf hc hn;refine⟨?_,?_⟩
  · show (if base≤base+c∧base+c∈pE upd then _ else _)=_
    rw[if_pos ⟨by omega,hin⟩,aNb]
  · show (if base≤base+c∧base+c∈pE upd then _ else _)=_
    rw[if_pos ⟨by omega,hin⟩,aNb]
theorem a6E {i:Nat}(hi: ¬(base≤i∧i∈pE upd)) (hn:uN i W 0=none):(sB g g' base W (pE upd)).J i=g.J i∧(sB g g' base W (pE upd)).cur i=g.cur i:=by
  refine⟨?_,?_⟩
  · show (if base≤i∧i∈pE upd then _ else _)=_
    rw[if_neg hi,hn]
  · show (if base≤i∧i∈pE upd then _ else _)=_
    rw[if_neg hi,hn]
theorem a6F {c k:Nat}(hw:W[c]? =some (.tok k)):(sB g g' base W (pE upd)).J k=g'.J c∧(sB g g' base W (pE upd)).cur k=g'.cur c:=by
  have hlt:=(CB hH hm hr hb hf hw).2.1;simp only[pW.id] at hlt;have hc:=aEK hm.nodup hw;refine⟨?_,?_⟩
  · show (if base≤k∧k∈pE upd then _ else _)=_
    rw[if_neg (by omega),hc]
  · show (if base≤k∧k∈pE upd then _ else _)=_
    rw[if_neg (by omega),hc]
theorem MD {c i:Nat}{u:Ty}{x:u.den}{toks:List (Nat×Nat)}{o:Nat}(hw:W[c]? =some (.box i u x toks o)):(sB g g' base W (pE upd)).J i=g.J i∧(sB g g' base W (pE upd)).cur i=g.cur i:=by
  have hlt:=(CB hH hm hr hb hf hw).2.1;simp only[pW.id] at hlt;refine a6E hH hm hr hb hf (by omega) (QP fun d hd=> ?_);have:=QL hm.nodup hw hd rfl;subst this;rw[hw] at hd;cases hd
theorem GT {c i:Nat}(hi:yD base r.H.length c W[c]? =some i):(sB g g' base W (pE upd)).J i=g'.J c∧(sB g g' base W (pE upd)).cur i=g'.cur c:=by
  rcases aEJ hi with h|⟨h1,h2,rfl⟩
  ·exact a6F hH hm hr hb hf h
  ·exact JE hH hm hr hb hf h2 h1
theorem a6G:Le g w (sB g g' base W (pE upd)) w':=by
  have len: ∀{i c:Nat},uN i W 0=some c→W[c]? =some (.tok i)∧c<L.length:=by
    intro i c h;obtain⟨d,e1,h2⟩:=JA h;rw[aM3] at e1;subst e1;exact⟨h2,hm.len▸(aMG.1 h2).1⟩
  refine⟨fun b o h=>(hr.shut b o h).1,fun b o h=>(hr.shut b o h).2,fun i p h=> ?_,fun i n u h=> ?_⟩
  · show (if base≤i∧i∈pE upd then _ else _)=_
    rw[if_neg (fun⟨h1,h2⟩=>by rw[(hf i h2 h1).1] at h;cases h)];cases hc:uN i W 0 with
    |none=>exact h
    | some c=>
      obtain⟨h1,h2⟩:=len hc;refine hr.Jt c p h2 ?_;show uJ g W[c]? =_;rw[h1];exact h
  · show (if base≤i∧i∈pE upd then g'.cur (i-base) else match uN i W 0 with|some c=>g'.cur c|none=>g.cur i) n=_
    rw[if_neg (fun⟨h1,h2⟩=>by rw[(hf i h2 h1).2] at h;cases h)];cases hc:uN i W 0 with
    |none=>exact h
    | some c=>
      obtain⟨h1,h2⟩:=len hc;refine hr.cur c n u h2 ?_;show yZ g W[c]? n=_;rw[h1];exact h
theorem aEM {t:Ty}{x y:t.den}{cs:List Value}(hx:Rd g' w' t x cs) (h:zX base r.H.length W t x=some y):Rd (sB g g' base W (pE upd)) w' t y cs:=by
  refine QK (g:=g') (g':=sB g g' base W (pE upd)) rfl (zX base r.H.length W) (fun a b x=>rfl) (fun t x=>rfl) (fun _=>rfl) (fun _ _=>rfl) (fun _=>rfl) (fun _=>rfl) (fun _=>rfl) (fun _ _ x y cs h hx=> ?_) (fun x y cs h hx=> ?_) (fun x y cs h hx=> ?_) (fun x y cs h hx=> ?_) (fun _=>rfl) hx h
  · cases x with
    |none=>cases h;exact hx
    | some q=>
      obtain⟨c,n⟩:=q;simp only[zX,a45,xZ] at h;obtain⟨i,hi,rfl⟩:=aMI.1 h;obtain⟨v,hv,hs⟩:=hx;exact⟨v,by rw[(GT hH hm hr hb hf hi).2];exact hv,hs⟩
  · cases x with
    |none=>cases h;exact hx
    | some q=>
      obtain⟨c,o⟩:=q;simp only[zX,GD] at h;obtain⟨p,hp,hv⟩:=hx;unfold GD.back2 at h;split at h
      · rename_i i uu x toks o' hwh
        cases h;rw[xZ] at hwh;obtain⟨_,hlt,b,hL,hok⟩:=CB hH hm hr hb hf hwh;cases b with
        | cells t y ts=>
          have hJ:=hr.J c t y ts hL;rw[hp] at hJ;have hJ':uJ g W[c]? =some p:=hJ.symm;rw[hwh] at hJ';obtain⟨p0,hp0,rfl⟩:=aMI.1 hJ';exact⟨p0,by rw[(MD hH hm hr hb hf hwh).1];exact hp0,by have:=hv.1;rwa [aNc] at this,hv.2.imp id fun hv=>by rw[hv];simp [aNc]⟩
        |_=>exact hok.elim
      · split at h
        · rename_i hn
          cases h;obtain⟨h1,h2⟩:=QO.1 hn;rw[xZ] at h2;exact⟨p,by rw[(JE hH hm hr hb hf h1 h2).1];exact hp,hv⟩
        ·cases h
  · cases x with
    |none=>cases h;exact hx
    | some q=>
      obtain⟨c,o⟩:=q;simp only[zX,GD] at h;obtain⟨p,hp,hv⟩:=hx;unfold GD.back2 at h;split at h
      · rename_i i uu x toks o' hwh
        cases h;rw[xZ] at hwh;obtain⟨_,hlt,b,hL,hok⟩:=CB hH hm hr hb hf hwh;cases b with
        | cells t y ts=>
          have hJ:=hr.J c t y ts hL;rw[hp] at hJ;have hJ':uJ g W[c]? =some p:=hJ.symm;rw[hwh] at hJ';obtain⟨p0,hp0,rfl⟩:=aMI.1 hJ';exact⟨p0,by rw[(MD hH hm hr hb hf hwh).1];exact hp0,by rw[hv];simp [aNc]⟩
        |_=>exact hok.elim
      · split at h
        · rename_i hn
          cases h;obtain⟨h1,h2⟩:=QO.1 hn;rw[xZ] at h2;exact⟨p,by rw[(JE hH hm hr hb hf h1 h2).1];exact hp,hv⟩
        ·cases h
  · cases x with
    |none=>cases h;exact hx
    | some c=>
      simp only[zX,a44,xZ] at h;obtain⟨i,hi,rfl⟩:=aMI.1 h;obtain⟨p,hp,hv⟩:=hx;exact⟨p,by rw[(GT hH hm hr hb hf hi).1];exact hp,hv⟩
theorem a6H {t:Ty}{x y:t.den}{cs:List Value}(hx:Rd g' w' t x cs) (h:bY base r.H.length W t x y):Rd (sB g g' base W (pE upd)) w' t y cs:=by
  rcases h with⟨hp,rfl⟩ |h
  ·exact uE (g:=g') (g':=sB g g' base W (pE upd)) rfl hp hx
  ·exact aEM hH hm hr hb hf hx h
omit hH hm hr hb hf in
theorem a6I {n:Nat}{t u:Ty}{x y:t.den}{o:Nat}{l:List u.den}(h:bY base n W t x y) (hg:pS (.list u) t x o=some l):pS (.list u) t y o=some l:=by
  rcases h with⟨_,rfl⟩ |h
  ·exact hg
  ·exact VX (zX base n W) (fun _ _ _=>rfl) (fun _ _=>rfl) h hg
theorem a6J: ∀(cs:List (Nat×Nat)) {l:List (Nat×Nat)}{vs:List Value},wH g' cs vs→IQ base r.H.length W cs=some l→wH (sB g g' base W (pE upd)) l vs
  |[],l,vs,h,e=>by cases e;exact h
  | (c,o)::cs,l,vs,⟨p,vs',hp,hv,hr'⟩,e=>by
    unfold IQ at e;cases h1:U6 base r.H.length c o (yC W c) with
    |none=>rw[h1] at e;cases e
    | some q=>
      cases h2:IQ base r.H.length W cs with
      |none=>rw[h1,h2] at e;cases e
      | some l'=>
        rw[h1,h2] at e;cases e;refine(?_ : ∃p vs',_);have ih:=a6J cs hr' h2;unfold U6 at h1;split at h1
        · rename_i i uu x toks o' hwh
          cases h1;rw[xZ] at hwh;obtain⟨_,hlt,b,hL,hok⟩:=CB hH hm hr hb hf hwh;cases b with
          | cells t y ts=>
            have hJ:=hr.J c t y ts hL;rw[hp] at hJ;have hJ':uJ g W[c]? =some p:=hJ.symm;rw[hwh] at hJ';obtain⟨p0,hp0,rfl⟩:=aMI.1 hJ';exact⟨p0,vs',by rw[(MD hH hm hr hb hf hwh).1];exact hp0,by rw[hv];simp [aNc],ih⟩
          |_=>exact hok.elim
        · split at h1
          · rename_i hn
            cases h1;obtain⟨h3,h4⟩:=QO.1 hn;rw[xZ] at h4;exact⟨p,vs',by rw[(JE hH hm hr hb hf h3 h4).1];exact hp,hv,ih⟩
          ·cases h1
theorem aEN {s:pB}{u:Value}(h:q7 g' w' s u):q7 (sB g g' base W (pE upd)) w' (OW base r.H.length W s) u:=by
  obtain⟨d,k⟩:=s
  have tokk: ∀{t:Ty}(hp:t.pure=true) {x:t.den}{k:Option Nat},q7 g' w' (.val t x,k) u→q7 (sB g g' base W (pE upd)) w' (.val t x,GC base r.H.length W k) u:=by
    intro t hp x k h;cases k with
    |none=>exact QG (g:=g') (g':=sB g g' base W (pE upd)) (k:=none) (k':=none) rfl hp h (fun c e=>by cases e) (fun _=>rfl)
    | some c=>
      simp only[GC,xZ];cases hn:yD base r.H.length c W[c]? with
      | some i=>
        refine QG (g:=g') (g':=sB g g' base W (pE upd)) (k:=some c) (k':=some i) rfl hp h (fun c' e=> ?_) (fun e=>by cases e);cases e;refine⟨_,rfl,fun n u hu=> ?_⟩;rw[(GT hH hm hr hb hf hn).2];exact hu
      | none=>
        exact QG (g:=g') (g':=sB g g' base W (pE upd)) (k:=none) (k':=none) rfl hp ⟨h.1,trivial⟩ (fun c e=>by cases e) (fun _=>rfl)
  unfold OW;split
  · rename_i c m k' heq
    simp only[aMX] at heq;obtain⟨rfl,rfl⟩:=heq;simp only[GC,xZ];cases hn:yD base r.H.length c W[c]? with
    | some i=>
      obtain⟨h3,h4⟩:=h.1;exact⟨⟨by rw[(GT hH hm hr hb hf hn).2];exact h3,h4⟩,trivial⟩
    |none=>exact⟨trivial,trivial⟩
  · rename_i c o k' heq
    simp only[aMX] at heq;obtain⟨rfl,rfl⟩:=heq;obtain⟨p,hp,hv⟩:=yF h.1;unfold a43;split
    · rename_i i uu x toks o' hwh
      rw[xZ] at hwh;obtain⟨_,hlt,b,hL,hok⟩:=CB hH hm hr hb hf hwh;cases b with
      | cells t y ts=>
        have hJ:=hr.J c t y ts hL;rw[hp] at hJ;have hJ':uJ g W[c]? =some p:=hJ.symm;rw[hwh] at hJ';obtain⟨p0,hp0,rfl⟩:=aMI.1 hJ';refine⟨.inr ⟨rfl,p0,by rw[(MD hH hm hr hb hf hwh).1];exact hp0,?_⟩,trivial⟩;rw[hv];simp [aNc]
      |_=>exact hok.elim
    · split
      · rename_i hn
        obtain⟨h1,h2⟩:=QO.1 hn;rw[xZ] at h2;exact⟨.inr ⟨rfl,p,by rw[(JE hH hm hr hb hf h1 h2).1];exact hp,by rw[hv]⟩,trivial⟩
      ·exact⟨trivial,trivial⟩
  · rename_i k' heq
    simp only[aMX] at heq;obtain⟨rfl,rfl⟩:=heq;rcases h.1 with⟨h1,_⟩ |⟨h1,h2⟩
    ·cases h1
    ·exact⟨.inr ⟨h1,h2⟩,trivial⟩
  · rename_i c k' heq
    simp only[aMX] at heq;obtain⟨rfl,rfl⟩:=heq;simp only[GC,xZ];cases hn:yD base r.H.length c W[c]? with
    | some i=>
      obtain⟨p,hp,hv⟩:J3 g' (some c) [u]:=A2 rfl h.1;exact⟨.inr ⟨rfl,p,by rw[(GT hH hm hr hb hf hn).1];exact hp,hv⟩,trivial⟩
    |none=>exact⟨trivial,trivial⟩
  · rename_i f cs k' heq
    simp only[aMX] at heq;obtain⟨rfl,rfl⟩:=heq;cases hc:IQ base r.H.length W cs with
    |none=>exact⟨trivial,trivial⟩
    | some l=>
      rcases h.1 with⟨h1,_⟩ |⟨_,vs,h2,h3⟩
      ·cases h1
      ·exact⟨.inr ⟨rfl,vs,a6J hH hm hr hb hf cs h2 hc,h3⟩,trivial⟩
  · rename_i t x k' hno hno0 hno2 hno3 heq
    simp only[aMX] at heq;obtain⟨rfl,rfl⟩:=heq;split
    · rename_i hp
      exact tokk hp (a6h h)
    ·exact⟨trivial,trivial⟩
  ·exact⟨trivial,trivial⟩
end
theorem a6K {g:Gh}{w:World}{H:qQ}{W:List pW}{L:List p8}(hH:rH g w H) (hm:MC H W L) {bb oo:Nat}(h:xH (tN g W) (pO 0 L) bb oo):
  ∃(c:Nat) (wh:pW) (b blk:p8),W[c]? =some wh/\L[c]? =some b/\qR (tN g W) c b bb oo/\pD H wh.id=some blk/\qR g wh.id blk bb oo:=by
 obtain⟨c,b,hc,ho⟩:=h;rw[wI] at hc;have hlt:c<W.length:=hm.len▸(aMG.1 hc).1;have hwh:W[c]? =some W[c]:=aMA hlt;have hw:=hm.ok c _ b hwh hc;refine⟨c,W[c],b,?_⟩;generalize W[c]=wh at hwh hw;cases wh with
 |box i u x toks off=>
  cases b with
  |cells t y ts=>
   obtain⟨h1,⟨y0,h2,h3⟩,h4⟩:=hw;obtain⟨p,hp,e1,e2,e3⟩:=ho;have hp':uJ g W[c]? =some p:=hp;rw[hwh] at hp';obtain⟨p0,hp0,rfl⟩:=aMI.1 hp';obtain⟨p1,cs,hp1,hR,_⟩:=hH.blk i _ h1;obtain⟨c1,c2,c3,hcs,hl,hR2⟩:=C8 hR h2;have l1:=rR hR;have l2:=rR hR2;rw[hcs] at l1;simp only[aMu] at l1;exact⟨_,hwh,hc,⟨_,hp,e1,e2,e3⟩,h1,p0,hp0,e1,by simp at e2;omega,by simp at e3;omega⟩
  |_=>exact hw.elim
 |tok k=>
  cases b with
  |grow e cc m=>
   obtain⟨v,hv,hb⟩:=ho;have hv':yZ g W[c]? m=some v:=hv;rw[hwh] at hv';exact⟨_,hwh,hc,⟨v,hv,hb⟩,hw,v,hv',hb⟩
  |map s t l=>
   obtain⟨p,hp,hb⟩:=ho;have hp':uJ g W[c]? =some p:=hp;rw[hwh] at hp';exact⟨_,hwh,hc,⟨p,hp,hb⟩,hw.1,p,hp',hb⟩
  |row e t l m=>
   obtain⟨v,hv,hb⟩:=ho;have hv':yZ g W[c]? m=some v:=hv;rw[hwh] at hv';exact⟨_,hwh,hc,⟨v,hv,hb⟩,hw.1,v,hv',hb⟩
  |_=>exact hw.elim
section
variable {g g':Gh}{w w':World}{H:qQ}{W:List pW}{L:List p8}{r:pG}{v:Value}{base:Nat}{upd:List (Nat×p8)}
variable (hH:rH g w H) (hm:MC H W L) (hr:GR (tN g W) w L r g' w' v) (hb:yV base r.H.length W 0 W r.H=some upd) (hf: ∀i,i∈pE upd->base<=i->g.J i=none/\∀n,g.cur i n=none)
include hH hm hr hb hf
theorem W5 {b o:Nat}(h:xH (tN g W) (pO 0 L) b o):rT g H (pE upd) b o:=by
 obtain⟨c,wh,b0,blk,h1,h2,h3,h4,h5⟩:=a6K hH hm h;exact⟨wh.id,blk,(CB hH hm hr hb hf h1).1,h4,h5⟩
theorem aEO:Fr (rT g H (pE upd)) w w' g.S (sB g g' base W (pE upd)).S:=hr.fr.mono fun _ _ h=>W5 hH hm hr hb hf h
theorem QR {id:Nat}{b:p8}(hi:id∈pE upd) (hg:pD (pN upd H) id=some b):F6 base r.H.length W W r.H 0 id b:=by
 obtain⟨_,k2,k3,_⟩:=JD hb;obtain⟨b',hb'⟩:=k3 id hi;have:pD (pN upd H) id=some b':=by
  have: ∀{u:List (Nat×p8)},pD u id=some b'->pD (pN u H) id=some b':=by
   intro u
   induction u with
   |nil=>intro h;cases h
   |cons q u ih=>
    intro h;simp only[pN,pD] at h⊢;split
    ·rename_i e;rw[if_pos e] at h;exact h
    ·rename_i e;rw[if_neg e] at h;exact ih h
  exact this hb'
 rw[this] at hg;obtain rfl:=aMy hg;exact k2 id b' hb'
theorem W6 {c i o:Nat}{u:Ty}{x:u.den}{toks:List (Nat×Nat)}{b0 b:p8}(hW:W[c]? =some (.box i u x toks o)) (hR:r.H[c]? =some b0) (hbb:vW base r.H.length i o W u x toks b0=some (i,b)):
  xV (sB g g' base W (pE upd)) w' i b/\(∀bb oo,qR (sB g g' base W (pE upd)) i b bb oo->qR g i (.cells u x toks) bb oo/\pD H i=some (.cells u x toks))/\
   ∀bb oo,qR (sB g g' base W (pE upd)) i b bb oo->qR g' c b0 bb oo\/(bb<w.heap.size/\¬xH (tN g W) (pO 0 L) bb oo):=by
 obtain⟨hin,hlt,bL,hL,hok⟩:=CB hH hm hr hb hf hW;have hJi:=(MD hH hm hr hb hf hW).1;have hle:=a6G hH hm hr hb hf;cases bL with
 |grow=>exact hok.elim
 |row=>exact hok.elim
 |map=>exact hok.elim
 |iter=>exact hok.elim
 |dead=>exact hok.elim
 |cells tL yL tsL=>
  obtain⟨h1,h2,h4⟩:=hok;obtain⟨p,cs,hp,hRd,hra,hth,hns,htk⟩:=hH.blk i _ h1;cases b0 with
  |grow=>simp [vW] at hbb
  |row=>simp [vW] at hbb
  |map=>simp [vW] at hbb
  |iter=>simp [vW] at hbb
  |dead=>
   simp only[vW,aMt,aMX,true_and] at hbb;subst hbb;exact⟨trivial,fun _ _ h=>h.elim,fun _ _ h=>h.elim⟩
  |cells t y ts=>
   have htt:=hr.ty c _ _ _ _ _ _ hL hR;subst htt;obtain⟨y2,z,hbY,hset,hq⟩:=W3 hbb
   ·simp only[aMX,true_and] at hq;subst hq;have hblk:=hr.heap.blk c _ (by rw[wI];exact hR);obtain⟨p',cs',hp',hRd',hra',hth',hns',htk'⟩:=hblk;have hJc:=hr.J c _ _ _ hL;have hpc:g'.J c=some ⟨p.1,p.2+o,p.3⟩:=by
     rw[hJc];show uJ g W[c]? =_;rw[hW];simp [uJ,hp]
    rw[hpc] at hp';obtain rfl:=aMy hp';have hRdx:Rd (sB g g' base W (pE upd)) w' u x cs:=w4 hle hRd;have hRdy:Rd (sB g g' base W (pE upd)) w' t y2 cs':=a6H hH hm hr hb hf hRd' hbY;obtain⟨c1,c2,c3,hcs,hl1,hl2,hz⟩:=Q3 hRdy hRdx hset;subst hcs;subst hl1;have l0:=rR hRd;have l1:=rR hRd';simp only[aMu] at l0;have hfar: ∀q,q<u.cells->¬(c1.length<=q/\q<c1.length+t.cells)->¬xH (tN g W) (pO 0 L) p.1 (p.2+q):=by
     intro q hq hno hown;obtain⟨c',wh',b',blk',k1,k2,k3,k4,k5⟩:=a6K hH hm hown;by_cases hcc:c'=c
     ·subst hcc;rw[hW] at k1;obtain rfl:=aMy k1;rw[hL] at k2;obtain rfl:=aMy k2;obtain⟨pp,hpp,e1,e2,e3⟩:=k3;have hpp':uJ g W[c']? =some pp:=hpp;rw[hW] at hpp';simp only[uJ,hp,Option.map_some,aMt] at hpp';subst hpp';simp only at e2 e3;exact hno ⟨by omega,by omega⟩
     ·have hid:wh'.id≠i:=fun e=>hcc (QL hm.nodup k1 hW e);exact hH.dis wh'.id i blk' _ p.1 (p.2+q) hid k4 h1 k5 ⟨p,hp,rfl,by omega,by omega⟩
    have hlt': ∀q,q<u.cells->p.1<w.heap.size:=fun q hq=>M2 (hH.blk i _ h1) (b:=p.1) (o:=p.2+q) ⟨p,hp,rfl,by omega,by omega⟩;have hkeep: ∀q,q<u.cells->¬(c1.length<=q/\q<c1.length+t.cells)->w'.cell? ⟨p.1,p.2+q,none⟩=w.cell? ⟨p.1,p.2+q,none⟩/\w'.frozen? ⟨p.1,p.2+q,none⟩=w.frozen? ⟨p.1,p.2+q,none⟩:=fun q hq hno=>hr.fr.cell _ _ (hlt' q hq) (hfar q hq hno);refine⟨⟨p,c1++cs'++c3,by rw[hJi];exact hp,hz,fun q vv hv=> ?_,⟨fun q hq=> ?_,fun h0 s hs=> ?_⟩,fun q hq hs=> ?_,?_⟩,fun bb oo ho=>⟨?_,h1⟩,fun bb oo ho=> ?_⟩
    ·by_cases a1:q<c1.length
     ·rw[(hkeep q (by omega) (by omega)).1];refine hra q vv ?_;rw[aMC,aMN a1] at hv⊢;exact hv
     ·by_cases a2:q<c1.length+t.cells
      ·rw[aMC,aMD (by omega),aMN (by omega)] at hv;have:=hra' (q-c1.length) vv hv;rwa [show p.2+c1.length+(q-c1.length)=p.2+q from by omega] at this
      ·rw[aMC,aMD (by omega),aMD (by omega)] at hv;have hq:q<u.cells:=by
        have:=(aMG.1 hv).1;omega
       rw[(hkeep q hq (by omega)).1];refine hra q vv ?_;rw[aMC,aMD (by omega),aMD (by omega),hl2];rw[l1] at hv;exact hv
    ·by_cases a1:c1.length<=q/\q<c1.length+t.cells
     ·have:=hth'.1 (q-c1.length) (by omega);rwa [show p.2+c1.length+(q-c1.length)=p.2+q from by omega] at this
     ·rw[(hkeep q hq a1).1,(hkeep q hq a1).2];exact hth.1 q hq
    ·by_cases ht0:0<t.cells
     ·exact hth'.2 ht0 s hs
     ·exact(hr.fr.shape p.1 s (hth.2 h0 s hs)).resolve_right fun h=>hfar 0 h0 (by omega) (h (p.2+0))
    ·by_cases a1:c1.length<=q/\q<c1.length+t.cells
     ·exact hns' (q-c1.length) (by omega) (by rw[show p.2+c1.length+(q-c1.length)=p.2+q from by omega];exact hs)
     ·rcases hr.fr.new _ _ hs with k|k|k
      ·exact hns q hq k
      ·have:=hlt' q hq;omega
      ·exact hfar q hq a1 k
    ·intro q kk hmem;rcases v8.1 hmem with hmem|hmem
     ·obtain⟨q',c',k1,k2,rfl⟩:=QQ hmem;rw[xZ] at k2;obtain⟨u',l,vv,g1,g2,g3⟩:=htk' q' c' k1;have hq':=a59 g1;refine⟨u',l,vv,a58 hset (a6I hbY g1) hq',?_,?_⟩
      ·rw[aMC,aMD (by omega),aNb,aMN (by omega)];exact g2
      ·rw[(GT hH hm hr hb hf k2).2];exact g3
     ·obtain⟨k1,k2⟩:=W4 hmem;obtain⟨u',l,vv,g1,g2,g3⟩:=htk q kk k1;refine⟨u',l,vv,a5X hH hset g1 k2,?_,hle.cur _ _ _ g3⟩;rcases aN3 q c1.length with a1|a1
      ·rw[aMC,aMN a1] at g2⊢;exact g2
      ·rw[aMC,aMD (by omega),aMD (by omega)] at g2⊢;rw[l1];rw[hl2] at g2;exact g2
    ·obtain⟨pp,hpp,e1,e2,e3⟩:=ho;rw[hJi,hp] at hpp;obtain rfl:=aMy hpp;exact⟨p,hp,e1,e2,e3⟩
    ·obtain⟨pp,hpp,e1,e2,e3⟩:=ho;rw[hJi,hp] at hpp;obtain rfl:=aMy hpp;subst e1;by_cases a1:c1.length<=oo-p.2/\oo-p.2<c1.length+t.cells
     ·exact .inl ⟨_,hpc,rfl,by simp only;omega,by simp only;omega⟩
     ·right;refine⟨hlt' (oo-p.2) (by omega),?_⟩;have:=hfar (oo-p.2) (by omega) a1;rwa [show p.2+(oo-p.2)=oo from by omega] at this
theorem W7 {c:Nat}{b0 b:p8}(hn:W[c]? =none) (hR:r.H[c]? =some b0) (hbn:B4 base r.H.length c W b0=some (base+c,b)):
  xV (sB g g' base W (pE upd)) w' (base+c) b/\∀bb oo,qR (sB g g' base W (pE upd)) (base+c) b bb oo->qR g' c b0 bb oo:=by
 have hc:=(aMG.1 hR).1;obtain⟨hJ,hcur⟩:=JE hH hm hr hb hf hc hn;have hblk:=hr.heap.blk c _ (by rw[wI];exact hR);cases b0 with
 |dead=>
  simp only[B4,aMt,aMX,true_and] at hbn;subst hbn;exact⟨trivial,fun _ _ h=>h.elim⟩
 |grow e m k=>
  simp only[B4,aMt,aMX,true_and] at hbn;subst hbn;obtain⟨u,xs,hv,h1,h2,h3⟩:=hblk;exact⟨⟨u,xs,by rw[hcur];exact hv,h1,fun m hm'=>by rw[hcur];exact h2 m hm',h3⟩,fun bb oo ⟨v',hv',hb'⟩=>⟨v',by rw[hcur] at hv';exact hv',hb'⟩⟩
 |row e t l n=>
  simp only[B4] at hbn;split at hbn
  ·rename_i hp;simp only[aMt,aMX,true_and] at hbn;subst hbn;obtain⟨h0,u,xs,hv,h1,h4,h2,h3⟩:=hblk;exact⟨⟨h0,u,xs,by rw[hcur];exact hv,h1,AL (fun _ _ h=>uE (g:=g') (g':=sB g g' base W (pE upd)) rfl hp h) h4,fun m hm'=>by rw[hcur];exact h2 m hm',h3⟩,fun bb oo ⟨v',hv',hb'⟩=>⟨v',by rw[hcur] at hv';exact hv',hb'⟩⟩
  ·cases hbn
 |iter s n=>simp [B4] at hbn
 |map k v l=>
  simp only[B4] at hbn;split at hbn
  ·rename_i hp;rw[aMz] at hp;simp only[aMt,aMX,true_and] at hbn;subst hbn;obtain⟨p,es,cl,hp1,hp0,hh,hM,hS⟩:=hblk;exact⟨⟨p,es,cl,by rw[hJ];exact hp1,hp0,hh,LZ (g:=g') (g':=sB g g' base W (pE upd)) rfl hp.1 hp.2 hM,hS⟩,fun bb oo ⟨pp,hpp,e⟩=>⟨pp,by rw[hJ] at hpp;exact hpp,e⟩⟩
  ·cases hbn
 |cells t y ts=>
  have vF: ∀y2,bY base r.H.length W t y y2->xV (sB g g' base W (pE upd)) w' (base+c) (.cells t y2 (B3 base r.H.length W 0 ts))/\∀bb oo,qR (sB g g' base W (pE upd)) (base+c) (.cells t y2 (B3 base r.H.length W 0 ts)) bb oo->qR g' c (.cells t y ts) bb oo:=by
   intro y2 hbY;obtain⟨p,cs,hp1,hR1,h1,h2,h3,h4⟩:=hblk;refine⟨⟨p,cs,by rw[hJ];exact hp1,a6H hH hm hr hb hf hR1 hbY,h1,h2,h3,fun q kk hmem=> ?_⟩,fun bb oo ⟨pp,hpp,e⟩=>⟨pp,by rw[hJ] at hpp;exact hpp,e⟩⟩;obtain⟨q',c',k1,k2,rfl⟩:=QQ hmem;rw[xZ] at k2;obtain⟨u',l,vv,g1,g2,g3⟩:=h4 q' c' k1;exact⟨u',l,vv,by rw[aM3];exact a6I hbY g1,by rw[aM3];exact g2,by rw[(GT hH hm hr hb hf k2).2];exact g3⟩
  simp only[B4] at hbn;split at hbn
  ·rename_i hp;simp only[aMt,aMX,true_and] at hbn;subst hbn;exact vF y (.inl ⟨hp,rfl⟩)
  ·obtain⟨y2,hy,hq⟩:=a6D hbn;simp only[aMX,true_and] at hq;subst hq;exact vF y2 (.inr hy)
theorem W8 {c k:Nat}{b0 b:p8}(hW:W[c]? =some (.tok k)) (hR:r.H[c]? =some b0) (hbk:xR k b0=some (k,b)):
  xV (sB g g' base W (pE upd)) w' k b/\∀bb oo,qR (sB g g' base W (pE upd)) k b bb oo->qR g' c b0 bb oo:=by
 obtain⟨hJ,hcur⟩:=a6F hH hm hr hb hf hW;have hblk:=hr.heap.blk c _ (by rw[wI];exact hR);cases b0 with
 |dead=>
  simp only[xR,aMt,aMX,true_and] at hbk;subst hbk;exact⟨trivial,fun _ _ h=>h.elim⟩
 |grow e m n=>
  simp only[xR,aMt,aMX,true_and] at hbk;subst hbk;obtain⟨u,xs,hv,h1,h2,h3⟩:=hblk;exact⟨⟨u,xs,by rw[hcur];exact hv,h1,fun m hm'=>by rw[hcur];exact h2 m hm',h3⟩,fun bb oo ⟨v',hv',hb'⟩=>⟨v',by rw[hcur] at hv';exact hv',hb'⟩⟩
 |row e t l n=>
  simp only[xR] at hbk;split at hbk
  ·rename_i hp;simp only[aMt,aMX,true_and] at hbk;subst hbk;obtain⟨h0,u,xs,hv,h1,h4,h2,h3⟩:=hblk;exact⟨⟨h0,u,xs,by rw[hcur];exact hv,h1,AL (fun _ _ h=>uE (g:=g') (g':=sB g g' base W (pE upd)) rfl hp h) h4,fun m hm'=>by rw[hcur];exact h2 m hm',h3⟩,fun bb oo ⟨v',hv',hb'⟩=>⟨v',by rw[hcur] at hv';exact hv',hb'⟩⟩
  ·cases hbk
 |iter s n=>simp [xR] at hbk
 |map s v l=>
  simp only[xR] at hbk;split at hbk
  ·rename_i hp;rw[aMz] at hp;simp only[aMt,aMX,true_and] at hbk;subst hbk;obtain⟨p,es,cl,hp1,hp0,hh,hM,hS⟩:=hblk;exact⟨⟨p,es,cl,by rw[hJ];exact hp1,hp0,hh,LZ (g:=g') (g':=sB g g' base W (pE upd)) rfl hp.1 hp.2 hM,hS⟩,fun bb oo ⟨pp,hpp,e⟩=>⟨pp,by rw[hJ] at hpp;exact hpp,e⟩⟩
  ·cases hbk
 |cells t y ts=>simp [xR] at hbk
theorem aEP {side:List Prop}{s:pB}{rds:List Nat}{vv:Value}(hs:q7 (sB g g' base W (pE upd)) w' s vv):qI g w H ⟨side,s,upd,rds⟩ (sB g g' base W (pE upd)) w' vv:=by
 have le:=a6G hH hm hr hb hf;have fr:=aEO hH hm hr hb hf;have gho: ∀i,i∉pE upd->(sB g g' base W (pE upd)).J i=g.J i/\(sB g g' base W (pE upd)).cur i=g.cur i:=fun i hi=>
  a6E hH hm hr hb hf (fun h=>hi h.2) (QP fun c hc=>hi ((CB hH hm hr hb hf hc).1))
 have perm: ∀i blk b o,i∈pE upd->pD (pN upd H) i=some blk->qR (sB g g' base W (pE upd)) i blk b o->w.heap.size<=b\/rT g H (pE upd) b o:=by
  intro i blk b o hi hg ho;rcases QR hH hm hr hb hf hi hg with⟨c,i',u,x,toks,off,b0,h1,h2,h3,h4⟩ |⟨c,k,b0,h1,h2,h3,h4⟩ |⟨c,b0,h1,h2,h3,h4⟩
  ·subst h2;obtain⟨_,k2,_⟩:=W6 hH hm hr hb hf h1 h3 h4;exact .inr ⟨i,_,hi,(k2 b o ho).2,(k2 b o ho).1⟩
  ·subst h2;obtain⟨_,k2⟩:=W8 hH hm hr hb hf h1 h3 h4;exact(hr.perm c b0 b o h3 (k2 b o ho)).imp id fun h=>W5 hH hm hr hb hf h
  ·rw[aM3] at h2 h4;subst h2;obtain⟨_,k2⟩:=W7 hH hm hr hb hf h3 h1 h4;exact(hr.perm c b0 b o h1 (k2 b o ho)).imp id fun h=>W5 hH hm hr hb hf h
 refine⟨le,hs,hH.upd le fr perm gho (fun i blk hi hg=> ?_) (fun i j bi bj b o hi hj hij hgi hgj hoi hoj=> ?_) (fun b o h=>hr.heap.sl b o h),fr,perm,gho,fun i u' y us h=> ?_⟩
 ·rcases QR hH hm hr hb hf hi hg with⟨c,i',u,x,toks,off,b0,h1,h2,h3,h4⟩ |⟨c,k,b0,h1,h2,h3,h4⟩ |⟨c,b0,h1,h2,h3,h4⟩
  ·subst h2;exact(W6 hH hm hr hb hf h1 h3 h4).1
  ·subst h2;exact(W8 hH hm hr hb hf h1 h3 h4).1
  ·rw[aM3] at h2 h4;subst h2;exact(W7 hH hm hr hb hf h3 h1 h4).1
 ·have cls: ∀{i:Nat}{blk:p8},i∈pE upd->pD (pN upd H) i=some blk->qR (sB g g' base W (pE upd)) i blk b o->
    (∃c u x toks off b0,W[c]? =some (.box i u x toks off)/\r.H[c]? =some b0/\qR g i (.cells u x toks) b o/\pD H i=some (.cells u x toks)/\(qR g' c b0 b o\/(b<w.heap.size/\¬xH (tN g W) (pO 0 L) b o)))\/
    (∃c b0,yD base r.H.length c W[c]? =some i/\r.H[c]? =some b0/\qR g' c b0 b o):=by
   intro i blk hi hg ho;rcases QR hH hm hr hb hf hi hg with⟨c,i',u,x,toks,off,b0,h1,h2,h3,h4⟩ |⟨c,k,b0,h1,h2,h3,h4⟩ |⟨c,b0,h1,h2,h3,h4⟩
   ·subst h2;obtain⟨_,k2,k3⟩:=W6 hH hm hr hb hf h1 h3 h4;exact .inl ⟨c,u,x,toks,off,b0,h1,h3,(k2 b o ho).1,(k2 b o ho).2,k3 b o ho⟩
   ·subst h2;obtain⟨_,k2⟩:=W8 hH hm hr hb hf h1 h3 h4;exact .inr ⟨c,b0,by rw[h1];rfl,h3,k2 b o ho⟩
   ·rw[aM3] at h2 h4;subst h2;obtain⟨_,k2⟩:=W7 hH hm hr hb hf h3 h1 h4;exact .inr ⟨c,b0,by rw[h3];simp only[yD];rw[if_pos (aMG.1 h1).1],h1,k2 b o ho⟩
  have cross: ∀{c c':Nat}{b0 b1:p8},c≠c'->r.H[c]? =some b0->r.H[c']? =some b1->qR g' c b0 b o->qR g' c' b1 b o->False:=fun hne h1 h2 o1 o2=>
   hr.heap.dis _ _ _ _ b o hne (by rw[wI];exact h1) (by rw[wI];exact h2) o1 o2
  rcases cls hi hgi hoi with⟨c,u,x,toks,off,b0,h1,h2,h3,h4,h5⟩ |⟨c,b0,h1,h3,h4⟩<;>rcases cls hj hgj hoj with⟨c',u',x',toks',off',b0',k1,k2,k3,k4,k5⟩ |⟨c',b0',k1,k3,k4⟩
  ·exact hH.dis i j _ _ b o hij h4 k4 h3 k3
  ·rcases h5 with h5|⟨h5,h6⟩
   ·exact cross (fun e=>by subst e;rw[h1] at k1;cases k1) h2 k3 h5 k4
   ·rcases hr.perm c' b0' b o k3 k4 with h|h
    ·omega
    ·exact h6 h
  ·rcases k5 with k5|⟨k5,k6⟩
   ·exact cross (fun e=>by subst e;rw[k1] at h1;cases h1) h3 k2 h4 k5
   ·rcases hr.perm c b0 b o h3 h4 with h|h
    ·omega
    ·exact k6 h
  ·exact cross (fun e=>by subst e;rw[h1] at k1;exact hij (aMy k1)) h3 k3 h4 k4
 ·by_cases hi:i∈pE upd
  ·rcases QR hH hm hr hb hf hi h with⟨c,i',u,x,toks,off,b0,h1,h2,h3,h4⟩ |⟨c,k,b0,h1,h2,h3,h4⟩ |⟨c,b0,h1,h2,h3,h4⟩
   ·subst h2;obtain⟨_,_,bL,hL,hok⟩:=CB hH hm hr hb hf h1;cases b0 with
    |cells t y0 ts=>
     obtain⟨y2,z,_,hset,hq⟩:=W3 h4;simp only[aMX,p8.cells.injEq,true_and] at hq;obtain⟨rfl,_⟩:=hq;cases bL with
     |cells=>exact .inl ⟨x,toks,hok.1⟩
     |_=>exact hok.elim
    |grow=>simp [vW] at h4
    |row=>simp [vW] at h4
    |map=>simp [vW] at h4
    |iter=>simp [vW] at h4
    |dead=>simp [vW] at h4
   ·cases b0 with
    |cells t y0 ts=>simp [xR] at h4
    |iter=>simp [xR] at h4
    |map=>simp only[xR] at h4;split at h4<;>simp at h4
    |row=>simp only[xR] at h4;split at h4<;>simp at h4
    |_=>simp [xR] at h4
   ·rw[aM3] at h2;exact .inr (hf i hi (by omega))
  ·exact .inl ⟨y,us,(A1 hi).symm.trans h⟩
end
section
variable {P:Program}{g:Gh}{w:World}
def aEQ (P:Program) (g:Gh) (w:World) (d:Nat) (ty:Ty) (x y:ty.den):V6->Prop
 | .ty t=> ∀vx vy,s5 g w ty x vx->s5 g w ty y vy->∃b,zS ty x y=some b/\(Op.equalIn (d+1) t vx vy).run P w= .ok b w
 | .fs o l=> ∀px py cx cy,px.length=o->py.length=o->Rd g w ty x cx->Rd g w ty y cy->∃b,zS ty x y=some b/\(Op.eqFields (d+1) (px++cx).toArray (py++cy).toArray l).run P w= .ok b w
 | .el e i m=> ∀px py cx cy,px.length=i*P.cellsOf e->py.length=i*P.cellsOf e->Rd g w ty x cx->Rd g w ty y cy->∃b,zS ty x y=some b/\(Op.eqItems (d+1) e (P.cellsOf e) (px++cx).toArray (py++cy).toArray (List.range' i m)).run P w= .ok b w
theorem aER {e:TypeId}{n:Nat}(h:(P.info? e).map (·.size)=some n):P.cellsOf e=n:=by
 obtain⟨i,h1,h2⟩:=aMI.1 h;simp [Program.cellsOf,h1,h2]
theorem wR.run {n:Nat}{ix:V6}{ty:Ty}(h:wR P n ix ty): ∀(d:Nat),n<=d->∀x y:ty.den,aEQ P g w d ty x y ix:=by
 induction h with
 |bool hu=>
  intro d _ x y vx vy hx hy;obtain rfl:=vL hx;obtain rfl:=vL hy;exact⟨_,rfl,run_equalIn_bool' w d _ _ _ hu⟩
 |int hu=>
  intro d _ x y vx vy hx hy;obtain rfl:=uI hx;obtain rfl:=uI hy;refine⟨_,rfl,(run_equalIn_int w d _ _ _ _ _ hu).trans ?_⟩;congr 1
 |str hu=>
  intro d _ x y vx vy hx hy;obtain rfl:=wW hx;obtain rfl:=wW hy;refine⟨_,rfl,(run_equalIn_string w d _ _ _ hu).trans ?_⟩;congr 1;rw[ByteArray.toList_eq,ByteArray.toList_eq];exact M5 _ _
 | @struct h0 t0 fs0 ty0 hr hu hs _ ih=>
  intro d hd x y vx vy hx hy;obtain⟨cx,rfl,rx⟩:=GP hr hx;obtain⟨cy,rfl,ry⟩:=GP hr hy;obtain⟨d,rfl⟩: ∃d',d=d'+1:=⟨d-1,by omega⟩;obtain⟨b,h1,h2⟩:=ih d (by omega) x y [] [] cx cy rfl rfl rx ry;refine⟨b,h1,?_⟩;have hf:P.fieldsOf t0=fs0:=by unfold Program.fieldsOf;rw[hu]
  rw[run_equalIn_struct w _ _ _ _ (by rw[hf];exact hu) hs,hf];simpa using h2
 |arr hr hu hi _ ih=>
  intro d hd x y vx vy hx hy;obtain⟨cx,rfl,rx⟩:=GP hr hx;obtain⟨cy,rfl,ry⟩:=GP hr hy;obtain⟨d,rfl⟩: ∃d',d=d'+1:=⟨d-1,by omega⟩;obtain⟨b,h1,h2⟩:=ih d (by omega) x y [] [] cx cy (by simp) (by simp) rx ry;refine⟨b,h1,?_⟩;obtain⟨i,hi⟩:=aMx.1 hi;rw[run_equalIn_array w _ _ _ hu hi,List.range_eq_range'];simpa using h2
 |nil=>
  intro d _ x y px py cx cy _ _ _ _;exact⟨true,rfl,by simp [Op.eqFields]⟩
 |anil=>
  intro d _ x y px py cx cy _ _ _ _;exact⟨true,rfl,by simp [Op.eqItems]⟩
 | @cons h o f r a b hn ho hsz hrow _ _ iha ihb=>
  intro d hd x y px py cx cy hpx hpy ⟨x1,x2,ex,rx1,rx2⟩ ⟨y1,y2,ey,ry1,ry2⟩;subst ex;subst ey;obtain⟨vx,p1,v1⟩:=M6 (P:=P) (c1:=px) (c3:=x2) hsz hrow rx1;obtain⟨vy,p2,v2⟩:=M6 (P:=P) (c1:=py) (c3:=y2) hsz hrow ry1;obtain⟨b1,e1,r1⟩:=iha d hd x.1 y.1 vx vy v1 v2;obtain⟨b2,e2,r2⟩:=ihb d hd x.2 y.2 (px++x1) (py++y1) x2 y2 (by rw[aMu,hpx,rR rx1]) (by rw[aMu,hpy,rR ry1]) rx2 ry2;refine⟨b1&&b2,by simp only[zS,e1,e2,zS.eqAnd],?_⟩;rw[aMC] at p1 p2 r2;rw[aMC] at r2;rw[hpx,<-ho] at p1;rw[hpy,<-ho] at p2;simp only[Op.eqFields,if_pos hn,aMJ,p1,p2,aMB,r1];cases b1
  ·simp
  ·simpa using r2
 | @acons h e i m a b hsz hrow _ _ iha ihb=>
  intro d hd x y px py cx cy hpx hpy ⟨x1,x2,ex,rx1,rx2⟩ ⟨y1,y2,ey,ry1,ry2⟩;subst ex;subst ey;have hc:=aER hsz;obtain⟨vx,p1,v1⟩:=M6 (P:=P) (c1:=px) (c3:=x2) hsz hrow rx1;obtain⟨vy,p2,v2⟩:=M6 (P:=P) (c1:=py) (c3:=y2) hsz hrow ry1;obtain⟨b1,e1,r1⟩:=iha d hd x.1 y.1 vx vy v1 v2;obtain⟨b2,e2,r2⟩:=ihb d hd x.2 y.2 (px++x1) (py++y1) x2 y2 (by rw[aMu,hpx,rR rx1,hc,aNx]) (by rw[aMu,hpy,rR ry1,hc,aNx]) rx2 ry2;refine⟨b1&&b2,by simp only[zS,e1,e2,zS.eqAnd],?_⟩;rw[aMC] at p1 p2 r2;rw[aMC] at r2;rw[hpx] at p1;rw[hpy] at p2;simp only[aOc,Op.eqItems,aMJ,p1,p2,aMB,r1];cases b1
  ·simp
  ·simpa using r2
variable {o:Oper}{a:Act}{H:qQ}{T:rP}(hT:vK P T) (hH:rH g w H)
include hT hH
theorem aES {op:BinOp}{xt yt:TypeId}{x y:Operand}(ho:o.op= .binOp op xt x y yt) {sx sy:pB}(hx:q7 g w sx (a.eval x)) (hy:q7 g w sy (a.eval y)) {e:pI}
  (hr:yS (U1 (qB T xt) op sx sy)=some e):pZ P o a g w H e:=by
 obtain⟨q,hq,rfl⟩:=GQ hr;have go: ∀{u v:Value},a.eval x=u->a.eval y=v->(∃z,(do eqGuard op xt x y u v;Go.binOp op xt u v:Sem Value).run P w= .ok z w/\xU g w q.2 z)->pZ P o a g w H ⟨q.1,(q.2,none),[],[]⟩:=by
  rintro u v rfl rfl ⟨z,hz,hd⟩;refine pZ.pure hH (v:=z) ?_ hd;unfold execOp;rw[ho];simp only[aMJ,aMT] at hz⊢;rw[hz];rfl
 replace hx:=hx.1;replace hy:=hy.1;generalize hti:qB T xt=oti at hq;unfold U1 at hq;split at hq
 ·rename_i u el by' ar ls_ t l k k';have hd:=(rX hT hti).2;simp only[wS] at hd;obtain⟨ax,cx,ex,hle,hll⟩:=BC hx;have hnil:ax=none->l=[]:=fun h=>by
   rcases hll with h1|⟨b,o,h1,_⟩
   ·exact h1
   ·rw[h] at h1;cases h1
  have ey:a.eval y= .slice none 0 0:=hy;refine go ex ey ?_;unfold OO at hq;split at hq
  ·cases hq;have h1:(do eqGuard .eql xt x y (.slice ax (List.length l) cx) (.slice none 0 0);Go.binOp .eql xt (.slice ax (List.length l) cx) (.slice none 0 0):Sem Value).run P w= .ok (.bool ax.isNone) w:=by
    simp only[aMJ];rw[show (eqGuard .eql xt x y (.slice ax (List.length l) cx) (.slice none 0 0)).run P w= .ok () w from by simp [eqGuard]];exact Lib.run_eql_slice_nil (P:=P) w xt _ ax (List.length l) cx 0 0 hd.1
   exact⟨_,h1,_,rfl,fun h=>hnil (by simpa using h),fun _=>trivial⟩
  ·cases hq;have h1:(do eqGuard .neq xt x y (.slice ax (List.length l) cx) (.slice none 0 0);Go.binOp .neq xt (.slice ax (List.length l) cx) (.slice none 0 0):Sem Value).run P w= .ok (.bool (!ax.isNone)) w:=by
    simp only[aMJ];rw[show (eqGuard .neq xt x y (.slice ax (List.length l) cx) (.slice none 0 0)).run P w= .ok () w from by simp [eqGuard]];exact run_neq_slice_nil_any (P:=P) w xt _ ax (List.length l) cx 0 0 hd.1
   exact⟨_,h1,_,rfl,fun _=>trivial,fun h=>hnil (by simpa using h)⟩
  ·cases hq
 ·rename_i u el by' ar ls_ k t l k';have hd:=(rX hT hti).2;simp only[wS] at hd;obtain⟨ay,cy,ey,hle,hll⟩:=BC hy;have hnil:ay=none->l=[]:=fun h=>by
   rcases hll with h1|⟨b,o,h1,_⟩
   ·exact h1
   ·rw[h] at h1;cases h1
  have ex:a.eval x= .slice none 0 0:=hx;refine go ex ey ?_;unfold OO at hq;split at hq
  ·cases hq;have h1:(do eqGuard .eql xt x y (.slice none 0 0) (.slice ay (List.length l) cy);Go.binOp .eql xt (.slice none 0 0) (.slice ay (List.length l) cy):Sem Value).run P w= .ok (.bool ay.isNone) w:=by
    simp only[aMJ];rw[show (eqGuard .eql xt x y (.slice none 0 0) (.slice ay (List.length l) cy)).run P w= .ok () w from by simp [eqGuard]];exact run_eql_nil_slice (P:=P) w xt _ ay (List.length l) cy 0 0 hd.1
   exact⟨_,h1,_,rfl,fun h=>hnil (by simpa using h),fun _=>trivial⟩
  ·cases hq;have h1:(do eqGuard .neq xt x y (.slice none 0 0) (.slice ay (List.length l) cy);Go.binOp .neq xt (.slice none 0 0) (.slice ay (List.length l) cy):Sem Value).run P w= .ok (.bool (!ay.isNone)) w:=by
    simp only[aMJ];rw[show (eqGuard .neq xt x y (.slice none 0 0) (.slice ay (List.length l) cy)).run P w= .ok () w from by simp [eqGuard]];exact run_neq_nil_slice (P:=P) w xt _ ay (List.length l) cy 0 0 hd.1
   exact⟨_,h1,_,rfl,fun _=>trivial,fun h=>hnil (by simpa using h)⟩
  ·cases hq
 ·rename_i u el b ar ls_ t x' k t' y' k';unfold a4X at hq;split at hq
  ·rename_i htt;subst htt;split at hq
   ·rename_i hc;obtain⟨rfl,hc⟩:=hc;simp only[sQ] at hq;obtain⟨r,hr1,hr2⟩: ∃r,zS t' x' y'=some r/\((op= .eql/\q=([],.val .bool r))\/(op= .neq/\q=([],.val .bool (!r)))):=by
     generalize hgen:zS t' x' y'=od at hq;unfold a4W at hq;split at hq
     ·rename_i r;cases hq;exact⟨r,rfl,.inl ⟨rfl,rfl⟩⟩
     ·rename_i r;cases hq;exact⟨r,rfl,.inr ⟨rfl,rfl⟩⟩
     ·cases hq
    have hti':=rX hT hti;rcases hc with rfl|⟨hrow,rfl⟩
    ·have hd:=hti'.2;simp only[wS] at hd;obtain hbx:=vL hx;obtain hby:=vL hy;refine go hbx hby ?_;have hrr:r=(x'==y'):=(aMy hr1).symm;subst hrr;have hrun:=run_equalIn_bool' (P:=P) w 9999 xt x' y' hd;rcases hr2 with⟨rfl,rfl⟩ |⟨rfl,rfl⟩
     ·refine⟨.bool (x'==y'),?_,uU _ _ _⟩;simp only[aMJ];rw[show (eqGuard .eql xt x y (.bool x') (.bool y')).run P w= .ok () w from by simp [eqGuard]];simp only[aMB,Go.binOp,Op.equal,Op.maxDepth,aMJ,hrun,aMT]
     ·refine⟨.bool (!(x'==y')),?_,uU _ _ _⟩;simp only[aMJ];rw[show (eqGuard .neq xt x y (.bool x') (.bool y')).run P w= .ok () w from by simp [eqGuard]];simp only[aMB,Go.binOp,Op.equal,Op.maxDepth,aMJ,hrun,aMT]
    ·have h2:=hti'.2;have heq:P.eqGuardType P.depth xt=false/\∃h,h<9000/\wR P h (.ty xt) t':=by
      unfold wS at h2;cases t'<;>simp only[Ty.isRow,aNl] at hrow
      all_goals exact h2.2 rfl
     obtain⟨hg1,hh,hlt,hE⟩:=heq;obtain⟨cx,ex,rx⟩:=GP hrow hx;obtain⟨cy,ey,ry⟩:=GP hrow hy;obtain⟨b',hb1,hb2⟩:=hE.run (g:=g) (w:=w) 9999 (by omega) x' y' _ _ hx hy;rw[hr1] at hb1;obtain rfl:=aMy hb1;rw[ex,ey] at hb2;refine go ex ey ?_;rcases hr2 with⟨rfl,rfl⟩ |⟨rfl,rfl⟩
     ·refine⟨.bool r,?_,uU _ _ _⟩;simp only[aMJ];rw[run_eqGuard_agg w _ _ _ _ _ _ hg1];simp only[aMB];rw[run_eql_struct,hb2];rfl
     ·refine⟨.bool (!r),?_,uU _ _ _⟩;simp only[aMJ];rw[run_eqGuard_agg w _ _ _ _ _ _ hg1];simp only[aMB];rw[run_neq_struct,hb2];rfl
   ·cases hq
  ·cases hq
 ·cases hq
end
end Go.Proofs.YtbbpilohihldiaaGreatDoor.Vc
namespace Go.Proofs.YtbbpilohihldiaaGreatDoor.Vc
open Go.RowKit
theorem aET (s:List UInt8):Lib.strCells ⟨s.toArray⟩=s.map fun b=>Value.int .u8 b.toNat:=by
 simp [Lib.strCells]
theorem aEU {P:Program}(w:World) (t u ty e:TypeId) (i:TypeInfo) (ht:P.underlying t=some (.slice e)) (hu:P.underlying u=some .string) (hi:P.info? e=some i) (hz:i.zero=some (.int .u8 0))
  (hsize:i.size=1) (hby:i.bytes=1) (v:Value) (n:Nat) (xs:List Value) (hown:w.ownsRow 0 e 1 v n xs) (s:ByteArray) (hm:0<s.size)
  (h63:n+s.size<=maxLen) (hbytes:n+s.size<=140737488355328):
  ∃q cap w',(Builtin.append_ #[t,u] ty #[v,.string s]).run P w= .ok (.slice (some ⟨q,0,none⟩) (n+s.size) cap) w'/\w'.ownsRow 0 e 1 (.slice (some ⟨q,0,none⟩) (n+s.size) cap) (n+s.size) (xs++Lib.strCells s)/\
   (q=w.heap.size\/v.ownBlock=some q)/\w.grownBy w' v.ownBlock/\n+s.size<=cap/\
   ∀b o,b<w.heap.size->(v.ownBlock=some b->o<n*1)->w'.cell? ⟨b,o,none⟩=w.cell? ⟨b,o,none⟩:=by
 have hsmall:n+s.size<=9223372036854775807:=by simp only[maxLen] at h63;omega
 have hxl:xs.length=n:=by simpa using hown.1
 have hlen:(xs++Lib.strCells s).length=(n+s.size)*1:=by rw[aMu,hxl,Lib.strCells_length,aOC]
 have grown: ∀(old:Nat),old<n+s.size->∀(row:Option Nat),
   (w.drew.alloc (.cells (xs.toArray++(Lib.strCells s).toArray++Builtin.zeroCells (Value.int .u8 0).cells (grownCap w (n+s.size) old e- (n+s.size))) e)).ownsRow 0 e 1
    (.slice (some ⟨w.heap.size,0,none⟩) (n+s.size) (grownCap w (n+s.size) old e)) (n+s.size) (xs++Lib.strCells s)/\
   w.grownBy (w.drew.alloc (.cells (xs.toArray++(Lib.strCells s).toArray++Builtin.zeroCells (Value.int .u8 0).cells (grownCap w (n+s.size) old e- (n+s.size))) e)) row/\n+s.size<=grownCap w (n+s.size) old e/\
   ∀b o,b<w.heap.size->(w.drew.alloc (.cells (xs.toArray++(Lib.strCells s).toArray++Builtin.zeroCells (Value.int .u8 0).cells (grownCap w (n+s.size) old e- (n+s.size))) e)).cell? ⟨b,o,none⟩=w.cell? ⟨b,o,none⟩:=by
  intro old ho row;have hge:=grownCap_ge w (n+s.size) old e;have hcm:grownCap w (n+s.size) old e<=maxLen:=grownCap_le_maxLen w (n+s.size) old e h63;refine⟨⟨hlen,.inr ⟨w.heap.size,_,_,rfl,aNm _,aOE w.drew _,hge,hcm,?_,?_⟩⟩,⟨rfl,rfl,rfl,by simp,fun k hk _=>aMW w.drew _ k hk⟩,hge,fun b o hb=>aMR (w:=w) (a:=⟨b,o,none⟩) (aMW w.drew _ b hb)⟩
  ·have hz1:(Value.int IntKind.u8 0).cells.size=1:=rfl;simp only[aOD,aNe,size_zeroCells,hz1,hxl,Lib.strCells_length];omega
  ·simp only[Array.toList_append,aMC];rw[<-aMC,<-hlen];exact aNP
 rcases hown.2 with⟨rfl,rfl⟩ |⟨g,cap,cur,rfl,hbg,hg,hnc,hcm,hcs,htake⟩
 ·have hx:xs=[]:=aMZ hxl;subst hx;have hr:=run_append_nil_string (P:=P) w t u ty e i (.int .u8 0) ht hu hi hz s (by omega) (by omega) (by rw[hby];omega);have hgr:=grown 0 (by omega) (Value.ownBlock (.slice none 0 0));simp only[aM3,List.nil_append,Array.empty_append] at hgr⊢;have e1:(s.data.map fun b=>Value.int .u8 b.toNat)=(Lib.strCells s).toArray:=by
   apply Array.ext';simp [Lib.strCells]
  rw[e1] at hr;exact⟨_,_,_,hr,hgr.1,.inl rfl,hgr.2.1,hgr.2.2.1,fun b o hb _=>hgr.2.2.2 b o hb⟩
 ·by_cases hroom:n+s.size<=cap
  ·have hcs':cur.size=cap:=by simpa using hcs
   have hr:=Lib.run_append_room_string (P:=P) w t u ty e i ht hu hi hsize g n cap cur hg s hroom (by omega);refine⟨_,_,_,hr,⟨hlen,.inr ⟨g,cap,_,rfl,hbg,aOt w g cur _ e _ hg,hroom,hcm,?_,?_⟩⟩,.inr rfl,⟨rfl,rfl,rfl,by simp,fun k _ hk=>aN2 w g k _ (fun e=>hk (by simp [Value.ownBlock,e]))⟩,hroom,fun b o hb hso=> ?_⟩
   ·simp only[aNe,aMu,aMS,aML,aM1,Lib.strCells_length];omega
   ·have ht':cur.toList.take n=xs:=by simpa using htake
    rw[ht',<-hlen];exact aNP
   ·by_cases hbg':b=g
    ·subst hbg';have ho:=hso rfl;rw[cell_setRow_same w b o cur _ e _ hg,cell_of_row w b o cur e (0,0) hg];have hlt:o<(cur.toList.take n).length:=by rw[aMS,aM1];omega
     have hlt2:o<cur.size:=by rw[aMS,aM1] at hlt;omega
     simp only[List.getElem?_toArray,aMC];rw[aMN hlt,aOh,if_pos (by omega)];simp
    ·exact aMR (a:=⟨b,o,none⟩) (aN2 w g b _ hbg')
  ·have holds: ∀j u,xs[j]? =some u->w.cell? ((⟨g,0,none⟩:Addr).add j)=some u:=hown.cells (g:=g) rfl;have hr:=Lib.run_append_grow_string (P:=P) w t u ty e i (.int .u8 0) ht hu hi hz ⟨g,0,none⟩ n cap xs (by rw[hsize];simpa using hxl) holds s (by omega) (by omega) (by rw[hby];exact growslice_fits (by omega) (by omega));have hgr:=grown cap (by omega) (Value.ownBlock (.slice (some ⟨g,0,none⟩) n cap));exact⟨_,_,_,hr,hgr.1,.inl rfl,hgr.2.1,hgr.2.2.1,fun b o hb _=>hgr.2.2.2 b o hb⟩
theorem aEV {P:Program}(w:World) (t u ty e:TypeId) (i:TypeInfo) (ht:P.underlying t=some (.slice e)) (hu:P.underlying u=some .string) (hi:P.info? e=some i) (hsize:i.size=1) (ad:Option Addr) (n c:Nat) (hle:n<=c):
  (Builtin.append_ #[t,u] ty #[.slice ad n c,.string ⟨#[]⟩]).run P w= .ok (.slice ad n c) w:=by
 have hf:=Lib.run_firstCells_string (P:=P) w 1 ⟨#[]⟩;have hm:(⟨#[]⟩:ByteArray).size=0:=rfl;rw[hm] at hf;cases ad<;>simp [Builtin.append_,aMM ht,aMM hu,sizeOf,typeInfo,hi,hsize,Builtin.lenOf,hm,hf,hle,Lib.strCells,storeCells]
theorem a6L (g:Gh) (w:World): ∀s:List UInt8,s7 (Rd g w (.int .u8)) 1 (rG s) (s.map fun b=>Value.int .u8 b.toNat)
 |[]=>rfl
 |b::s=>⟨[.int .u8 b.toNat],_,rfl,rfl,rfl,a6L g w s⟩
section
variable {P:Program}{o:Oper}{a:Act}{g:Gh}{w:World}{H:qQ}{T:rP}(hT:vK P T) (hH:rH g w H)
include hT hH
theorem aEW {t t':TypeId}{x:Operand}(ho:o.op= .convert t t' x) {sx:pB}(hx:q7 g w sx (a.eval x)) {e:pI}
  (hr:yS (U3 T (qB T t) (qB T t') sx)=some e):pZ P o a g w H e:=by
 obtain⟨q,hq,rfl⟩:=GQ hr;replace hx:=hx.1;generalize h1:qB T t=o1 at hq;generalize h2:qB T t'=o2 at hq;unfold U3 at hq;split at hq
 ·rename_i e b1 a1 l1 e2 b2 a2 l2 l k;generalize h3:qB T e=o3 at hq;unfold a4Z at hq;split at hq
  ·cases hq;have d1:=(rX hT h1).2;have d2:=(rX hT h2).2;have d3:=(rX hT h3).2;simp only[wS] at d1 d2 d3;obtain⟨ad,cap,hv,hle,hl⟩:=BC hx;refine pZ.pure hH (v:= .string ⟨(rQ l).toArray⟩) ?_ (CA _ _ _);simp only[execOp,ho,hv,aMJ];have run:(convert t t' (.slice ad (List.length l) cap)).run P w= .ok (.string ⟨(rQ l).toArray⟩) w:=by
    rcases hl with rfl|⟨b,off,rfl,hL⟩
    ·rw[run_convert_bytes_string w t t' e ad _ cap d1.1 d3 d2];cases ad with
     |none=>simp [Conv.bytesToString,rQ];rfl
     |some ad=>simp [Conv.bytesToString,loadCells,loadCellsFrom,rQ];rfl
    ·have:=run_convert_bytes_arg (P:=P) w t e d1.1 d3 b off (List.length l) cap l rfl (fun i hi=>by
      obtain⟨cs,_,c2,_,c4⟩:=Q7 hL (aMA hi);have c5:cs=[.int .u8 (l[i]:Int)]:=c4;subst c5;have:=c2 0 _ rfl;have hcell:Ty.cells (.int .u8)=1:=rfl;rw[hcell,aOC,aNW] at this;rw[this,aMP,aMA hi];rfl) t' d2
     exact this
   rw[run];rfl
  ·cases hq
 ·cases hq
theorem aEX {args:Array Operand}{tys:Array TypeId}(ho:o.op= .call ⟨.builtin .append,args,tys⟩) {ρ:Operand->pB}(hρ: ∀x∈args.toList,q7 g w (ρ x) (a.eval x)) {e:pI}
  (hr:PO T H (tW ρ args.toList) tys.toList=some e) (hs: ∀p∈e.side,p):pZ P o a g w H e:=by
 unfold PO at hr;split at hr
 ·rename_i t u htu;have htys:tys= #[t,u]:=by apply aNB.1;rw[htu]
  split at hr
  ·rename_i e1;subst e1;exact aEj hT hH ho hρ htys hr hs
  ·clear htu;subst htys;generalize hst:qB T t=ot at hr;generalize hsu:qB T u=ou at hr;generalize hss:tW ρ args.toList=ss at hr;unfold UT at hr;split at hr
   ·rename_i el ar ls_ e2 b2 a2 ls2 l k s k2;generalize hk:pD H k=ob at hr;unfold PN at hr;split at hr
    ·rename_i e' c n;split at hr
     ·rename_i hec;obtain⟨rfl,rfl⟩:=hec;cases hr;rw[aMu];have hsl:List.length (rG s)=List.length s:=by simp [rG]
      rw[hsl];have hln:=hs _ (by simp:(List.length l=n)∈_);have hby:=hs _ (by simp:(List.length l+List.length s<=140737488355328)∈_);obtain⟨v,vr,hv,hs1,hs2⟩:=QA hT hH hρ hss;obtain⟨h2,h3,_⟩:=(rX hT hst).2;have hu:=(rX hT hsu).2;simp only[wS] at hu;obtain⟨ei,hei,hz⟩:=aMI.1 h3;simp only[aMX] at hz;obtain⟨cs,hx⟩:=D7 (a:=a) hT hH ho;obtain⟨v0,xs,hv0,hown,hnone,hseal⟩:=hH.blk k _ hk;have hcur:g.cur k (List.length l)=some v:=hs1.2;rw[hln,hv0] at hcur;obtain rfl:=aMy hcur;obtain⟨adl,capl,hvl,hlel,hll⟩:=BC hs1.1;have hvr:=wW hs2.1;have hsz:(⟨List.toArray s⟩:ByteArray).size=List.length s:=by simp [ByteArray.size]
      by_cases hm:List.length s=0
      ·obtain rfl:s=[]:=aMZ hm;have hget: ∀i,pD (pN [(k,p8.grow e' 1 (List.length l+List.length ([]:List UInt8)))] H) i=pD H i:=by
        intro i;simp only[pN,pD];by_cases hi:k=i
        ·subst hi;rw[if_pos rfl,hk,hln];rfl
        ·rw[if_neg hi]
       have hkeep:qI g w H ⟨[List.length l=n,List.length l+List.length ([]:List UInt8)<=140737488355328],(.val (.list (.int .u8)) (l++rG []),some k),[(k,.grow e' 1 (List.length l+List.length ([]:List UInt8)))],[k]⟩ g w v0:=by
        refine⟨.refl _ _,?_,⟨fun i b h=>hH.blk i b ((hget i).symm.trans h),fun i j bi bj b o' hij h1 h2=>hH.dis i j bi bj b o' hij ((hget i).symm.trans h1) ((hget j).symm.trans h2),hH.sl,hH.tab.1,fun i blk b o' h ho'=>hH.tab.2 i blk b o' ((hget i).symm.trans h) ho'⟩,.refl _ _ _,fun i blk b o' hi hg ho'=> .inr ⟨i,blk,hi,(hget i).symm.trans hg,ho'⟩,fun _ _=>⟨rfl,rfl⟩,fun i u' y us h=> .inl ⟨y,us,(hget i).symm.trans h⟩⟩;rw[show l++rG []=l from by simp [rG]];exact hs1
       refine pZ.value (v:=v0) (w':=w) ?_ hkeep;rw[hx,hv,hvr,hvl];have:=aEV (P:=P) w t u o.type e' ei h2 hu hei (by rw[hz.1];rfl) adl (List.length l) capl hlel;simp only[builtin,aMJ];rw[this];simp only[aMB,aMT]
      ·have hxs:s7 (Rd g w (.int .u8)) 1 l xs:=by
        by_cases h0:List.length l=0
        ·obtain rfl:l=[]:=aMZ h0;have:xs=[]:=aMZ (by rw[hown.1,<-hln];simp);exact this
        ·rcases hll with rfl|⟨b0,off0,rfl,hL0⟩
         ·exact absurd rfl h0
         ·obtain⟨ls,hF0,hra0,_⟩:=J7 hL0;rcases hown.2 with⟨e1,e2⟩ |⟨q,cap,cur,e1,e2⟩
          ·exact absurd (hln.trans e2) h0
          ·rw[hvl] at e1;simp only[aOB,aMt,Addr.mk.injEq] at e1;obtain⟨⟨rfl,rfl,_⟩,_,rfl⟩:=e1;have hvn:v0= .slice (some ⟨b0,0,none⟩) n capl:=by rw[hvl,hln]
           have hrx:=VK (hvn▸hown);have:ls=xs:=by
            have hl1:=F3 hF0;have hl2:=hown.1;have hc1:Ty.cells (.int .u8)=1:=rfl;rw[hc1] at hl1;apply List.ext_getElem?;intro j;by_cases hj:j<ls.length
            ·have h1:=hra0 j ls[j] (aMA hj);have hj':j<xs.length:=by rw[hl2,<-hln,<-hl1];exact hj
             have h2:=hrx j xs[j] (aMA hj');rw[h1] at h2;rw[aMA hj,aMA hj',aMy h2]
            ·rw[aNG (by omega),aNG (by rw[hl2,<-hln,<-hl1];omega)]
           rw[<-this];exact hF0
       obtain⟨q,cap,w',hrun,hown',hq,hg,hcap,hcell⟩:=aEU (P:=P) w t u o.type e' ei h2 hu hei hz.2.2 hz.1 hz.2.1 v0 n xs hown ⟨List.toArray s⟩ (by rw[hsz];omega) (by rw[hsz];unfold maxLen;omega) (by rw[hsz];omega);rw[hsz] at hrun hown' hcap;rw[aET] at hown';refine pZ.value (v:= .slice (some ⟨q,0,none⟩) (n+List.length s) cap) (w':=w') ?_ (by
        have:=qI.append (side:=[List.length l=n,List.length l+List.length s<=140737488355328]) (rds:=[k]) (u:= .int .u8) (r:=rG s) hH hk (show (1:Nat)=Ty.cells (.int .u8) from rfl) hln hv0 hown hnone hseal hxs (a6L g w s) (by rw[hsl];omega) (by rw[hsl];exact hown') hq hg (by rw[hsl];exact hcap) hcell;rw[hsl] at this;rw[hln];rw[hln] at this;exact this)
       rw[hx,hv,hvr];simp only[builtin,aMJ,hrun,aMB,aMT]
     ·cases hr
    ·cases hr
   ·cases hr
 ·cases hr
end
theorem aEY {g g':Gh}{w:World}{f:pB→pB}(hf: ∀s u,q7 g w s u→q7 g' w (f s) u): ∀{l:List pB}{v:Value}{s:pB},MB g w l v→IR (l.map f)=some s→q7 g' w s v:=by
  have un: ∀{l:List pB}{vs:List Value}{q},tY g w l vs→GE (l.map f)=some q→J4 g' w q vs:=by
    intro l
    induction l with
    | nil=>
      intro vs q h hq;simp only[List.map_nil,GE,aMt] at hq;subst hq;exact h
    | cons s l ih=>
      rintro vs q ⟨v,vs',rfl,h1,h2⟩ hq;have h1':=hf s v h1;simp only[aNt] at hq;generalize f s=fs at hq h1';obtain⟨d,k⟩:=fs;cases d with
      | val t x=>
        simp only[GE] at hq;obtain⟨q',hq',rfl⟩:=aMI.1 hq;refine⟨v,vs',rfl,h1'.1,?_,ih h2 hq'⟩;cases k with
        |none=>trivial
        |some k=>exact h1'.2
      |_=>simp [GE] at hq
  intro l v s h hs
  match l,h,hs with
  | [],⟨vs,e,h⟩,hs=>
    simp only[List.map_nil,IR,aMt] at hs;subst hs;rw[show vs=[] from h] at e;exact⟨⟨[],e,rfl⟩,trivial⟩
  | [x],h,hs=>
    simp only[aNt,List.map_nil,IR,aMt] at hs;subst hs;exact hf x v h
  | x::y::l,⟨vs,e,h⟩,hs=>
    simp only[aNt,IR,aMt] at hs;subst hs;cases hq:GE (f x::f y::l.map f) with
    |none=>exact⟨trivial,trivial⟩
    |some q=>exact⟨⟨vs,e,un (l:=x::y::l) h (by simpa using hq)⟩,trivial⟩
theorem a6M {base n:Nat}{W:List pW}: ∀l:List pB,LG base n W l=l.map (OW base n W)
  |[]=>rfl
  |s::l=>by simp [LG,a6M l]
theorem a6N {P:Program}{f:FuncId}{sg:qC}(hcon:xY P f sg.C) {g:Gh}{w:World}{H:qQ}(hH:rH g w H) {args:List pB}{vals:List Value}(hargs:tY g w args vals) {base:Nat}{e:pI}
    (hr:CZ H base args (some sg)=some e) (hs: ∀p∈e.side,p) (hfr:xW g base e):Calls P f vals.toArray w (fun en w'=> ∃v g',en= .returned v∧qI g w H e g' w' v):=by
  simp only[CZ] at hr;cases hp0:vV H sg.ps args (some ⟨[],[],[],0⟩) with
  |none=>rw[hp0] at hr;cases hgs:sg.gs<;>(rw[hgs] at hr;simp [LH,yU] at hr)
  |some q0=>
   rw[hp0] at hr;cases hp:yU H sg.gs (some q0) with
   |none=>rw[hp] at hr;simp [LH] at hr
   |some q=>
    rw[hp] at hr;simp only[LH,a6C,List.append_nil] at hr;have hpo0:=a6x hH (z6.nil g w H) hargs hp0;rw[List.nil_append] at hpo0;have hpo:=a6z hH hpo0 hp;cases hcl:EV q.ws.reverse q.H.reverse with
    |none=>rw[hcl] at hr;simp [OZ] at hr
    |some L=>
    rw[hcl] at hr;simp only[OZ] at hr;have hm:=hpo.m.ren hcl;cases hc:sg.C q.args.reverse L with
    |none=>rw[hc] at hr;simp [OY] at hr
    | some r=>
      rw[hc] at hr;simp only[OY,a6B] at hr;cases hbh:yV base r.H.length q.ws.reverse 0 q.ws.reverse r.H with
      |none=>rw[hbh] at hr;simp [LF] at hr
      | some upd=>
        rw[hbh] at hr;cases hrs:IR (LG base r.H.length q.ws.reverse r.ret) with
        |none=>rw[hrs] at hr;simp [LF] at hr
        | some s=>
          rw[hrs] at hr;simp only[LF,aMt] at hr;subst hr;refine(hcon.2 (tN g q.ws.reverse) w q.args.reverse _ L r (aEz hH hm) hpo.args hc hs).mono ?_;rintro en w' ⟨v,g',rfl,hret⟩;refine⟨v,_,rfl,aEP hH hm hret hbh hfr ?_⟩;rw[a6M] at hrs;exact aEY (fun s u h=>aEN hH hm hret hbh hfr h) hret.ret hrs
theorem ME {g g':Gh}{w w':World}: ∀{t:Ty}{x:t.den}{cs:List Value},EW t=true→Rd g w t x cs→Rd g' w' t x cs
  | .bool,_,_,_,r=>r
  | .int _,_,_,_,r=>r
  | .str,_,_,_,r=>r
  | .unit,_,_,_,r=>r
  | .fn,_,_,_,r=>r
  | .pair a b,_,_,h,⟨c1,c2,e,r1,r2⟩=>by
    simp only[EW,aMz] at h;exact⟨c1,c2,e,ME h.1 r1,ME h.2 r2⟩
  | .list _,_,_,h,_=>by cases h
  | .ref,_,_,h,_=>by cases h
  | .clo,_,_,h,_=>by cases h
  | .mp,_,_,h,_=>by cases h
  | .rl _ _,_,_,h,_=>by cases h
  | .mref,_,_,h,_=>by cases h
theorem a6O {g g':Gh}{w:World}{k n:Nat}{t:Ty}{l:List t.den}(le:Le g w g' w) (hk: ∀u,g.cur k n=some u→((u= .slice none 0 0∧n=0)∨∃b cap,u= .slice (some ⟨b,0,none⟩) n cap∧n≤cap)→s5 g' w (.list t) l u):
    ∀{args:List pB}{vals:List Value},tY g w args vals→(∀p∈GF k n args,p)→tY g' w (LJ k t l args) vals
  |[],_,h,_=>h
  | s::ss,_,⟨v,vs,rfl,h1,h2⟩,hp=>by
    refine⟨v,vs,rfl,?_,a6O le hk h2 (fun p hp'=>hp p ?_)⟩
    · obtain⟨d,x⟩:=s
      cases d with
      | own j m=>
        simp only[a49];split
        · rename_i e
          subst e;have hm:m=n:=hp (j=j→m=n) (by simp only[GF];exact aMO) rfl;subst hm;exact⟨hk _ h1.1.1 h1.1.2,trivial⟩
        ·exact yX le h1
      |_=>exact yX le h1
    · obtain⟨d,x⟩:=s
      cases d with
      |own j m=>simp only[GF];exact aMH _ hp'
      |_=>exact hp'
theorem aEZ {P:Program}{f:FuncId}{sg:qC}(hcon:xY P f sg.C) {g:Gh}{w:World}{H:qQ}(hH:rH g w H) {args:List pB}{vals:List Value}(hargs:tY g w args vals) {base:Nat}{e:pI}{k:Nat}
    (hr:LK H base args sg k (pD H k)=some e) (hs: ∀p∈e.side,p) (hfr:xW g base e):Calls P f vals.toArray w (fun en w'=> ∃v g',en= .returned v∧qI g w H e g' w' v):=by
  cases hk:pD H k with
  |none=>rw[hk] at hr;cases hr
  | some b=>
    rw[hk] at hr;cases b with
    | row e0 t l m=>
      simp only[LK] at hr;cases hi:CZ ((k,.dead)::H) base (LJ k t l args) (some sg) with
      |none=>rw[hi] at hr;cases hr
      | some e1=>
        rw[hi] at hr;unfold U8 at hr;split at hr
        · rename_i side t' x kk U rds heq
          simp only[aMt] at heq;subst heq;split at hr
          · rename_i hnl
            simp only[aMz,aMV] at hnl;obtain⟨⟨hnl,hU⟩,hkU⟩:=hnl;have hkU':k∉pE U:=fun h=>by rw[GS.2 h] at hkU;cases hkU
            cases hr;obtain⟨hl,v,xs,hv,hown,hF,hnone,hseal⟩:=hH.blk k _ hk
            let g':Gh:={g with S:=fun b o=>g.S b o∨(v.ownBlock=some b∧o<m*t.cells)}
            have le:Le g w g' w:=⟨fun _ _ h=> .inl h,fun _ _ _=>rfl,fun _ _ h=>h,fun _ _ _ h=>h⟩;have hown2: ∀b,v.ownBlock=some b→∀o,qR g k (.row e0 t l m) b o:=fun b hb o=>⟨v,hv,hb⟩
            have hlist: ∀u,g.cur k m=some u→((u= .slice none 0 0∧m=0)∨∃b cap,u= .slice (some ⟨b,0,none⟩) m cap∧m≤cap)→s5 g' w (.list t) l u:=by
              intro u hu hshape;rw[hv] at hu;obtain rfl:=aMy hu;rcases hshape with⟨rfl,h0⟩ |⟨b,cap,rfl,hcap⟩
              · have:l=[]:=aMZ (by rw[hl,h0])
                subst this;exact .inr ⟨rfl,none,0,rfl,Nat.le_refl _,.inl rfl⟩
              · refine .inr ⟨rfl,some ⟨b,0,none⟩,cap,by rw[hl],by rw[hl];exact hcap,.inr ⟨b,0,rfl,J8 (AL (fun _ _ h=>w4 le h) hF) (fun j u hu=> ?_) (fun j hj=> ?_)⟩⟩
                · have:=hown.cells (g:=b) rfl j u hu
                  rwa [aNO] at this
                · right
                  exact⟨rfl,by rw[hl] at hj;omega⟩
            have hget: ∀i b,pD ((k,p8.dead)::H) i=some b→(i=k∧b= .dead)∨(i≠k∧pD H i=some b):=by
              intro i b hb;simp only[pD] at hb;split at hb
              ·rename_i e1;exact .inl ⟨e1.symm,(aMy hb).symm⟩
              ·rename_i e1;exact .inr ⟨Ne.symm e1,hb⟩
            have hH':rH g' w ((k,p8.dead)::H):=by
              refine⟨fun i b hb=> ?_,fun i j bi bj b o hij h1 h2 o1 o2=> ?_,fun b o hS=> ?_,hH.tab.1,fun i b bb oo hb ho=> ?_⟩
              · rcases hget i b hb with⟨rfl,rfl⟩ |⟨hne,h1⟩
                ·trivial
                ·exact J5 (hH.blk i b h1) le rfl rfl (fun _ _ _=>⟨rfl,rfl⟩) (fun _ _=>rfl) (fun bb o ho hS=>by
                    rcases hS with hS|hS
                    ·exact hS
                    ·exact absurd (hown2 bb hS.1 o) (fun h5=>hH.dis i k b _ bb o hne h1 hk ho h5)) (fun _ _ _ _ h=>h)
              · rcases hget i bi h1 with⟨_,rfl⟩ |⟨_,h1⟩
                ·exact o1.elim
                · rcases hget j bj h2 with⟨_,rfl⟩ |⟨_,h2⟩
                  ·exact o2.elim
                  ·exact hH.dis i j bi bj b o hij h1 h2 ((xG (g':=g') (g:=g) rfl rfl).1 o1) ((xG (g':=g') (g:=g) rfl rfl).1 o2)
              · rcases hS with hS|hS
                ·exact hH.sl b o hS
                ·exact M1 hown hS.1
              · rcases hget i b hb with⟨_,rfl⟩ |⟨_,h1⟩
                ·exact ho.elim
                ·exact hH.tab.2 i b bb oo h1 ((xG (g':=g') (g:=g) rfl rfl).1 ho)
            have hsp: ∀p,p∈GF k m args∨p∈side→p:=fun p hp=>hs p (MA.2 hp)
            have hget2: ∀i,i≠k→pD ((k,p8.dead)::H) i=pD H i:=fun i hi=>by
              simp only[pD];rw[if_neg (Ne.symm hi)]
            have hin: ∀{i},i∈pE U→i≠k:=fun h e=>hkU' (e▸h)
            have hup: ∀{i blk},i∈pE U→pD (pN U H) i=some blk→pD (pN U ((k,p8.dead)::H)) i=some blk:=by
              intro i blk hi h
              have: ∀{U:List (Nat×p8)},i∈pE U→pD (pN U ((k,p8.dead)::H)) i=pD (pN U H) i:=by
                intro U
                induction U with
                |nil=>intro h;cases h
                | cons q U ih=>
                  intro h;obtain⟨j,b⟩:=q;simp only[pN,pD];split
                  ·rfl
                  · rename_i hne
                    simp only[pE,aMK] at h;exact ih (h.resolve_left (fun e=>hne e.symm))
              rw[this hi];exact h
            have hcells: ∀{i blk},i∈pE U→pD (pN U H) i=some blk→∃t y,blk= .cells t y []∧EW t=true:=by
              intro i blk hi h
              have: ∀{U:List (Nat×p8)},IS U=true→i∈pE U→pD (pN U H) i=some blk→∃t y,blk= .cells t y []∧EW t=true:=by
                intro U
                induction U with
                |nil=>intro _ h;cases h
                | cons q U ih=>
                  intro hU hi h;obtain⟨j,b⟩:=q;cases b with
                  | cells t y ts=>
                    cases ts with
                    |cons _ _=>simp [IS] at hU
                    | nil=>
                      simp only[IS,aMz] at hU;simp only[pN,pD] at h;split at h
                      · obtain rfl:=aMy h
                        exact⟨t,y,rfl,hU.1⟩
                      · rename_i hne
                        simp only[pE,aMK] at hi;exact ih hU.2 (hi.resolve_left (fun e=>hne e.symm)) h
                  |_=>simp [IS] at hU
              exact this hU hi h
            have hownI: ∀b o,rT g' ((k,p8.dead)::H) (pE U) b o→rT g H (pE U) b o:=fun b o ⟨i,blk,hi,h1,h2⟩=>⟨i,blk,hi,(hget2 i (hin hi)).symm.trans h1,(xG (g':=g') (g:=g) rfl rfl).1 h2⟩;refine(a6N hcon hH' (a6O le hlist hargs (fun p hp=>hsp p (.inl hp))) hi (fun p hp=>hsp p (.inr hp)) (fun i hi' hb=>hfr i hi' hb)).mono ?_;rintro en w' ⟨v1,g1,rfl,hE⟩
            let g2:Gh:={g1 with S:=g.S}
            have hle:Le g w g2 w':=⟨fun _ _ h=>h,fun b o h=>hE.le.cell b o (.inl h),fun i p h=>hE.le.J i p h,fun i n u h=>hE.le.cur i n u h⟩
            have hfr2:Fr (rT g H (pE U)) w w' g.S g2.S:=
              ⟨hE.fr.os,hE.fr.tape,hE.fr.output,hE.fr.size,fun b hb hno=>hE.fr.blk b hb (fun o h=>hno o (hownI b o h)),fun b o hb hno=>hE.fr.cell b o hb (fun h=>hno (hownI b o h)),fun _ _ h=> .inl h,fun b s h=>(hE.fr.shape b s h).imp id fun h o=>hownI b o (h o)⟩
            have hgho: ∀i,i∉pE U→g2.J i=g.J i∧g2.cur i=g.cur i:=fun i hi=>hE.gho i hi
            have hperm: ∀i blk b o,i∈pE U→pD (pN U H) i=some blk→qR g2 i blk b o→w.heap.size≤b∨rT g H (pE U) b o:=fun i blk b o hi hg ho=>
              (hE.perm i blk b o hi (hup hi hg) ((xG (g':=g2) (g:=g1) rfl rfl).1 ho)).imp id (hownI b o)
            refine⟨v1,g2,rfl,hle,⟨?_,trivial⟩,hH.upd hle hfr2 hperm hgho (fun i blk hi hg=> ?_) (fun i j bi bj b o hi hj hij hgi hgj hoi hoj=> ?_) (fun b o h=>aM8 (hH.sl b o h) hE.fr.size),hfr2,hperm,hgho,fun i u y us h=> ?_⟩
            ·exact hE.slot.1.imp (fun⟨a,cs,e,q⟩=>⟨a,cs,e,ME hnl q⟩) (fun⟨a,q⟩=>⟨a,ME hnl q⟩)
            · obtain⟨t2,y2,rfl,hn2⟩:=hcells hi hg
              obtain⟨p,cs,q1,q2,q3,q4,q5,_⟩:=hE.heap.blk i _ (hup hi hg);exact⟨p,cs,q1,ME hn2 q2,q3,q4,fun j hj hS=>q5 j hj (hE.le.S _ _ (.inl hS)),fun _ _ hm=>by cases hm⟩
            ·exact hE.heap.dis i j bi bj b o hij (hup hi hgi) (hup hj hgj) ((xG (g':=g2) (g:=g1) rfl rfl).1 hoi) ((xG (g':=g2) (g:=g1) rfl rfl).1 hoj)
            · by_cases hiU:i∈pE U
              · rcases hE.ty i u y us (hup hiU h) with⟨x',ts',q⟩ |q
                ·exact .inl ⟨x',ts',(hget2 i (hin hiU)).symm.trans q⟩
                ·exact .inr q
              ·exact .inl ⟨y,us,(A1 hiU).symm.trans h⟩
          ·cases hr
        ·cases hr
    |_=>cases hr
theorem aE0 {P:Program}{f:FuncId}{F:(t:Ty)→List t.den→Option (List t.den)}(hF:QF P f F) {g:Gh}{w:World}{H:qQ}(hH:rH g w H) {args:List pB}{vals:List Value}(hargs:tY g w args vals) {e:pI}
    (hr:P0 H F args=some e) (hs: ∀p∈e.side,p):Calls P f vals.toArray w (fun en w'=> ∃v g',en= .returned v∧qI g w H e g' w' v):=by
  unfold P0 at hr;split at hr
  · rename_i k n x
    obtain⟨v,vs,rfl,ha,hv⟩:=hargs;rw[show vs=[] from hv];cases hk:pD H k with
    |none=>rw[hk] at hr;cases hr
    | some b=>
      rw[hk] at hr;cases b with
      | row e0 t l m=>
        simp only[U9] at hr;cases hf:F t l with
        |none=>rw[hf] at hr;cases hr
        | some l'=>
          rw[hf] at hr;cases hr;have hnm:n=m:=hs _ aMO;subst hnm;obtain⟨hl,v0,xs,hv0,hown,hFx,hnone,hseal⟩:=hH.blk k _ hk;have h1:=ha.1.1;rw[hv0] at h1;obtain rfl:=aMy h1;refine(hF g w e0 t l l' v0 n xs hH.tab.1 hown hFx hl (hs _ (by simp)) hf).mono ?_;rintro en w' ⟨rfl,hl',xs',k1,k2,k3⟩;have hownk: ∀b,v0.ownBlock=some b→∀o,rT g H [k] b o:=fun b hb o=>⟨k,_,by simp,hk,v0,hv0,hb⟩;refine⟨_,_,rfl,qI.row (v:=v0) (xs:=xs') hH hl' k1 k2 hnone (fun u hu=>by rw[hv0] at hu;exact(aMy hu).symm) (.inr ⟨v0.ownBlock,k3,hownk⟩) (fun b o hS=> ?_) hseal (fun b hb=> .inr (hownk b hb)) ⟨⟨[],rfl,rfl⟩,trivial⟩⟩;have hne:v0.ownBlock≠some b:=fun e=>hseal b e o hS;exact aMR (a:=⟨b,o,none⟩) (k3.block b (hH.sl b o hS) (fun e=>hne e.symm))
      |_=>cases hr
  ·cases hr
section
variable {P:Program}{o:Oper}{a:Act}{g:Gh}{w:World}{H:qQ}{T:rP}{Γ:t6}(hT:vK P T) (hΓ:BE P Γ) (hH:rH g w H)
include hT hΓ hH
theorem a6P {f:FuncId}{args:List pB}{vals:List Value}(hargs:tY g w args vals) {base:Nat}{e:pI}(hr:GI H base args (Γ f)=some e) (hs: ∀p∈e.side,p) (hfr:xW g base e):
    (∀args w,(callFunc f args).run P w= .ok (.enter f args) w)∧Calls P f vals.toArray w (fun en w'=> ∃v g',en= .returned v∧qI g w H e g' w' v):=by
  cases hg:Γ f with
  |none=>rw[hg] at hr;cases hr
  | some sg=>
    rw[hg] at hr;obtain⟨hcon,hrow⟩:=hΓ f sg hg;refine⟨hcon.1,?_⟩;simp only[GI] at hr;cases hF:sg.row with
    | some F=>
      rw[hF] at hr;exact aE0 (hrow F hF) hH hargs hr hs
    | none=>
      rw[hF] at hr;simp only[PL] at hr;cases hn:LI sg.ps args with
      | some k=>
        rw[hn] at hr;exact aEZ hcon hH hargs hr hs hfr
      | none=>
        rw[hn] at hr;exact a6N hcon hH hargs hr hs hfr
theorem aE1 {fop:Operand}{args:Array Operand}{tys:Array TypeId}(ho:o.op= .call ⟨.value fop,args,tys⟩) {ρ:Operand→pB}(hf:q7 g w (ρ fop) (a.eval fop)) (hρ: ∀x∈args.toList,q7 g w (ρ x) (a.eval x)) {base:Nat}{e:pI}
    (hr:IV Γ H base (D1 T ρ args.toList tys.toList) (ρ fop)=some e) (hs: ∀p∈e.side,p) (hfr:xW g base e) (hlen:args.size=tys.size):pZ P o a g w H e:=by
  have hargs:=a6i (a:=a) (ρ:=ρ) hT hΓ hH (xs:=args.toList) (ts:=tys.toList) (by simpa using hlen) hρ;unfold IV at hr;split at hr
  · rename_i f caps k heq
    rw[heq] at hf
    obtain⟨vs,hcv,hfv⟩: ∃vs,wH g caps vs∧a.eval fop= .func (.func f) #[] vs.toArray:=by
      rcases hf.1 with⟨h1,_⟩ |⟨_,vs,h2,h3⟩
      ·cases h1
      · simp only[aNo,and_true] at h3
        exact⟨vs,h2,h3⟩
    obtain⟨hen,hc⟩:=a6P hT hΓ hH (aEs hT hΓ hH hargs (a6j hT hΓ hH hcv)) hr hs hfr;intro K Q hK;refine a6k ho hfv hen (hc.mono ?_);rintro en w' ⟨v,g',rfl,hE⟩;exact⟨v,rfl,hK _ w' v hE⟩
  · rename_i f k heq
    rw[heq] at hf
    have hfv:a.eval fop= .func (.func f) #[] ([]:List Value).toArray:=by
      rcases hf.1 with⟨h1,_⟩ |⟨_,h2⟩
      ·cases h1
      ·simpa[Rd,a5z] using h2
    obtain⟨hen,hc⟩:=a6P hT hΓ hH hargs hr hs hfr;intro K Q hK;refine a6k ho hfv hen ?_;rw[List.append_nil];refine hc.mono ?_;rintro en w' ⟨v,g',rfl,hE⟩;exact⟨v,rfl,hK _ w' v hE⟩
  ·cases hr
theorem a6Q: ∀{xs:List Operand}{ts:List TypeId},GJ xs ts=true→xs.length=ts.length
  |[],[],_=>rfl
  |_::xs,_::ts,h=>by simp only[GJ] at h;simp [a6Q h]
  |[],_::_,h=>by cases h
  |_::_,[],h=>by cases h
theorem W9 {op:Op}(ho:o.op=op) {ρ:Operand→pB}(hρ: ∀x∈rJ op,q7 g w (ρ x) (a.eval x)) {base:Nat}{e:pI}(hr:sR T Γ o.type ρ base H op=some e) (hs: ∀p∈e.side,p) (hf:xW g base e):pZ P o a g w H e:=by
  unfold sR at hr;split at hr
  · rename_i x
    exact a5Y hT hH (.inl ho) (hρ x (by simp [rJ])) hr hf
  · rename_i x
    exact a5Y hT hH (.inr ho) (hρ x (by simp [rJ])) hr hf
  ·exact aEd hT hH ho hr hf
  · rename_i t x
    exact aEc hT hH ho (VU hT hΓ hH (hρ x (by simp [rJ]))) hr hf
  · rename_i t ps
    exact aDV hT hH ho (ρ:=ρ) (fun q hq=>hρ q.2 (by
      simp only[rJ];generalize ps.toList=l at hq
      induction l with
      |nil=>cases hq
      |cons p l ih=>rcases aMK.1 hq with rfl|h<;>simp_all [rJ.parts])) hr
  · rename_i t n ps
    exact aEi hT hH ho (ρ:=ρ) (fun q hq=>hρ q.2 (by
      simp only[rJ];generalize ps.toList=l at hq
      induction l with
      |nil=>cases hq
      |cons p l ih=>rcases aMK.1 hq with rfl|h<;>simp_all [rJ.parts])) hr hf
  · rename_i t x
    exact aD5 hT hH ho (hρ x (by simp [rJ])) hr hs
  · rename_i t x y
    exact aEh hT hH ho (hρ x (by simp [rJ])) (VU hT hΓ hH (hρ y (by simp [rJ]))) hr hs hf
  · rename_i x
    exact aDP hT hH ho (hρ x (by simp [rJ])) hr
  · rename_i op t x y t'
    cases hb:ON op (ρ x) (ρ y) with
    | some r=>
      rw[hb] at hr;exact aDG hH ho (hρ x (by simp [rJ])) (hρ y (by simp [rJ])) (by rw[hb];exact hr) hs
    | none=>
      rw[hb] at hr;exact aES hT hH ho (hρ x (by simp [rJ])) (hρ y (by simp [rJ])) hr
  · rename_i op t x
    exact aDH hH ho (hρ x (by simp [rJ])) hr hs
  · rename_i t t' x
    cases hb:OP (qB T t) (qB T t') (ρ x) with
    | some r=>
      rw[hb] at hr;exact aDI hT hH ho (hρ x (by simp [rJ])) (by rw[hb];exact hr)
    | none=>
      rw[hb] at hr;exact aEW hT hH ho (hρ x (by simp [rJ])) hr
  · rename_i f first caps
    have hfi:first= #[]:=by
      cases hl:first.toList with
      |nil=>apply aNB.1;simpa using hl
      |cons x l=>rw[hl] at hr;cases hr
    subst hfi;exact aDZ hT hH ho (ρ:=ρ) (fun x hx=>hρ x (by simpa[rJ] using hx)) hr
  · rename_i t x lo hi
    refine aD6 hT hH ho (ρ:=ρ) (hρ x (by simp [rJ])) (fun y hy=>hρ y ?_) (fun y hy=>hρ y ?_) hr hs
    · cases lo with
      |none=>simp at hy
      |some l=>simp at hy;subst hy;simp [rJ,rJ.opt,pN]
    · cases hi with
      |none=>simp at hy
      |some l=>simp at hy;subst hy;cases lo<;>simp [rJ,rJ.opt,pN]
  · rename_i t x f
    exact aDN hT hH ho (hρ x (by simp [rJ])) hr
  · rename_i t x f
    exact aDM hT hH ho (hρ x (by simp [rJ])) hr
  · rename_i t x ix
    exact aDR hT hH ho (hρ x (by simp [rJ])) (hρ ix (by simp [rJ])) hr hs
  · rename_i t x ix
    exact aDQ hT hH ho (hρ x (by simp [rJ])) (hρ ix (by simp [rJ])) hr hs
  · rename_i x i
    exact aDO hT hH ho (hρ x (by simp [rJ])) hr hs
  · rename_i t r
    exact aEl hT hH ho hr hf
  · rename_i t x
    exact aEq hT hH ho (hρ x (by simp [rJ])) hr hf
  · rename_i x b
    exact aEr hT hH ho (hρ x (by simp [rJ])) hr
  · rename_i t x i ok
    exact aEn hT hH ho (hρ x (by simp [rJ])) (hρ i (by simp [rJ])) hr
  · rename_i t m k x
    exact a6f hT hH (.inl ho) (hρ m (by simp [rJ])) (hρ k (by simp [rJ])) (a6e (hρ x (by simp [rJ]))) hr
  · rename_i t m k x
    exact a6f hT hH (.inr ho) (hρ m (by simp [rJ])) (hρ k (by simp [rJ])) (a6e (hρ x (by simp [rJ]))) hr
  · rename_i c
    obtain⟨cal,args,tys⟩:=c;simp only at hr;unfold GK at hr;split at hr
    ·exact aDY hT hH ho (ρ:=ρ) (fun x hx=>hρ x (by simpa[rJ] using hx)) hr
    ·exact aEX hT hH ho (ρ:=ρ) (fun x hx=>hρ x (by simpa[rJ] using hx)) hr hs
    ·exact a5P (mx:=true) hT hH ho (ρ:=ρ) (fun x hx=>hρ x (by simpa[rJ] using hx)) hr
    ·exact a5P (mx:=false) hT hH ho (ρ:=ρ) (fun x hx=>hρ x (by simpa[rJ] using hx)) hr
    · rename_i f
      cases hsl:GJ args.toList tys.toList with
      |false=>rw[hsl] at hr;cases hr
      | true=>
        rw[hsl] at hr;simp only[UU] at hr;exact aE1 hT hΓ hH ho (hρ f (by simp [rJ])) (fun x hx=>hρ x (by simp [rJ];right;simpa using hx)) hr hs hf (by simpa using a6Q hT hΓ hH hsl)
    ·cases hr
  ·cases hr
end
def z7 (g:Gh) (w:World) (env:List (Nat×pB)) (tmps:Array Value):Prop:= ∀t,q7 g w (lk env t) (tmps.getD t undef)
def xI (B:Nat) (w:World) (ds:List Deferred):Prop:=ds.Nodup/\∀d∈ds,∃D,d={target:= .collected D,args:= #[]}/\B<=D/\NG<=D/\w.heap[D]? =some (.deferred (some []))
theorem a6R (B:Nat) (w:World):xI B w []:=⟨List.nodup_nil,fun d hd=>by cases hd⟩
theorem xI.same {B:Nat}{w w':World}{ds:List Deferred}(h:xI B w ds) (hb: ∀D:Nat,w.heap[D]? =some (Obj.deferred (some []))->w'.heap[D]? =some (Obj.deferred (some []))):xI B w' ds:=
 ⟨h.1,fun d hd=>by obtain⟨D,h1,h2,h0,h3⟩:=h.2 d hd;exact⟨D,h1,h2,h0,hb D h3⟩⟩
def D9:Obj->Bool
 | .deferred _=>true
 | .loop _=>true
 |_=>false
theorem WA {w:World}{b:Nat}{ob:Obj}(hd:w.heap[b]? =some ob) (hm:D9 ob=true) (o:Nat):w.cell? ⟨b,o,none⟩=none:=by
 unfold World.cell?;simp only[hd];cases ob<;>first|rfl|cases hm
theorem QS {g:Gh}{w:World}{i:Nat}{blk:p8}(h:xV g w i blk) {b o:Nat}(ho:qR g i blk b o) {ob:Obj}(hd:w.heap[b]? =some ob) (hm:D9 ob=true):False:=by
 have hrow: ∀{e:TypeId}{c n:Nat}{v:Value}{xs:List Value},w.ownsRow 0 e c v n xs->v.ownBlock=some b->False:=by
  intro e c n v xs hr hb;rcases hr.2 with⟨rfl,_⟩ |⟨g',cap,cur,rfl,_,h3,_⟩
  ·cases hb
  ·simp only[Value.ownBlock,aMt] at hb;subst hb;rw[hd] at h3;cases h3;cases hm
 cases blk with
 |cells t x toks=>
  obtain⟨p,cs,hp,_,_,ht,_⟩:=h;obtain⟨q,hq,rfl,h1,h2⟩:=ho;rw[hp] at hq;obtain rfl:=aMy hq;have:=(ht.1 (o-p.2) (by omega)).1;rw[WA hd hm] at this;cases this
 |grow e c n=>
  obtain⟨v,xs,hv,hr,_⟩:=h;obtain⟨v',hv',hb⟩:=ho;rw[hv] at hv';obtain rfl:=aMy hv';exact hrow hr hb
 |row e t l n=>
  obtain⟨_,v,xs,hv,hr,_⟩:=h;obtain⟨v',hv',hb⟩:=ho;rw[hv] at hv';obtain rfl:=aMy hv';exact hrow hr hb
 |map k v l=>
  obtain⟨p,es,cl,hp,h0,h2,_⟩:=h;obtain⟨q,hq,h1⟩:=ho;rw[hp] at hq;obtain rfl:=aMy hq;rw[show b=p.1 from h1] at hd;rw[h2] at hd;cases hd;cases hm
 |iter s n=>
  obtain⟨p,hp,h0,h2,_⟩:=h;obtain⟨q,hq,h1⟩:=ho;rw[hp] at hq;obtain rfl:=aMy hq;rw[show b=p.1 from h1] at hd;rw[h2] at hd;cases hd;cases hm
 |dead=>exact ho.elim
theorem xI.eff {B:Nat}{g g':Gh}{w w':World}{H:qQ}{e:pI}{v:Value}{ds:List Deferred}(h:xI B w ds) (hH:rH g w H) (k:qI g w H e g' w' v):xI B w' ds:=
 h.same fun D hD=>by
  rw[k.fr.blk D (aMQ.1 hD).1 (fun o ⟨i,blk,_,h1,h2⟩=>QS (hH.blk i blk h1) h2 hD rfl)];exact hD
structure tJ (B:Nat) (g:Gh) (w:World) (s:St) (a:Act):Prop where
 env:z7 g w s.env a.tmps
 heap:rH g w s.H
 size:a.tmps.size=s.N
 nb: ∀i,s.nb<=i->g.J i=none/\∀n,g.cur i n=none
 def_:xI B w a.defers
 np:s.np<=s.nb
theorem aE2 (g:Gh) (w:World) (v:Value):xU g w (TX v) v:=by
 unfold TX;split
 ·exact uU _ _ _
 ·exact v6 _ _ _ _
 ·rename_i s;have:=CA g w s.data.toList;rw[aN1] at this;exact this
 ·exact rfl
 ·exact .inr ⟨rfl,rfl⟩
 ·exact .inr ⟨rfl,rfl⟩
 ·exact .inr ⟨rfl,rfl⟩
 ·exact trivial
theorem y3 {g:Gh}{w:World}{env:List (Nat×pB)}{a:Act}(h:z7 g w env a.tmps) (x:Operand):q7 g w (sK env x) (a.eval x):=by
 cases x with
 |tmp t=>exact h t
 |const v=>exact⟨aE2 g w v,trivial⟩
 |func f=>exact⟨.inr ⟨rfl,[],rfl,rfl⟩,trivial⟩
 |global i=>exact⟨trivial,trivial⟩
theorem JF {g:Gh}{w:World}{G:Bool}(hG:G=true): ∀{ss:List pB}{s:pB}{v:Value},s∈ss->(∀p∈wV G ss,p)->q7 g w s v->q7 g w (vX s) v
 |x::ss,s,v,hm,hn,hs=>by
  have hcase: ∀{s:pB},(∀p∈wV G [s],p)->q7 g w s v->q7 g w (vX s) v:=by
   intro s hn hs;obtain⟨d,k⟩:=s;cases d with
   |cond p d=>
    refine⟨hs.1.1 (hn (G=true->p=true) (by simp [wV]) hG),?_⟩;simp only[vX]
   |_=>exact hs
  have hsplit: ∀p,p∈wV G [x]->p∈wV G (x::ss):=by
   intro p hp;unfold wV at hp⊢;split at hp
   ·cases hp
   ·rename_i heq;simp only[aNo] at heq;obtain⟨rfl,rfl⟩:=heq;rcases aMK.1 hp with h|h
    ·exact h▸aMO
    ·cases h
   ·rename_i h0 heq;simp only[aNo] at heq;obtain⟨_,rfl⟩:=heq;cases hp
  have hsplit2: ∀p,p∈wV G ss->p∈wV G (x::ss):=by
   intro p hp;generalize hL:wV G ss=L at hp;unfold wV;split
   ·rename_i h;cases h
   ·rename_i heq;simp only[aNo] at heq;obtain⟨_,rfl⟩:=heq;rw[hL];exact aMH _ hp
   ·rename_i heq;simp only[aNo] at heq;obtain⟨_,rfl⟩:=heq;rw[hL];exact hp
  rcases aMK.1 hm with rfl|hm
  ·exact hcase (fun p hp=>hn p (hsplit p hp)) hs
  ·exact JF hG hm (fun p hp=>hn p (hsplit2 p hp)) hs
theorem QT {env:List (Nat×pB)}: ∀{xs:List Operand}{x:Operand},x∈xs->sK env x∈zZ env xs
 |y::xs,x,h=>by
  simp only[zZ];rcases aMK.1 h with rfl|h
  ·exact aMO
  ·exact aMH _ (QT h)
theorem WB: ∀(ops:List Oper) (j:Nat),B6 ops j=(ops[j]?).bind (·.dst)
 |[],j=>by simp [B6]
 |o::_,0=>rfl
 |_::r,j+1=>by simpa[B6] using WB r j
section
variable {P:Program}{g:Gh}{w:World}{T:rP}{Γ:t6}(hT:vK P T) (hΓ:BE P Γ)
include hT hΓ
theorem aE3 {ops:List Oper}{o:Oper}{a:Act}{env:List (Nat×pB)}(henv:z7 g w env a.tmps) {j:Nat}{b:Bool}(hg:o.guard=some (j,b)) {G:Bool}(h:D3 env b (B6 ops j)=some G):Region.wanted o (yielded ops.toArray a.tmps)=G:=by
 rw[WB] at h;unfold Region.wanted;rw[hg];simp only;cases hd:(ops[j]?).bind (·.dst) with
 |none=>rw[hd] at h;cases h
 |some t=>
  rw[hd] at h;simp only[D3] at h;have hy:yielded ops.toArray a.tmps j=match a.tmps[t]? with|some (.bool b)=>some b|_=>none:=by
   unfold yielded;have:(ops.toArray[j]?).bind (·.dst)=some t:=by simpa using hd
   rw[this];rfl
  have hv:=henv t;generalize hl:lk env t=s at h hv;unfold a5p at h;have hb: ∀c,a.tmps.getD t undef= .bool c->a.tmps[t]? =some (.bool c):=by
   intro c hc;rw[aM2] at hc;cases hq:a.tmps[t]? with
   |none=>rw[hq] at hc;simp [undef] at hc
   |some v=>rw[hq] at hc;simp at hc;rw[hc]
  split at h
  ·rename_i c k;simp only[aMt] at h;have:=hb _ (vL hv.1);rw[hy,this,<-h];cases c<;>cases b<;>rfl
  ·rename_i p c k;simp only[aMt] at h;subst h;cases p with
   |true=>
    have:=hb _ (vL (hv.1.1 rfl));rw[hy,this];cases c<;>cases b<;>rfl
   |false=>
    have hu:=hv.1.2 rfl;have: ∀c,a.tmps[t]? ≠some (.bool c):=by
     intro c hc;rw[aM2,hc] at hu;simp [undef] at hu
    rw[hy];cases hq:a.tmps[t]? with
    |none=>cases b<;>rfl
    |some v=>cases v<;>first|(exact absurd hq (this _)) |(cases b<;>rfl)
  ·cases h
theorem MF {G:Bool}{p:Prop}: ∀{l:List Prop},p∈l->(G=true->p)∈LQ G l
 |q::l,h=>by
  simp only[LQ];rcases aMK.1 h with rfl|h
  ·exact aMO
  ·exact aMH _ (MF h)
theorem WC {o:Oper}{a:Act}{H:qQ}(hH:rH g w H) {c x y:Operand}(hop:o.op= .pick c x y) {sc sx sy:pB}(hc:q7 g w sc (a.eval c)) (hx:q7 g w sx (a.eval x)) (hy:q7 g w sy (a.eval y)) {e:pI}(hr:LP sc sx sy=some e) (hs: ∀p∈e.side,p):pZ P o a g w H e:=by
 intro K Q hK;unfold LP at hr;split at hr
 ·rename_i z k;have hz:=vL hc.1;have run:(execOp a.eval o).run P w= .ok (.value (if z then a.eval x else a.eval y)) w:=by
   unfold execOp;rw[hop];simp [hz,asBool]
  have vF: ∀{v:Bool}{side:List Prop},(if z then a.eval x else a.eval y)= .bool v->e=⟨side,(.val .bool v,none),[],[]⟩->o.wp P a w K Q:=by
   intro v side hv he;subst he;refine pZ.value (v:= .bool v) (g':=g) (w':=w) (H:=H) (by rw[run,hv]) (.pure hH (s:=(.val .bool v,none)) ⟨(uU g w v:xU g w (.val .bool v) (.bool v)),trivial⟩) K Q hK
  unfold a5q at hr;split at hr
  ·rename_i m1 _ m2 _;simp only[aMt] at hr;refine vF (v:=cond z m1 m2) ?_ hr.symm;cases z
   ·exact vL hy.1
   ·exact vL hx.1
  ·rename_i p m1 _ m2 _;simp only[aMt] at hr;refine vF (v:=cond z m1 m2) ?_ hr.symm;cases z
   ·exact vL hy.1
   ·exact vL (hx.1.1 (hs (true=true->p=true) (by rw[<-hr];simp) rfl))
  ·rename_i m1 _ p m2 _;simp only[aMt] at hr;refine vF (v:=cond z m1 m2) ?_ hr.symm;cases z
   ·exact vL (hy.1.1 (hs (false=false->p=true) (by rw[<-hr];simp) rfl))
   ·exact vL hx.1
  ·rename_i q m1 _ p m2 _;simp only[aMt] at hr;refine vF (v:=cond z m1 m2) ?_ hr.symm;cases z
   ·exact vL (hy.1.1 (hs (false=false->p=true) (by rw[<-hr];simp) rfl))
   ·exact vL (hx.1.1 (hs (true=true->q=true) (by rw[<-hr];simp) rfl))
  ·cases hr
 ·cases hr
theorem a6S {ops:List Oper}{o:Oper}{a:Act}{s:St}{e:pI}(henv:z7 g w s.env a.tmps) (hH:rH g w s.H) (hr:AI T Γ ops o s=some e) (hs: ∀p∈e.side,p) (hf:xW g s.nb e) {K:Act->World->Prop}{Q:Exit->Act->World->Prop}
  (hK: ∀g' w' v,qI g w s.H e g' w' v->K (a.put o.dst v) w'):
  if Region.wanted o (yielded ops.toArray a.tmps) then o.wp P a w K Q else K (a.put o.dst undef) w:=by
 unfold AI at hr;cases hgd:o.guard with
 |none=>
  rw[hgd] at hr;simp only at hr;have hw:Region.wanted o (yielded ops.toArray a.tmps)=true:=by unfold Region.wanted;rw[hgd]
  rw[if_pos hw];cases hop:o.op with
  |pick c x y=>
   rw[hop] at hr;simp only[J0] at hr;exact WC hT hΓ hH hop (y3 henv c) (y3 henv x) (y3 henv y) hr hs K Q hK
  |_=>
   rw[hop] at hr;simp only[J0] at hr;rw[<-hop] at hr;generalize hpl:sR T Γ o.type (fun x=>vX (sK s.env x)) s.nb s.H o.op=op at hr;cases op with
   |none=>cases hr
   |some e0=>
    simp only[IY,aMt] at hr;subst hr;refine W9 hT hΓ hH rfl (ρ:=fun x=>vX (sK s.env x)) (fun x hx=> ?_) hpl (fun p hp=>hs p (v8.2 (.inr hp))) hf K Q (fun g' w' v h=>hK g' w' v ⟨h.le,h.slot,h.heap,h.fr,h.perm,h.gho,h.ty⟩);exact JF rfl (QT hx) (fun p hp=>hs p (v8.2 (.inl hp))) (y3 henv x)
 |some jb=>
  obtain⟨j,b⟩:=jb;rw[hgd] at hr;simp only at hr;generalize hG:D3 s.env b (B6 ops j)=oG at hr;cases oG with
  |none=>cases hr
  |some G=>
   have hw:=aE3 hT hΓ henv hgd hG;rw[hw];by_cases hpk: ∃c x y,o.op= .pick c x y
   ·obtain⟨c,x,y,hop⟩:=hpk;rw[hop] at hr;simp only[IZ] at hr;generalize hpl:LP (vX (sK s.env c)) (sK s.env x) (sK s.env y)=op at hr;cases op with
    |none=>cases hr
    |some e0=>
     unfold EY at hr;split at hr
     ·rename_i side d k rds heq;simp only[aMt] at hr heq;subst hr;subst heq;by_cases hGt:G=true
      ·rw[if_pos hGt];refine WC hT hΓ hH hop (JF hGt (ss:=[sK s.env c]) (by simp) (fun p hp=>hs p (v8.2 (.inl hp))) (y3 henv c)) (y3 henv x) (y3 henv y) hpl (fun p hp=>hs (G=true->p) (v8.2 (.inr (MF hT hΓ hp))) hGt) K Q (fun g' w' v h=>hK g' w' v ⟨h.le,⟨⟨fun _=>h.slot.1,fun hc=>by rw[hGt] at hc;cases hc⟩,trivial⟩,h.heap,h.fr,h.perm,h.gho,h.ty⟩)
      ·rw[if_neg hGt];exact hK g w undef (.pure hH ⟨⟨fun hc=>absurd hc hGt,fun _=>rfl⟩,trivial⟩)
     ·rename_i side sl u us rds heq;simp only[aMt] at hr heq;subst hr;subst heq;have hGt:G=true:=hs _ aMO;rw[if_pos hGt];exact WC hT hΓ hH hop (JF hGt (ss:=[sK s.env c]) (by simp) (fun p hp=>hs p (aMH _ (v8.2 (.inl hp)))) (y3 henv c)) (y3 henv x) (y3 henv y) hpl (fun p hp=>hs (G=true->p) (aMH _ (v8.2 (.inr (MF hT hΓ hp)))) hGt) K Q (fun g' w' v h=>hK g' w' v ⟨h.le,h.slot,h.heap,h.fr,h.perm,h.gho,h.ty⟩)
     ·cases hr
   ·have e1:IZ T Γ o s (some G) o.op=EY G (wV G (zZ s.env (rJ o.op))) (sR T Γ o.type (fun x=>vX (sK s.env x)) s.nb s.H o.op):=by
     cases ho:o.op<;>first|rfl|(exact absurd ⟨_,_,_,ho⟩ hpk)
    rw[e1] at hr;generalize hpl:sR T Γ o.type (fun x=>vX (sK s.env x)) s.nb s.H o.op=op at hr;cases op with
    |none=>cases hr
    |some e0=>
     unfold EY at hr;split at hr
     ·rename_i side d k rds heq;simp only[aMt] at hr heq;subst hr;subst heq;by_cases hGt:G=true
      ·rw[if_pos hGt];refine W9 hT hΓ hH rfl (ρ:=fun x=>vX (sK s.env x)) (fun x hx=> ?_) hpl (fun p hp=>hs (G=true->p) (v8.2 (.inr (MF hT hΓ hp))) hGt) (fun i hi=>by cases hi) K Q (fun g' w' v h=>hK g' w' v ⟨h.le,⟨⟨fun _=>h.slot.1,fun hc=>by rw[hGt] at hc;cases hc⟩,trivial⟩,h.heap,h.fr,h.perm,h.gho,h.ty⟩);exact JF hGt (QT hx) (fun p hp=>hs p (v8.2 (.inl hp))) (y3 henv x)
      ·rw[if_neg hGt];exact hK g w undef (.pure hH ⟨⟨fun hc=>absurd hc hGt,fun _=>rfl⟩,trivial⟩)
     ·rename_i side sl u us rds heq;simp only[aMt] at hr heq;subst hr;subst heq;have hGt:G=true:=hs _ aMO;rw[if_pos hGt];refine W9 hT hΓ hH rfl (ρ:=fun x=>vX (sK s.env x)) (fun x hx=> ?_) hpl (fun p hp=>hs (G=true->p) (aMH _ (v8.2 (.inr (MF hT hΓ hp)))) hGt) hf K Q (fun g' w' v h=>hK g' w' v ⟨h.le,h.slot,h.heap,h.fr,h.perm,h.gho,h.ty⟩);exact JF hGt (QT hx) (fun p hp=>hs p (aMH _ (v8.2 (.inl hp)))) (y3 henv x)
     ·cases hr
end
structure rY (A:Nat->Nat->Prop) (L:List p8) (g0:Gh) (w0:World) (g:Gh) (w:World) (H:qQ):Prop where
 shut: ∀b o,g0.S b o->g.S b o/\w.cell? ⟨b,o,none⟩=w0.cell? ⟨b,o,none⟩
 fr:Fr A w0 w g0.S g.S
 perm: ∀i blk b o,pD H i=some blk->qR g i blk b o->w0.heap.size<=b\/A b o
 J: ∀i p,i<L.length->g0.J i=some p->g.J i=some p
 live: ∀i,i<L.length->(∃p,g.J i=some p)\/(∃n v,g.cur i n=some v)
 ty: ∀i u y us,i<L.length->pD H i=some (.cells u y us)->∃x ts,L[i]? =some (.cells u x ts)
 cur: ∀i n v,i<L.length->g0.cur i n=some v->g.cur i n=some v
theorem rY.eff {A:Nat->Nat->Prop}{L:List p8}{g0 g g':Gh}{w0 w w':World}{H:qQ}{e:pI}{v:Value}(h:rY A L g0 w0 g w H) (k:qI g w H e g' w' v):rY A L g0 w0 g' w' (pN e.upd H):=by
 have hown: ∀b o,rT g H (pE e.upd) b o->w0.heap.size<=b\/A b o:=fun b o ⟨i,blk,_,h2,h3⟩=>h.perm i blk b o h2 h3;refine⟨fun b o hs=> ?_,h.fr.trans k.fr hown,fun i blk b o hg ho=> ?_,fun i p hi hp=>k.le.J _ _ (h.J i p hi hp),fun i hi=> ?_,fun i u y us hi hg=> ?_,fun i n u hi hu=>k.le.cur _ _ _ (h.cur i n u hi hu)⟩
 ·obtain⟨h1,h2⟩:=h.shut b o hs;exact⟨k.le.S b o h1,(k.le.cell b o h1).trans h2⟩
 ·by_cases hi:i∈pE e.upd
  ·rcases k.perm i blk b o hi hg ho with h1|h1
   ·exact .inl (aNq h.fr.size h1)
   ·exact hown b o h1
  ·exact h.perm i blk b o ((A1 hi).symm.trans hg) ((xG (k.gho i hi).1 (k.gho i hi).2).1 ho)
 ·rcases h.live i hi with⟨p,hp⟩ |⟨n,u,hu⟩
  ·exact .inl ⟨p,k.le.J _ _ hp⟩
  ·exact .inr ⟨n,u,k.le.cur _ _ _ hu⟩
 ·rcases k.ty i u y us hg with⟨x,ts,h1⟩ |⟨h1,h2⟩
  ·exact h.ty i u x ts hi h1
  ·rcases h.live i hi with⟨p,hp⟩ |⟨n,u,hu⟩
   ·rw[h1] at hp;cases hp
   ·rw[h2] at hu;cases hu
def xJ:List (Nat×Nat)->Nat->Option Nat
 |[],_=>none
 |(n,o)::r,k=>if n=k then some o else xJ r k
def sV (g:Gh) (np:Nat) (m:List (Nat×Nat)):Gh:=
 ⟨g.S,fun i=>if i<np then g.J i else(xJ m i).bind g.J,fun i n=>if i<np then g.cur i n else(xJ m i).bind fun o=>g.cur o n⟩
theorem QU {n o:Nat}: ∀{m:List (Nat×Nat)},J2 n o m=false->∀n' o',(n',o')∈m->n'≠n/\o'≠o
 |[],_,_,_,h=>by cases h
 |(a,b)::m,h,n',o',hm=>by
  simp only[J2,aNC,aM7] at h;rcases aMK.1 hm with h1|h1
  ·cases h1;exact h.1
  ·exact QU h.2 n' o' h1
theorem WD {np:Nat}: ∀{m:List (Nat×Nat)},vY np m=true->∀{n o:Nat},(n,o)∈m->xJ m n=some o/\(n<np->o=n)
 |[],_,_,_,h=>by cases h
 |(a,b)::m,hk,n,o,h=>by
  simp only[vY,aMz,aMV,aNH,aMw] at hk;obtain⟨⟨h1,h2⟩,h3⟩:=hk;simp only[xJ];rcases aMK.1 h with h4|h4
  ·cases h4;rw[if_pos rfl];exact⟨rfl,fun h5=>by rcases h1 with h1|h1<;>omega⟩
  ·have h5:=QU h2 n o h4;rw[if_neg (Ne.symm h5.1)];exact WD h3 h4
theorem AM: ∀{m:List (Nat×Nat)}{k j:Nat},uZ m k=some j->(j,k)∈m
 |[],_,_,h=>by cases h
 |(a,b)::m,k,j,h=>by
  simp only[uZ] at h;split at h
  ·rename_i e;subst e;simp only[aMt] at h;subst h;exact aMO
  ·exact aMH _ (AM h)
theorem yG {g:Gh}{np:Nat}{m:List (Nat×Nat)}(hk:vY np m=true) {n o:Nat}(h:(n,o)∈m):(sV g np m).J n=g.J o/\(sV g np m).cur n=g.cur o:=by
 obtain⟨h1,h2⟩:=WD hk h;refine⟨?_,?_⟩
 ·show (if n<np then g.J n else(xJ m n).bind g.J)=_;by_cases hn:n<np
  ·rw[if_pos hn,h2 hn]
  ·rw[if_neg hn,h1];rfl
 ·funext q;show (if n<np then g.cur n q else(xJ m n).bind fun o=>g.cur o q)=_;by_cases hn:n<np
  ·rw[if_pos hn,h2 hn]
  ·rw[if_neg hn,h1];rfl
theorem WE {g:Gh}{np:Nat}{m:List (Nat×Nat)}(hk:vY np m=true): ∀(l l':List (Nat×Nat)) (vs:List Value),wH g l vs->A0 m l=some l'->wH (sV g np m) l' vs
 |[],l',vs,h,hr=>by simp only[A0,aMt] at hr;subst hr;exact h
 |(i,o)::l,l',vs,⟨p,vs',h1,h2,h3⟩,hr=>by
  simp only[A0] at hr;cases hi:uZ m i with
  |none=>rw[hi] at hr;cases hr2:A0 m l<;>rw[hr2] at hr<;>cases hr
  |some j=>
   rw[hi] at hr;cases hr2:A0 m l with
   |none=>rw[hr2] at hr;cases hr
   |some l2=>
    rw[hr2] at hr;simp only[A0.renCons,aMt] at hr;subst hr;exact⟨p,vs',by rw[(yG hk (AM hi)).1];exact h1,h2,WE hk l l2 vs' h3 hr2⟩
theorem aE4 {m:List (Nat×Nat)}{u t:Ty}{x y:t.den}{o:Nat}{l:List u.den}(h:xF m t x=some y) (hg:pS (.list u) t x o=some l):pS (.list u) t y o=some l:=
 VX (xF m) (fun _ _ _=>rfl) (fun _ _=>rfl) h hg
theorem MG {g:Gh}{w:World}{np:Nat}{m:List (Nat×Nat)}(hk:vY np m=true): ∀{t:Ty}{x y:t.den}{cs:List Value},Rd g w t x cs->xF m t x=some y->Rd (sV g np m) w t y cs
 | .bool,_,_,_,r,h=>by cases h;exact r
 | .int _,_,_,_,r,h=>by cases h;exact r
 | .str,_,_,_,r,h=>by cases h;exact r
 | .unit,_,_,_,r,h=>by cases h;exact r
 | .list t,x,y,_,r,h=>by
  simp only[xF] at h;split at h
  ·rename_i hp;cases h;exact uE (g:=g) (g':=sV g np m) rfl (t:= .list t) (by simpa[Ty.pure] using hp) r
  ·cases h
 | .ref,none,y,_,r,h=>by cases h;exact r
 | .ref,some (i,o),y,_,⟨p,h1,h2⟩,h=>by
  simp only[xF,PY] at h;cases hi:uZ m i with
  |none=>rw[hi] at h;cases h
  |some j=>
   rw[hi] at h;cases h;exact⟨p,by rw[(yG hk (AM hi)).1];exact h1,h2⟩
 | .clo,none,y,_,r,h=>by cases h;exact r
 | .clo,some (f,l),y,_,⟨vs,h1,h2⟩,h=>by
  simp only[xF,a5u] at h;cases hi:A0 m l with
  |none=>rw[hi] at h;cases h
  |some l'=>
   rw[hi] at h;cases h;exact⟨vs,WE hk l l' vs h1 hi,h2⟩
 | .fn,_,_,_,r,h=>by cases h;exact r
 | .rl _ _,none,y,_,r,h=>by cases h;exact r
 | .rl _ _,some (k,n),y,_,⟨v,h1,h2⟩,h=>by
  simp only[xF,a5w] at h;cases hi:uZ m k with
  |none=>rw[hi] at h;cases h
  |some j=>
   rw[hi] at h;cases h;exact⟨v,by rw[(yG hk (AM hi)).2];exact h1,h2⟩
 | .mref,none,y,_,r,h=>by cases h;exact r
 | .mref,some (i,o),y,_,⟨p,h1,h2⟩,h=>by
  simp only[xF,PY] at h;cases hi:uZ m i with
  |none=>rw[hi] at h;cases h
  |some j=>
   rw[hi] at h;cases h;exact⟨p,by rw[(yG hk (AM hi)).1];exact h1,h2⟩
 | .mp,none,y,_,r,h=>by cases h;exact r
 | .mp,some i,y,_,⟨p,h1,h2⟩,h=>by
  simp only[xF,a5v] at h;cases hi:uZ m i with
  |none=>rw[hi] at h;cases h
  |some j=>
   rw[hi] at h;cases h;exact⟨p,by rw[(yG hk (AM hi)).1];exact h1,h2⟩
 | .pair a b,x,y,_,⟨c1,c2,e,r1,r2⟩,h=>by
  simp only[xF] at h;obtain⟨h1,h2⟩:=VW h;refine⟨c1,c2,e,?_,?_⟩
  ·split at h1
   ·rename_i hp;exact(aMy h1)▸uE (g:=g) (g':=sV g np m) rfl hp r1
   ·exact MG hk r1 h1
  ·split at h2
   ·rename_i hp;exact(aMy h2)▸uE (g:=g) (g':=sV g np m) rfl hp r2
   ·exact MG hk r2 h2
theorem QV {g:Gh}{w:World}{np:Nat}{m:List (Nat×Nat)}(hk:vY np m=true) {s:pB}{v:Value}(h:q7 g w s v):q7 (sV g np m) w (xT m s) v:=by
 have caps: ∀(l l':List (Nat×Nat)) (vs:List Value),wH g l vs->A0 m l=some l'->wH (sV g np m) l' vs:=WE hk;unfold xT;split
 ·rename_i k n k';cases hi:uZ m k with
  |none=>exact⟨trivial,trivial⟩
  |some j=>
   obtain⟨h1,h2⟩:=h.1;exact⟨⟨by rw[(yG hk (AM hi)).2];exact h1,h2⟩,trivial⟩
 ·obtain h1:=h.1;refine⟨?_,trivial⟩;rcases h1 with⟨h1,_⟩ |⟨_,h2⟩
  ·cases h1
  ·exact .inr ⟨rfl,h2⟩
 ·rename_i p k;obtain⟨i,o⟩:=p;simp only[a5s];cases hi:uZ m i with
  |none=>exact⟨trivial,trivial⟩
  |some j=>
   simp only[Option.map_some,xT.refSlot];obtain⟨q,hq,hv⟩:=yF h.1;exact⟨.inr ⟨rfl,q,by rw[(yG hk (AM hi)).1];exact hq,by rw[hv]⟩,trivial⟩
 ·rename_i f l k;cases hl:A0 m l with
  |none=>exact⟨trivial,trivial⟩
  |some l'=>
   simp only[xT.cloSlot];rcases h.1 with⟨h1,_⟩ |⟨_,vs,h2,h3⟩
   ·cases h1
   ·exact⟨.inr ⟨rfl,vs,caps l l' vs h2 hl,h3⟩,trivial⟩
 ·rename_i i k;cases hi:uZ m i with
  |none=>exact⟨trivial,trivial⟩
  |some j=>
   simp only[xT.mpSlot];rcases h.1 with⟨h1,_⟩ |⟨_,p,h2,h3⟩
   ·cases h1
   ·exact⟨.inr ⟨rfl,p,by rw[(yG hk (AM hi)).1];exact h2,h3⟩,trivial⟩
 ·rename_i t x k _ _ _ _;split
  ·rename_i hp;have hv:s5 (sV g np m) w t x v:=h.1.imp (fun⟨a,cs,e,q⟩=>⟨a,cs,e,uE (g:=g) (g':=sV g np m) rfl hp q⟩) (fun⟨a,q⟩=>⟨a,uE (g:=g) (g':=sV g np m) rfl hp q⟩);refine⟨hv,?_⟩;replace h:=a6h h;generalize htk:CW t k=k' at h⊢;cases k' with
   |none=>trivial
   |some k=>
    simp only[a5t];cases hj:uZ m k with
    |none=>trivial
    |some j=>
     have h2:=h.2;cases t with
     |list u=>
      show (sV g np m).cur j _=_;rw[(yG hk (AM hj)).2];exact h2
     |pair a b=>exact h2
     |_=>exact h2.elim
  ·cases hy:xF m t x with
   |none=>exact⟨trivial,trivial⟩
   |some y=>
    simp only[xT.valSlot];exact⟨h.1.imp (fun⟨a,cs,e,q⟩=>⟨a,cs,e,MG hk q hy⟩) (fun⟨a,q⟩=>⟨a,MG hk q hy⟩),trivial⟩
 ·rename_i t x k;split
  ·rename_i hp;obtain⟨b,o,cs,h1,h2,h3,h4⟩:=h.1;exact⟨⟨b,o,cs,h1,h2,h3,uE (g:=g) (g':=sV g np m) rfl hp h4⟩,trivial⟩
  ·exact⟨trivial,trivial⟩
 ·exact⟨trivial,trivial⟩
theorem a6T {q j:Nat}{x:Nat×Nat}: ∀{r:List (Nat×Nat)},x∈PZ q j r->x=(q,j)\/x∈r
 |[],h=> .inl (aME.1 h)
 |(a,b)::r,h=>by
  simp only[PZ] at h;split at h
  ·exact aMK.1 h
  ·rcases aMK.1 h with h|h
   ·exact .inr (by rw[h];exact aMO)
   ·exact(a6T h).imp id (aMH _)
theorem QW {m:List (Nat×Nat)}: ∀{ts:List (Nat×Nat)}{q j:Nat},(q,j)∈GN m ts->∃k,(q,k)∈ts/\uZ m k=some j
 |[],_,_,h=>by cases h
 |(a,b)::ts,q,j,h=>by
  simp only[GN] at h;cases hb:uZ m b with
  |none=>
   rw[hb] at h;obtain⟨k,h1,h2⟩:=QW h;exact⟨k,aMH _ h1,h2⟩
  |some j'=>
   rw[hb] at h;simp only[GN.renTok1] at h;rcases a6T h with h1|h1
   ·cases h1;exact⟨b,aMO,hb⟩
   ·obtain⟨k,h1,h2⟩:=QW h1;exact⟨k,aMH _ h1,h2⟩
theorem GU {g:Gh}{w:World}{np:Nat}{m:List (Nat×Nat)}(hk:vY np m=true) {n o:Nat}(hm:(n,o)∈m) {b:Option p8}(h: ∀c,b=some c->xV g w o c):
  xV (sV g np m) w n (F1 m b)/\∀bb oo,qR (sV g np m) n (F1 m b) bb oo->∃c,b=some c/\qR g o c bb oo:=by
 obtain⟨hJ,hcur⟩:=yG (g:=g) hk hm;unfold F1;split
 ·rename_i t x toks;split
  ·rename_i hp;obtain⟨p,cs,h1,h2,h3,h4,h5,h6⟩:=h _ rfl;refine⟨⟨p,cs,by rw[hJ];exact h1,uE (g:=g) (g':=sV g np m) rfl hp h2,h3,h4,h5,fun q j hmem=> ?_⟩,fun bb oo ⟨pp,e1,e2⟩=>⟨_,rfl,pp,by rw[hJ] at e1;exact e1,e2⟩⟩;obtain⟨k,k1,k2⟩:=QW hmem;obtain⟨u,l,v,g1,g2,g3⟩:=h6 q k k1;exact⟨u,l,v,g1,g2,by rw[(yG hk (AM k2)).2];exact g3⟩
  ·cases hy:xF m t x with
   |none=>exact⟨trivial,fun _ _ h=>h.elim⟩
   |some y=>
    obtain⟨p,cs,h1,h2,h3,h4,h5,h6⟩:=h _ rfl;simp only[V1];refine⟨⟨p,cs,by rw[hJ];exact h1,MG hk h2 hy,h3,h4,h5,fun q j hmem=> ?_⟩,fun bb oo ⟨pp,e1,e2⟩=>⟨_,rfl,pp,by rw[hJ] at e1;exact e1,e2⟩⟩;obtain⟨k,k1,k2⟩:=QW hmem;obtain⟨u,l,v,g1,g2,g3⟩:=h6 q k k1;exact⟨u,l,v,aE4 hy g1,g2,by rw[(yG hk (AM k2)).2];exact g3⟩
 ·rename_i e c k;obtain⟨v,xs,h1,h2,h3,h4⟩:=h _ rfl;exact⟨⟨v,xs,by rw[hcur];exact h1,h2,fun q hq=>by rw[hcur];exact h3 q hq,h4⟩,fun bb oo ⟨v',e1,e2⟩=>⟨_,rfl,v',by rw[hcur] at e1;exact e1,e2⟩⟩
 ·rename_i e t l n;split
  ·rename_i hp;obtain⟨h0,v,xs,h1,h2,h5,h3,h4⟩:=h _ rfl;exact⟨⟨h0,v,xs,by rw[hcur];exact h1,h2,AL (fun _ _ h=>uE (g:=g) (g':=sV g np m) rfl hp h) h5,fun q hq=>by rw[hcur];exact h3 q hq,h4⟩,fun bb oo ⟨v',e1,e2⟩=>⟨_,rfl,v',by rw[hcur] at e1;exact e1,e2⟩⟩
  ·exact⟨trivial,fun _ _ h=>h.elim⟩
 ·rename_i k v l;split
  ·rename_i hp;rw[aMz] at hp;obtain⟨p,es,cl,h1,h0,h2,h3,h4⟩:=h _ rfl;exact⟨⟨p,es,cl,by rw[hJ];exact h1,h0,h2,LZ (g:=g) (g':=sV g np m) rfl hp.1 hp.2 h3,h4⟩,fun bb oo ⟨pp,e1,e2⟩=>⟨_,rfl,pp,by rw[hJ] at e1;exact e1,e2⟩⟩
  ·exact⟨trivial,fun _ _ h=>h.elim⟩
 ·obtain⟨p,h1,h0,h2,h4⟩:=h _ rfl;exact⟨⟨p,by rw[hJ];exact h1,h0,h2,h4⟩,fun bb oo ⟨pp,e1,e2⟩=>⟨_,rfl,pp,by rw[hJ] at e1;exact e1,e2⟩⟩
 ·exact⟨trivial,fun _ _ h=>h.elim⟩
theorem F7 {m:List (Nat×Nat)}{H:qQ}: ∀{l:List (Nat×Nat)}{n:Nat}{b:p8},pD (Q0 m H l) n=some b->∃o,(n,o)∈l/\b=F1 m (pD H o)
 |[],_,_,h=>by cases h
 |(a,c)::l,n,b,h=>by
  simp only[Q0,pD] at h;split at h
  ·rename_i e;subst e;exact⟨c,aMO,(aMy h).symm⟩
  ·obtain⟨o,h1,h2⟩:=F7 h;exact⟨o,aMH _ h1,h2⟩
theorem a6U {m:List (Nat×Nat)}{env:List (Nat×pB)}: ∀(l:List Nat) (t:Nat),lk (LT m env l) t=(.any,none)\/lk (LT m env l) t=xT m (lk env t)
 |[],_=> .inl rfl
 |a::l,t=>by
  simp only[LT,lk];split
  ·rename_i e;subst e;exact .inr rfl
  ·exact a6U l t
theorem a6V: ∀{m:List (Nat×Nat)}{n o:Nat},(n,o)∈m->n<Q1 m
 |(a,b)::m,n,o,h=>by
  simp only[Q1];rcases aMK.1 h with h1|h1
  ·cases h1;omega
  ·have:=a6V h1;omega
theorem WF: ∀{m:List (Nat×Nat)}{n o:Nat},xJ m n=some o->(n,o)∈m
 |[],_,_,h=>by cases h
 |(a,b)::m,n,o,h=>by
  simp only[xJ] at h;split at h
  ·rename_i e;subst e;simp only[aMt] at h;subst h;exact aMO
  ·exact aMH _ (WF h)
theorem WG {B:Nat}{A:Nat->Nat->Prop}{L:List p8}{g0 g:Gh}{w0 w:World}{s:St}{a:Act}(h:tJ B g w s a) (hg:rY A L g0 w0 g w s.H) (hnp:s.np=L.length) (k:uH) (hk:vY s.np k.ids=true):
  tJ B (sV g s.np k.ids) w (s.keep k) a/\rY A L g0 w0 (sV g s.np k.ids) w (s.keep k).H/\(s.keep k).np=L.length/\(s.keep k).N=s.N:=by
 unfold St.keep;rw[hk];refine⟨⟨fun t=> ?_,⟨fun i b hb=> ?_,fun i j bi bj b o hij h1 h2 o1 o2=> ?_,h.heap.sl,h.heap.tab.1,fun i b bb oo hb ho=>by
   obtain⟨o,h1,rfl⟩:=F7 hb;obtain⟨c1,e1,o1'⟩:=(GU hk h1 fun c hc=>h.heap.blk o c hc).2 bb oo ho;exact h.heap.tab.2 o c1 bb oo e1 o1'⟩,h.size,fun i hi=> ?_,h.def_,Nat.le_max_left _ _⟩,⟨hg.shut,hg.fr,fun i blk b o hb ho=> ?_,fun i p hi hp=> ?_,fun i hi=> ?_,fun i u y us hi hb=> ?_,fun i n u hi hu=>(by
   show (if i<s.np then g.cur i n else _)=_;rw[if_pos (by omega)];exact hg.cur i n u hi hu)⟩,hnp,rfl⟩
 ·rcases a6U (m:=k.ids) (env:=s.env) k.slots t with e|e
  ·exact⟨by rw[show lk (LU s k true).env t=_ from e];trivial,by rw[show lk (LU s k true).env t=_ from e];trivial⟩
  ·have:=QV hk (h.env t);rw[show lk (LU s k true).env t=_ from e];exact this
 ·obtain⟨o,h1,rfl⟩:=F7 hb;exact(GU hk h1 fun c hc=>h.heap.blk o c hc).1
 ·obtain⟨p,k1,rfl⟩:=F7 h1;obtain⟨q,k2,rfl⟩:=F7 h2;obtain⟨c1,e1,o1'⟩:=(GU hk k1 fun c hc=>h.heap.blk p c hc).2 b o o1;obtain⟨c2,e2,o2'⟩:=(GU hk k2 fun c hc=>h.heap.blk q c hc).2 b o o2;refine h.heap.dis p q c1 c2 b o (fun e=> ?_) e1 e2 o1' o2';subst e;have inj: ∀{m:List (Nat×Nat)},vY s.np m=true->∀{i j o:Nat},(i,o)∈m->(j,o)∈m->i=j:=by
   intro m
   induction m with
   |nil=>intro _ _ _ _ h;cases h
   |cons z m ih=>
    obtain⟨z1,z2⟩:=z;intro hk i j o h1 h2;simp only[vY,aMz,aMV] at hk;rcases aMK.1 h1 with h1|h1<;>rcases aMK.1 h2 with h2|h2
    ·cases h1;cases h2;rfl
    ·cases h1;exact absurd rfl (QU hk.1.2 _ _ h2).2
    ·cases h2;exact absurd rfl (QU hk.1.2 _ _ h1).2
    ·exact ih hk.2 h1 h2
  exact hij (inj hk k1 k2)
 ·have hi': ¬i<s.np:=by have:=aNq (Nat.le_max_left _ _) hi;omega
  have hold:xJ k.ids i=none:=by
   cases ho:xJ k.ids i with
   |none=>rfl
   |some o=>
    have:=a6V (WF ho);have:=aNq (Nat.le_max_right _ _) hi;omega
  refine⟨?_,fun n=> ?_⟩
  ·show (if i<s.np then g.J i else(xJ k.ids i).bind g.J)=none;rw[if_neg hi',hold];rfl
  ·show (if i<s.np then g.cur i n else(xJ k.ids i).bind fun o=>g.cur o n)=none;rw[if_neg hi',hold];rfl
 ·obtain⟨p,h1,rfl⟩:=F7 hb;obtain⟨c,e1,e2⟩:=(GU hk h1 fun c hc=>h.heap.blk p c hc).2 b o ho;exact hg.perm p c b o e1 e2
 ·show (if i<s.np then g.J i else _)=_;rw[if_pos (by omega)];exact hg.J i p hi hp
 ·rcases hg.live i hi with⟨p,hp⟩ |⟨n,v,hv⟩
  ·left;refine⟨p,?_⟩;show (if i<s.np then g.J i else _)=_;rw[if_pos (by omega)];exact hp
  ·right;refine⟨n,v,?_⟩;show (if i<s.np then g.cur i n else _)=_;rw[if_pos (by omega)];exact hv
 ·obtain⟨o,h1,h2⟩:=F7 hb;have ho:=(WD hk h1).2 (by omega);subst ho;unfold F1 at h2;split at h2
  ·rename_i t x toks heq;split at h2
   ·simp only[p8.cells.injEq] at h2;obtain⟨rfl,_⟩:=h2;exact hg.ty o u x toks hi heq
   ·cases hy:xF k.ids t x with
    |none=>rw[hy] at h2;cases h2
    |some y=>
     rw[hy] at h2;simp only[V1,p8.cells.injEq] at h2;obtain⟨rfl,_⟩:=h2;exact hg.ty o u x toks hi heq
  ·cases h2
  ·split at h2<;>cases h2
  ·split at h2<;>cases h2
  ·cases h2
  ·cases h2
theorem DA {B:Nat}{A:Nat->Nat->Prop}{L:List p8}{g0 g:Gh}{w0 w:World}{s:St}{a:Act}(h:tJ B g w s a) (hg:rY A L g0 w0 g w s.H) (hnp:s.np=L.length) (k:uH):
  ∃g',tJ B g' w (s.keep k) a/\rY A L g0 w0 g' w (s.keep k).H/\(s.keep k).np=L.length/\(s.keep k).N=s.N:=by
 unfold St.keep;cases hk:vY s.np k.ids with
 |false=>
  refine⟨g,⟨fun t=>⟨trivial,trivial⟩,⟨(fun i b h=>by cases h),(fun i j bi bj b o _ h=>by cases h),h.heap.sl,h.heap.tab.1,(fun i b bb oo h=>by cases h)⟩,h.size,h.nb,h.def_,h.np⟩,⟨hg.shut,hg.fr,(fun i blk b o h=>by cases h),hg.J,hg.live,(fun i u y us _ h=>by cases h),hg.cur⟩,hnp,rfl⟩
 |true=>
  have:=WG h hg hnp k hk;unfold St.keep at this;rw[hk] at this;exact⟨_,this⟩
theorem WH {g g':Gh}{w w':World}{env:List (Nat×pB)}{a:Act}{o:Oper}{sl:pB}{v:Value}(h:z7 g w env a.tmps) (le:Le g w g' w') (hs:q7 g' w' sl v) {N:Nat}(hN:a.tmps.size=N) (hd:EZ N o.dst=true):z7 g' w' (sC o.dst sl env) (a.put o.dst v).tmps:=by
  intro t;cases ho:o.dst with
  |none=>exact yX le (h t)
  | some d=>
    rw[ho] at hd;simp only[EZ,aMw] at hd;simp only[sC,lk,Act.put];by_cases hdt:d=t
    · subst hdt
      rw[if_pos rfl];have hlt:d<a.tmps.size:=by rw[hN];exact hd
      have:(a.tmps.setIfInBounds d v).getD d undef=v:=by
        rw[aM2,Array.getElem?_setIfInBounds_self_of_lt hlt];rfl
      rw[this];exact hs
    · rw[if_neg hdt]
      have:(a.tmps.setIfInBounds d v).getD t undef=a.tmps.getD t undef:=by
        rw[aM2,aNU hdt,←aM2]
      rw[this];exact yX le (h t)
theorem MH {n:Nat}: ∀{u:List (Nat×p8)},F0 n u=true→∀{i:Nat},i∈pE u→i<n
  | (k,b)::u,h,i,hi=>by
    simp only[F0,aMz,aMw] at h;simp only[pE,aMK] at hi;rcases hi with rfl|hi
    ·exact h.1
    ·exact MH h.2 hi
theorem a6W (a:Act) (d:Option Tmp) (v:Value):(a.put d v).tmps.size=a.tmps.size:=by
  cases d<;>simp [Act.put]
theorem a6X (a:Act) (d:Option Tmp) (v:Value):(a.put d v).defers=a.defers:=by
  cases d<;>simp [Act.put]
theorem tJ.step {B:Nat}{g g':Gh}{w w':World}{s:St}{a:Act}{o:Oper}{e:pI}{v:Value}(h:tJ B g w s a) (k:qI g w s.H e g' w' v) (hd:EZ s.N o.dst=true) (hi:F0 (s.nb+32) e.upd=true):
    tJ B g' w' ⟨sC o.dst e.slot s.env,pN e.upd s.H,s.nb+32,s.N,s.np⟩ (a.put o.dst v):=by
  refine⟨WH h.env k.le k.slot h.size hd,k.heap,(a6W _ _ _).trans h.size,fun i hn=> ?_,by rw[a6X];exact h.def_.eff h.heap k,aNq h.np (Nat.le_add_right _ _)⟩;have:i∉pE e.upd:=fun hm=>by have:=MH hi hm;simp only at hn;omega
  have hk:=k.gho i this;have hb:=h.nb i (by simp only at hn;omega);exact⟨hk.1.trans hb.1,fun n=>by rw[hk.2];exact hb.2 n⟩
theorem a6Y {T:rP}{Γ:t6}{ops:List Oper}: ∀(l:List Oper),uP T Γ ops l none=none
  |[]=>rfl
  |_::_=>rfl
theorem WI {T:rP}{Γ:t6}{ops:List Oper}{o:Oper}{l:List Oper}{x y:uO}(h:uP T Γ ops (o::l) (some x)=some y):
    ∃ e,AI T Γ ops o x.s=some e∧EZ x.s.N o.dst=true∧F0 (x.s.nb+32) e.upd=true∧
      uP T Γ ops l (some ⟨⟨sC o.dst e.slot x.s.env,pN e.upd x.s.H,x.s.nb+32,x.s.N,x.s.np⟩,pN x.side (pN (GL x.s.H e.upd e.rds e.upd) e.side),e::x.es⟩)=some y:=by
  simp only[uP] at h;cases he:AI T Γ ops o x.s with
  |none=>rw[he] at h;simp only[V0] at h;rw[a6Y] at h;cases h
  | some e=>
    rw[he] at h;simp only[V0] at h;by_cases hc:(EZ x.s.N o.dst&&F0 (x.s.nb+32) e.upd)=true
    · rw[if_pos hc] at h
      simp only[aMz] at hc;exact⟨e,rfl,hc.1,hc.2,h⟩
    ·rw[if_neg hc,a6Y] at h;cases h
theorem GV {T:rP}{Γ:t6}{ops:List Oper}: ∀{l:List Oper}{x y:uO},uP T Γ ops l (some x)=some y→(∀p∈x.side,p∈y.side)∧y.s.N=x.s.N∧y.s.np=x.s.np
  | [],x,y,h=>by
    simp only[uP,aMt] at h;subst h;exact⟨fun _ h=>h,rfl,rfl⟩
  | o::l,x,y,h=>by
    obtain⟨e,_,_,_,h4⟩:=WI h;obtain⟨h5,h6,h7⟩:=GV h4;exact⟨fun p hp=>h5 p (v8.2 (.inl hp)),h6,h7⟩
def CC (ro:Option Nat):Fence:={Fence.wide with round:=ro}
theorem a6Z {ro:Option Nat}{n:Nat}{P:Program}{f:FuncId}{args:Array Value}{w:World}{R:Ending→World→Prop}(h:Calls P f args w R):CallsIn (CC ro) n P f args w R:=callsIn_wide.2 h
section
variable {B:Nat}{P:Program}{T:rP}{Γ:t6}(hT:vK P T) (hΓ:BE P Γ) {A:Nat→Nat→Prop}{L:List p8}{g0:Gh}{w0:World}{Q:Exit→Act→World→Prop}
include hT hΓ
theorem aE5 {g:Gh}{w:World}{s:St}{a:Act}(h:tJ B g w s a) (e:pI):xW g s.nb e:=fun i _ hb=>h.nb i hb
omit hT hΓ in
theorem a60 {ops:List Oper}{o:Oper}{s:St}{e:pI}(h:AI T Γ ops o s=some e): ∀c,o.op≠.defer c:=by
  intro c hc;unfold AI at h;cases hg:o.guard with
  |none=>rw[hg,hc] at h;simp [J0,sR,IY] at h
  |some jb=>rw[hg,hc] at h;simp only at h;cases hG:D3 s.env jb.2 (B6 ops jb.1)<;>rw[hG] at h<;>simp [IZ,sR,EY] at h
omit hT hΓ in
theorem a61 {ro:Option Nat}{o:Oper}{a:Act}{w:World}{K:Act→World→Prop}(hd: ∀c,o.op≠.defer c) (h:o.wp P a w K Q):o.wpIn (CC ro) 0 P a w K Q:=by
  refine⟨fun _ _=>trivial,?_⟩;rw[Oper.semAt_eq _ _ _ hd];unfold Oper.wp at h;generalize (execOp a.eval o).run P w=r at h⊢;unfold Oper.upon at h;unfold Oper.uponIn;split at h
  ·exact h
  ·exact h
  ·exact h
  ·exact⟨fun h0=>(by cases h0),a6Z h⟩
  ·exact⟨fun h0=>(by cases h0),fun c cs _=>let ⟨v,w',r,s⟩:=h c cs;⟨v,w',r,stepsIn_wide.2 s⟩⟩
  ·exact h
  ·exact h.elim
theorem a62 {ro:Option Nat}{ops:Array Oper}: ∀{l:List Oper}{x y:uO}{a:Act}{w:World}{g:Gh},uP T Γ ops.toList l (some x)=some y→(∀p∈y.side,p)→tJ B g w x.s a→rY A L g0 w0 g w x.s.H→
    (∀g' a' w',tJ B g' w' y.s a'→rY A L g0 w0 g' w' y.s.H→Q .normal a' w')→wpListIn (CC ro) 0 P ops Q l a w
  | [],x,y,a,w,g,h,hs,hr,hg,hQ=>by
    simp only[uP,aMt] at h;subst h;exact hQ g a w hr hg
  | o::l,x,y,a,w,g,h,hs,hr,hg,hQ=>by
    obtain⟨e,h1,h2,h3,h4⟩:=WI h;have hside: ∀p∈e.side,p:=fun p hp=>hs p ((GV h4).1 p (v8.2 (.inr (v8.2 (.inr hp)))));have key:=a6S hT hΓ (ops:=ops.toList) (o:=o) (a:=a) (K:=wpListIn (CC ro) 0 P ops Q l) (Q:=Q) hr.env hr.heap h1 hside (aE5 hT hΓ hr e) (fun g' w' v k=>a62 h4 hs (hr.step k h2 h3) (hg.eff k) hQ);simp only[aN1] at key;unfold wpListIn;split at key
    ·rename_i hw;rw[if_pos hw];exact a61 (a60 h1) key
    ·rename_i hw;rw[if_neg hw];exact⟨fun _ _=>trivial,key⟩
theorem aE6 {ro:Option Nat}{id:Nat}{ops:Array Oper}{s:St}{y:uO}{a:Act}{w:World}{g:Gh}(h:uP T Γ ops.toList ops.toList (some ⟨s,[],[]⟩)=some y) (hs: ∀p∈y.side,p) (hr:tJ B g w s a) (hg:rY A L g0 w0 g w s.H)
    (hQ: ∀g' a' w',tJ B g' w' y.s a'→rY A L g0 w0 g' w' y.s.H→Q .normal a' w'):(Code.region id ops false).wpIn (CC ro) 0 P Q a w:=
  wpIn_region_list (a62 hT hΓ h hs hr hg hQ)
end
theorem WJ {ρ ρ':Operand→pB}: ∀{xs:List Operand},(∀x∈xs,ρ' x=ρ x)→tW ρ' xs=tW ρ xs
  |[],_=>rfl
  |x::xs,h=>by simp only[tW,h x (by simp),WJ (fun y hy=>h y (aMH _ hy))]
theorem WK {ρ ρ':Operand→pB}: ∀{xs:List (Nat×Operand)},(∀x∈xs,ρ' x.2=ρ x.2)→sU ρ' xs=sU ρ xs
  |[],_=>rfl
  |(i,x)::xs,h=>by simp only[sU,h (i,x) (by simp),WK (fun y hy=>h y (aMH _ hy))]
theorem a63 {T:rP}{ρ ρ':Operand→pB}: ∀{xs:List Operand}{ts:List TypeId},(∀x∈xs,ρ' x=ρ x)→D1 T ρ' xs ts=D1 T ρ xs ts
  |[],_,_=>by simp [D1]
  |_::_,[],_=>by simp [D1]
  |x::xs,t::ts,h=>by simp only[D1,h x (by simp),a63 (fun y hy=>h y (aMH _ hy))]
theorem aE7 {T:rP}{Γ:t6}{ty:TypeId}{ρ ρ':Operand→pB}{base:Nat}{H:List (Nat×p8)}(op:Op) (h: ∀x∈op.operands,ρ' x=ρ x):sR T Γ ty ρ' base H op=sR T Γ ty ρ base H op:=by
  cases op
  case slice t x lo hi mx=>
    cases mx with
    |some m=>rfl
    | none=>
      have h1:=h x (by simp [Op.operands])
      have h2:xE ρ' lo=xE ρ lo:=by
        cases lo with
        |none=>rfl
        |some l=>simp only[xE,h l (by simp [Op.operands])]
      have h3:xE ρ' hi=xE ρ hi:=by
        cases hi with
        |none=>rfl
        |some l=>simp only[xE,h l (by simp [Op.operands])]
      simp only[sR,h1,h2,h3]
  case call c=>
    obtain⟨callee,args,tys⟩:=c
    have ha: ∀x∈args.toList,ρ' x=ρ x:=fun x hx=>h x (by
      have:x∈args:=by simpa using hx
      simp only[Op.operands,Call.operands];split<;>simp [this])
    cases callee with
    |builtin b=>cases b<;>simp only[sR,GK,WJ ha]
    | value f=>
      have hf:=h f (by simp [Op.operands,Call.operands]);simp only[sR,GK,hf];cases GJ args.toList tys.toList with
      |false=>rfl
      |true=>simp only[UU,a63 ha]
    |_=>rfl
  case build t ps=>simp only[sR,WK (fun x hx=>h x.2 (by simp only[Op.operands,aOs];exact List.mem_map_of_mem hx))]
  case buildSlice t n ps=>simp only[sR,WK (fun x hx=>h x.2 (by simp only[Op.operands,aOs];exact List.mem_map_of_mem hx))]
  case makeFunc f first caps=>
    cases f with
    | func f=>
      have hc: ∀x∈caps.toList,ρ' x=ρ x:=fun x hx=>h x (by
        have:x∈caps:=by simpa using hx
        simp [Op.operands,this])
      simp only[sR,WJ hc]
    |_=>rfl
  all_goals first
    |rfl
    |(simp only[Op.operands,aOs,aMK,aOr,or_false,forall_eq,forall_eq_or_imp] at h;simp only[sR,h])
    |(simp [Op.operands] at h;simp only[sR,h])
theorem WM: ∀{l acc:List pW}{i:Nat},i∈qV (xC l acc)↔i∈qV l∨i∈qV acc
  |[],_,_=>by simp [xC,qV]
  | w::l,acc,i=>by
    simp only[xC,WM,qV,aMK];constructor
    · rintro(h|h|h)
      ·exact .inl (.inr h)
      ·exact .inl (.inl h)
      ·exact .inr h
    · rintro((h|h) |h)
      ·exact .inr (.inl h)
      ·exact .inl h
      ·exact .inr (.inr h)
section
variable {H H':List (Nat×p8)}
theorem aE8 {k:Option Nat}{a b:rS}(h:xD H k (some a)=some b):(∀i,i∈qV a.ws→i∈qV b.ws)∧((∀i,i∈qV b.ws→pD H' i=pD H i)→xD H' k (some a)=some b):=by
  cases k with
  | none=>
    have h:none=some b:=h;cases h
  | some k=>
    simp only[xD] at h⊢
    have:(∃e c m,pD H k=some (.grow e c m)):=by
      cases hg:pD H k with
      |none=>rw[hg] at h;cases h
      | some bl=>cases bl with
        |grow e c m=>exact⟨_,_,_,rfl⟩
        |_=>rw[hg] at h;cases h
    obtain⟨e,c,m,hg⟩:=this;rw[hg] at h;simp only[zT] at h;split at h
    ·cases h
    · rename_i hm
      simp only[aMt] at h;subst h;refine⟨fun i hi=>by simp only[qV,aMK];exact .inr hi,fun hl=> ?_⟩;rw[hl k (by simp [qV,pW.id]),hg];simp only[zT];rw[if_neg hm]
theorem aE9 (H:List (Nat×p8)) (k:Option Nat):xD H k none=none:=by
  cases k with
  |none=>rfl
  | some k=>
    simp only[xD];cases pD H k with
    |none=>rfl
    |some bl=>cases bl<;>rfl
theorem a64 (H:List (Nat×p8)) (toks:List (Nat×Nat)) (o:Nat): ∀(qs:List Nat),wP H toks o qs none=none
  |[]=>rfl
  |q::qs=>by simp only[wP,aE9,a64 H toks o qs]
theorem a65 {H H':List (Nat×p8)}{toks:List (Nat×Nat)}{o:Nat}: ∀{qs:List Nat}{a b:rS},wP H toks o qs (some a)=some b→(∀i,i∈qV a.ws→i∈qV b.ws)∧((∀i,i∈qV b.ws→pD H' i=pD H i)→wP H' toks o qs (some a)=some b)
  |[],a,b,h=>by simp only[wP,aMt] at h;subst h;exact⟨fun _ h=>h,fun _=>rfl⟩
  | q::qs,a,b,h=>by
    simp only[wP] at h⊢;cases hm:xD H (vH toks (o+q)) (some a) with
    |none=>rw[hm,a64] at h;cases h
    | some m=>
      rw[hm] at h;obtain⟨h1,h2⟩:=aE8 (H':=H') hm;obtain⟨h3,h4⟩:=a65 (H':=H') h;exact⟨fun i hi=>h3 i (h1 i hi),fun hl=>by rw[h2 (fun i hi=>hl i (h3 i hi))];exact h4 hl⟩
theorem aFa (H H':List (Nat×p8)) (a:rS) (s:pB):wG H' a .v s=wG H a .v s:=by
  obtain⟨d,k⟩:=s;cases d with
  | val t x=>
    cases t with
    | clo=>
      cases x with
      |none=>rfl
      |some q=>obtain⟨f,l⟩:=q;cases l<;>rfl
    |_=>rfl
  |_=>rfl
theorem a66 {H H':List (Nat×p8)}{t:Ty}{os:List Nat}{i o:Nat}{a b:rS}(h:uD H t os i o a (pD H i)=some b):(∀i,i∈qV a.ws→i∈qV b.ws)∧((∀i,i∈qV b.ws→pD H' i=pD H i)→uD H' t os i o a (pD H' i)=some b):=by
  cases hg:pD H i with
  |none=>rw[hg] at h;simp [uD] at h
  | some bl=>
    rw[hg] at h;cases bl with
    | cells u x toks=>
      simp only[uD] at h;cases hy:pS t u x o with
      |none=>rw[hy] at h;simp [C0] at h
      | some y=>
        rw[hy] at h;simp only[C0] at h;split at h
        · rename_i hc
          obtain⟨h3,h4⟩:=a65 (H':=H') h;refine⟨fun j hj=>h3 j (by simp only[qV,aMK];exact .inr hj),fun hl=> ?_⟩;rw[hl i (h3 i (by simp [qV,pW.id])),hg];simp only[uD,hy,C0];rw[if_pos hc];exact h4 hl
        ·cases h
    |_=>simp [uD] at h
theorem aFb (H:List (Nat×p8)) (f:FuncId) (args:List pB) (ks:List (Ty×List Nat)) (cs ids:List (Nat×Nat)):vU H f args ks cs ids none=none:=by cases ks<;>cases cs<;>rfl
theorem a67 {H H':List (Nat×p8)}{f:FuncId}{args:List pB}: ∀{ks:List (Ty×List Nat)}{cs ids:List (Nat×Nat)}{a b:rS},vU H f args ks cs ids (some a)=some b→(∀i,i∈qV a.ws→i∈qV b.ws)∧((∀i,i∈qV b.ws→pD H' i=pD H i)→vU H' f args ks cs ids (some a)=some b)
  | [],[],ids,a,b,h=>by
    simp only[vU,aMt] at h⊢;subst h;exact⟨fun _ h=>h,fun _=>rfl⟩
  |[],_::_,_,_,_,h=>by simp [vU] at h
  |_::_,[],_,_,_,h=>by simp [vU] at h
  | (t,os)::ks,(i,o)::cs,ids,a,b,h=>by
    simp only[vU] at h⊢;cases hb:uD H t os i o a (pD H i) with
    |none=>rw[hb,aFb] at h;cases h
    | some m=>
      rw[hb] at h;obtain⟨h1,h2⟩:=a66 (H':=H') hb;obtain⟨h3,h4⟩:=a67 (H':=H') h;exact⟨fun i hi=>h3 i (h1 i hi),fun hl=>by rw[h2 (fun i hi=>hl i (h3 i hi))];exact h4 hl⟩
theorem a68 {p:PK}{s:pB}{a b:rS}(h:wG H a p s=some b):(∀i,i∈qV a.ws→i∈qV b.ws)∧((∀i,i∈qV b.ws→pD H' i=pD H i)→wG H' a p s=some b):=by
  by_cases hpv:p= .v
  · subst hpv
    refine⟨?_,fun _=>by rw[aFa H H'];exact h⟩;unfold wG at h;split at h
    ·simp only[OT,aMt] at h;subst h;exact fun _ h=>h
    · simp only[OS] at h
      split at h
      ·simp only[aMt] at h;subst h;exact fun _ h=>h
      ·cases h
    ·rename_i h1;cases h1
    ·rename_i h1;cases h1
    ·rename_i h1;cases h1
    ·rename_i h1;cases h1
    ·rename_i h1;cases h1
    ·cases h
  unfold wG at h;split at h
  ·exact absurd rfl hpv
  ·exact absurd rfl hpv
  · rename_i t x k
    simp only[wG];cases hg:pD H k with
    |none=>rw[hg] at h;simp [zU] at h
    | some bl=>
      rw[hg] at h;cases bl with
      | grow e c m=>
        simp only[zU] at h;split at h
        · rename_i hc
          simp only[aMt] at h;subst h;refine⟨fun i hi=>by simp only[qV,aMK];exact .inr hi,fun hl=> ?_⟩;rw[hl k (by simp [qV,pW.id]),hg];simp only[zU];rw[if_pos hc]
        ·cases h
      |_=>simp [zU] at h
  · rename_i t os i o k
    simp only[wG];exact a66 h
  · rename_i i k
    simp only[wG];cases hg:pD H i with
    |none=>rw[hg] at h;simp [zV] at h
    | some bl=>
      rw[hg] at h;cases bl with
      | map s t l=>
        simp only[zV] at h;split at h
        · rename_i hc
          simp only[aMt] at h;subst h;refine⟨fun j hj=>by simp only[qV,aMK];exact .inr hj,fun hl=> ?_⟩;rw[hl i (by simp [qV,pW.id]),hg];simp only[zV];rw[if_pos hc]
        ·cases h
      |_=>simp [zV] at h
  · rename_i k n k'
    simp only[wG];cases hg:pD H k with
    |none=>rw[hg] at h;simp [zW] at h
    | some bl=>
      rw[hg] at h;cases bl with
      | row e t l m=>
        simp only[zW] at h;split at h
        · rename_i hc
          simp only[aMt] at h;subst h;refine⟨fun j hj=>by simp only[qV,aMK];exact .inr hj,fun hl=> ?_⟩;rw[hl k (by simp [qV,pW.id]),hg];simp only[zW];rw[if_pos hc]
        ·cases h
      |_=>simp [zW] at h
  · simp only[wG]
    exact a67 h
  ·cases h
theorem a69 (H:List (Nat×p8)) (gs:List (Nat×Nat×PK)):yU H gs none=none:=by cases gs<;>rfl
theorem a7a {H H':List (Nat×p8)}: ∀{gs:List (Nat×Nat×PK)}{a b:rS},yU H gs (some a)=some b→(∀i,i∈qV a.ws→i∈qV b.ws)∧((∀i,i∈qV b.ws→pD H' i=pD H i)→yU H' gs (some a)=some b)
  |[],a,b,h=>by simp only[yU,aMt] at h;subst h;exact⟨fun _ h=>h,fun _=>rfl⟩
  | (c,q,pk)::gs,a,b,h=>by
    simp only[yU] at h⊢;cases hm:wG H a pk (GA q pk (EU a.H (a.n-1-c))) with
    |none=>rw[hm] at h;simp only[IN,a69] at h;cases h
    | some m=>
      rw[hm] at h;simp only[IN] at h;obtain⟨h1,h2⟩:=a68 (H':=H') hm;obtain⟨h3,h4⟩:=a7a (H':=H') h;exact⟨fun i hi=>h3 i (h1 i hi),fun hl=>by rw[h2 (fun i hi=>hl i (h3 i hi))];simp only[IN];exact h4 hl⟩
theorem aFc (H:List (Nat×p8)): ∀(ps:List PK) (ss:List pB),vV H ps ss none=none
  |[],[]=>rfl
  |[],_::_=>rfl
  |_::_,[]=>rfl
  |_::_,_::_=>rfl
theorem a7b {H H':List (Nat×p8)}: ∀{ps:List PK}{ss:List pB}{a b:rS},vV H ps ss (some a)=some b→(∀i,i∈qV a.ws→i∈qV b.ws)∧((∀i,i∈qV b.ws→pD H' i=pD H i)→vV H' ps ss (some a)=some b)
  |[],[],a,b,h=>by simp only[vV,aMt] at h;subst h;exact⟨fun _ h=>h,fun _=>rfl⟩
  |[],_::_,a,b,h=>by simp [vV] at h
  |_::_,[],a,b,h=>by simp [vV] at h
  | p::ps,s::ss,a,b,h=>by
    simp only[vV] at h⊢;cases hm:wG H a p s with
    |none=>rw[hm,aFc] at h;cases h
    | some m=>
      rw[hm] at h;obtain⟨h1,h2⟩:=a68 (H':=H') hm;obtain⟨h3,h4⟩:=a7b (H':=H') h;exact⟨fun i hi=>h3 i (h1 i hi),fun hl=>by rw[h2 (fun i hi=>hl i (h3 i hi))];exact h4 hl⟩
theorem a7c {H H':List (Nat×p8)}{base:Nat}{args:List pB}{s:qC}{e:pI}(h:CZ H base args (some s)=some e) (hl: ∀i∈e.rds,pD H' i=pD H i):CZ H' base args (some s)=some e:=by
  simp only[CZ] at h⊢;cases hp0:vV H s.ps args (some ⟨[],[],[],0⟩) with
  |none=>rw[hp0,a69] at h;cases h
  |some a0=>
   rw[hp0] at h;cases hp:yU H s.gs (some a0) with
   |none=>rw[hp] at h;cases h
   |some a=>
    rw[hp] at h
    have hrd: ∀i,i∈qV (xC a.ws [])→i∈e.rds:=by
      simp only[LH] at h;cases hcl:EV (xC a.ws []) (xC a.H []) with
      |none=>rw[hcl] at h;cases h
      |some L=>
      rw[hcl] at h;simp only[OZ] at h;cases hc:s.C (xC a.args []) L with
      |none=>rw[hc] at h;cases h
      | some r=>
        rw[hc] at h;simp only[OY] at h;unfold LF at h;split at h
        · simp only[aMt] at h
          rw[←h];exact fun i hi=>v8.2 (.inl hi)
        ·cases h
    obtain⟨g1,g2⟩:=a7a (H':=H') hp;rw[(a7b (H':=H') hp0).2 (fun i hi=>hl i (hrd i (WM.2 (.inl (g1 i hi))))),g2 (fun i hi=>hl i (hrd i (WM.2 (.inl hi))))];exact h
theorem a7d {H H':List (Nat×p8)}{base:Nat}{args:List pB}{s:Option qC}{e:pI}(h:GI H base args s=some e) (hl: ∀i∈e.rds,pD H' i=pD H i):GI H' base args s=some e:=by
  cases s with
  |none=>cases h
  | some s=>
    simp only[GI] at h⊢;cases hr:s.row with
    | some F=>
      rw[hr] at h;simp only[PL] at h⊢;unfold P0 at h⊢;split at h
      · rename_i k n x
        cases hg:pD H k with
        |none=>rw[hg] at h;cases h
        | some b=>
          have hk:k∈e.rds:=by
            rw[hg] at h;cases b with
            | row e0 t l m=>
              simp only[U9] at h;unfold a5b at h;split at h
              ·simp only[aMt] at h;rw[←h];simp
              ·cases h
            |_=>cases h
          rw[hl k hk];exact h
      ·cases h
    | none=>
      rw[hr] at h;simp only[PL] at h⊢;cases hn:LI s.ps args with
      |none=>rw[hn] at h;exact a7c h hl
      | some k=>
        rw[hn] at h;simp only[a5a] at h⊢;cases hg:pD H k with
        |none=>rw[hg] at h;cases h
        | some b=>
          rw[hg] at h;cases b with
          | row e0 t l m=>
            simp only[LK] at h;cases hi:CZ ((k,.dead)::H) base (LJ k t l args) (some s) with
            |none=>rw[hi] at h;cases h
            | some e1=>
              rw[hi] at h
              have hk:k∈e.rds∧∀i∈e1.rds,i∈e.rds:=by
                unfold U8 at h;split at h
                · rename_i heq
                  simp only[aMt] at heq;subst heq;split at h
                  · simp only[aMt] at h
                    rw[←h];exact⟨by simp,fun i hi=>aMH _ hi⟩
                  ·cases h
                ·cases h
              rw[hl k hk.1,hg];simp only[LK]
              rw[a7c hi (fun i hi'=>by
                simp only[pD];split
                ·rfl
                ·exact hl i (hk.2 i hi'))]
              exact h
          |_=>cases h
theorem aFd {Γ:t6}{base:Nat}{args:List pB}{f:pB}{e:pI}(h:IV Γ H base args f=some e) (hl: ∀i∈e.rds,pD H' i=pD H i):IV Γ H' base args f=some e:=by
  unfold IV at h⊢;split at h
  ·exact a7d h hl
  ·exact a7d h hl
  ·cases h
theorem aFe {T:rP}{Γ:t6}{ty:TypeId}{ρ:Operand→pB}{base:Nat}{op:Op}{e:pI}(h:sR T Γ ty ρ base H op=some e) (hl: ∀i∈e.rds,pD H' i=pD H i):sR T Γ ty ρ base H' op=some e:=by
  cases op
  case load t x=>
    simp only[sR] at h⊢;unfold P5 at h⊢;split at h
    · rename_i ti k n c i o' _ e1 e2
      unfold LO at h;split at h
      · rename_i e' t' l m hg
        split at h
        · rename_i hc
          have:e.rds=[k]:=by
            unfold a5h at h;split at h
            ·simp only[aMt] at h;rw[←h]
            ·cases h
          rw[hl k (by rw[this];simp),hg];simp only[LO];rw[if_pos hc];exact h
        ·cases h
      ·cases h
    ·exact h
    · rename_i ti i off k e1 e2
      have hi:i∈e.rds:=by
        rcases a5T h with h|h
        · unfold LM at h
          split at h
          · unfold a5g at h;split at h
            ·simp only[aMt] at h;rw[←h];simp
            ·cases h
          ·cases h
        · unfold P4 at h
          split at h
          · unfold UJ at h;split at h
            ·simp only[aMt] at h;rw[←h];simp
            ·cases h
          ·cases h
      rw[hl i hi];exact h
    ·cases h
  case store t x y=>
    simp only[sR] at h⊢;unfold PB at h⊢;split at h
    · rename_i ti i off k kk n k' e1 e2 e3
      have hi:i∈e.rds:=by
        unfold UK at h;split at h
        · unfold P6 at h;split at h
          ·simp only[aMt] at h;rw[←h];simp
          ·cases h
        ·cases h
      rw[hl i hi];exact h
    · rename_i ti k n c i o' _ t y k' e1 e2 e3
      split at h
      · rename_i ht
        rw[if_pos ht];unfold PA at h;split at h
        · rename_i e' t' l m hg
          split at h
          · rename_i hc
            have:e.rds=[k]:=by
              unfold a5j at h;split at h
              ·simp only[aMt] at h;rw[←h]
              ·cases h
            rw[hl k (by rw[this];simp),hg];simp only[PA];rw[if_pos hc];exact h
          ·cases h
        ·cases h
      ·cases h
    · rename_i ti i off k t y k' e1 e2 e3
      split at h
      · rename_i ht
        have hi:e.rds=[i]:=by
          unfold P9 at h;split at h
          · unfold P8 at h
            split at h
            · unfold a5i at h;split at h
              ·simp only[aMt] at h;rw[←h]
              ·cases h
            ·cases h
          · unfold P7 at h
            split at h
            · unfold P6 at h;split at h
              ·simp only[aMt] at h;rw[←h]
              ·cases h
            ·cases h
        rw[hl i (by rw[hi];simp)];simp only[if_pos ht];exact h
      ·cases h
    ·cases h
  case call c=>
    obtain⟨callee,args,tys⟩:=c;cases callee with
    | builtin b=>
      cases b
      case append=>
        simp only[sR,GK] at h⊢;unfold PO at h⊢;split at h
        · split at h
          · rename_i hu
            rw[if_pos hu];unfold PI at h⊢;split at h
            · split at h
              · rename_i hbu
                rw[if_pos hbu];unfold PH at h;split at h
                · rename_i hg
                  split at h
                  · rename_i hbt
                    split at h
                    · rename_i hc
                      simp only[aMt] at h;subst h;rw[hl _ (aMO),hg];simp only[PH];rw[aOF hbt,if_pos hc]
                    ·cases h
                  ·cases h
                ·cases h
              ·cases h
            · split at h
              · rename_i hba
                rw[aOF hba];unfold PG at h;split at h
                · rename_i hg
                  split at h
                  · rename_i hc
                    simp only[aMt] at h;subst h;rw[hl _ (aMO),hg];simp only[PG];rw[if_pos hc]
                  ·cases h
                ·cases h
              ·cases h
            ·cases h
          · rename_i hu
            rw[if_neg hu];unfold UT at h⊢;split at h
            · unfold PN at h
              split at h
              · rename_i hg
                split at h
                · rename_i hc
                  simp only[aMt] at h;subst h;rw[hl _ (aMO),hg];simp only[PN];rw[if_pos hc]
                ·cases h
              ·cases h
            ·cases h
        ·cases h
      case len=>
        simp only[sR,GK] at h⊢;unfold PM at h⊢;split at h
        · unfold UR at h⊢
          split at h
          · unfold PF at h
            split at h
            · rename_i hg
              simp only[aMt] at h;subst h;rw[hl _ (aMO),hg];simp only[PF]
            ·cases h
          all_goals exact h
        ·cases h
      all_goals exact h
    | value f=>
      simp only[sR,GK] at h⊢;cases hsl:GJ args.toList tys.toList with
      |false=>rw[hsl] at h;cases h
      |true=>rw[hsl] at h;exact aFd h hl
    |_=>exact h
  case makeFunc f first caps=>
    cases f with
    |func f=>exact h
    |_=>exact h
  case slice t x lo hi mx=>
    cases mx with
    |none=>exact h
    |some m=>exact h
  case next x b=>
    simp only[sR] at h⊢;unfold PU at h⊢;split at h
    · rename_i i k e1
      unfold UZ at h;split at h
      · rename_i hg
        have:e.rds=[i]:=by
          simp only[aMt] at h;rw[←h]
        rw[hl i (by rw[this];simp),hg];exact h
      ·cases h
    ·cases h
  case lookup xt x ix ok=>
    simp only[sR] at h⊢;unfold PQ at h⊢;split at h
    · rename_i el fl ar ls_ i kk e1 e2
      unfold UW at h⊢;split at h
      · rename_i kt vt k a _
        split at h
        · rename_i hk
          rw[if_pos hk];unfold PP at h;split at h
          · rename_i hg
            split at h
            · rename_i hkv
              split at h
              · rename_i hkey
                have:e.rds=[i]:=by
                  cases ok<;>(simp only[aMt] at h;rw[←h])
                rw[hl i (by rw[this];simp),hg];simp only[PP];rw[aOF hkv,if_pos hkey];exact h
              ·cases h
            ·cases h
          ·cases h
        ·cases h
      ·cases h
    ·cases h
  case mapUpdate mt m x y=>
    simp only[sR] at h⊢;unfold IX at h⊢;split at h
    · rename_i el fl ar ls_ i kk e1 e2
      unfold PR at h⊢;split at h
      · rename_i kt k a _ u b _
        split at h
        · rename_i hk
          rw[if_pos hk];unfold IW at h;split at h
          · rename_i hg
            split at h
            · rename_i hkv
              split at h
              · rename_i hkey
                have:e.rds=[i]:=by
                  simp only[aMt] at h;rw[←h]
                rw[hl i (by rw[this];simp),hg];simp only[IW];rw[aOF hkv,if_pos hkey];exact h
              ·cases h
            ·cases h
          ·cases h
        ·cases h
      ·cases h
    ·cases h
  case insert mt m x y=>
    simp only[sR] at h⊢;unfold IX at h⊢;split at h
    · rename_i el fl ar ls_ i kk e1 e2
      unfold PR at h⊢;split at h
      · rename_i kt k a _ u b _
        split at h
        · rename_i hk
          rw[if_pos hk];unfold IW at h;split at h
          · rename_i hg
            split at h
            · rename_i hkv
              split at h
              · rename_i hkey
                have:e.rds=[i]:=by
                  simp only[aMt] at h;rw[←h]
                rw[hl i (by rw[this];simp),hg];simp only[IW];rw[aOF hkv,if_pos hkey];exact h
              ·cases h
            ·cases h
          ·cases h
        ·cases h
      ·cases h
    ·cases h
  all_goals exact h
end
theorem aFf {T:rP}{Γ:t6}{ops:Array Oper}{o:Oper}{s s':St}{e:pI}(h:AI T Γ ops.toList o s=some e) (ht: ∀t∈o.looksAt ops,lk s'.env t=lk s.env t) (hH: ∀i∈e.rds,pD s'.H i=pD s.H i) (hn:s'.nb=s.nb):AI T Γ ops.toList o s'=some e:=by
 have hop: ∀x∈o.op.operands,sK s'.env x=sK s.env x:=fun x hx=>by
  cases x with
  |tmp t=>exact ht t (by simp only[Oper.looksAt,aM4,List.mem_filterMap];exact .inl ⟨.tmp t,by simpa using hx,rfl⟩)
  |_=>rfl
 have hops:zZ s'.env (rJ o.op)=zZ s.env (rJ o.op):=by
  have hsub: ∀x∈rJ o.op,x∈o.op.operands:=by
   have hp: ∀(l:List (Nat×Operand)) x,x∈rJ.parts l->x∈l.map (·.2):=by
    intro l
    induction l with
    |nil=>intro x h;exact h
    |cons q l ih=>
     intro x h;obtain⟨i,y⟩:=q;simp only[rJ.parts,aMK] at h;rcases h with rfl|h
     ·simp
     ·simp only[aNt,aMK];exact .inr (ih x h)
   have ho: ∀(y:Option Operand) x,x∈rJ.opt y->y=some x:=by
    intro y x h;cases y with
    |none=>cases h
    |some y=>simp only[rJ.opt,aME] at h;rw[h]
   intro x hx;cases hop:o.op
   case call c=>
    rw[hop] at hx;obtain⟨callee,args,tys⟩:=c;cases callee<;>simp_all [rJ,Op.operands,Call.operands]
   case slice t y lo hi mx=>
    rw[hop] at hx;simp only[rJ,aMK,v8] at hx;simp only[Op.operands,Array.mem_append];rcases hx with rfl|hx|hx
    ·simp
    ·have:=ho _ _ hx;subst this;simp
    ·have:=ho _ _ hx;subst this;simp
   case build t ps=>rw[hop] at hx;simp only[Op.operands,aOs];exact hp _ _ hx
   case buildSlice t n ps=>rw[hop] at hx;simp only[Op.operands,aOs];exact hp _ _ hx
   all_goals (rw[hop] at hx;simp_all [rJ,Op.operands])
  have: ∀(l:List Operand),(∀x∈l,x∈o.op.operands)->zZ s'.env l=zZ s.env l:=by
   intro l
   induction l with
   |nil=>intro _;rfl
   |cons x l ih=>intro h;simp only[zZ,hop x (h x (by simp)),ih (fun y hy=>h y (aMH _ hy))]
  exact this _ hsub
 have hpl: ∀{e0:pI},sR T Γ o.type (fun x=>vX (sK s.env x)) s.nb s.H o.op=some e0->e0.rds=e.rds->sR T Γ o.type (fun x=>vX (sK s'.env x)) s'.nb s'.H o.op=some e0:=by
  intro e0 h1 h2;rw[aE7 (ρ:=fun x=>vX (sK s.env x)) (ρ':=fun x=>vX (sK s'.env x)) o.op (fun x hx=>by simp only[hop x hx]),hn];exact aFe h1 (by rw[h2];exact hH)
 unfold AI at h⊢;cases hg:o.guard with
 |none=>
  rw[hg] at h;simp only at h⊢;by_cases hpk: ∃c x y,o.op= .pick c x y
  ·obtain⟨c,x,y,hp⟩:=hpk;rw[hp] at h⊢;simp only[J0] at h⊢;rw[hop c (by rw[hp];simp [Op.operands]),hop x (by rw[hp];simp [Op.operands]),hop y (by rw[hp];simp [Op.operands])];exact h
  ·have e1: ∀s,J0 T Γ o s o.op=IY (wV true (zZ s.env (rJ o.op))) (sR T Γ o.type (fun x=>vX (sK s.env x)) s.nb s.H o.op):=by
    intro s;cases ho:o.op<;>first|rfl|(exact absurd ⟨_,_,_,ho⟩ hpk)
   rw[e1] at h⊢;rw[hops];cases hp0:sR T Γ o.type (fun x=>vX (sK s.env x)) s.nb s.H o.op with
   |none=>rw[hp0] at h;cases h
   |some e0=>
    rw[hp0] at h;simp only[IY,aMt] at h;rw[hpl hp0 (by rw[<-h])];simp only[IY,h]
 |some jb=>
  obtain⟨j,b⟩:=jb;rw[hg] at h;simp only at h⊢;have hgu:D3 s'.env b (B6 ops.toList j)=D3 s.env b (B6 ops.toList j):=by
   rw[WB];cases hd:(ops.toList[j]?).bind (·.dst) with
   |none=>rfl
   |some t=>
    simp only[D3];rw[ht t (by
     simp only[Oper.looksAt,hg,aM4];right;have:(ops[j]?).bind (·.dst)=some t:=by simpa using hd
     rw[this];simp)]
  rw[hgu];cases hG:D3 s.env b (B6 ops.toList j) with
  |none=>rw[hG] at h;cases h
  |some G=>
   rw[hG] at h;by_cases hpk: ∃c x y,o.op= .pick c x y
   ·obtain⟨c,x,y,hp⟩:=hpk;rw[hp] at h⊢;simp only[IZ] at h⊢;rw[hop c (by rw[hp];simp [Op.operands]),hop x (by rw[hp];simp [Op.operands]),hop y (by rw[hp];simp [Op.operands])];exact h
   have e1: ∀s,IZ T Γ o s (some G) o.op=EY G (wV G (zZ s.env (rJ o.op))) (sR T Γ o.type (fun x=>vX (sK s.env x)) s.nb s.H o.op):=by
    intro s;cases ho:o.op<;>first|rfl|(exact absurd ⟨_,_,_,ho⟩ hpk)
   rw[e1] at h⊢;rw[hops];cases hp0:sR T Γ o.type (fun x=>vX (sK s.env x)) s.nb s.H o.op with
   |none=>rw[hp0] at h;cases h
   |some e0=>
    rw[hp0] at h;have hrd:e0.rds=e.rds:=by
     unfold EY at h;split at h
     ·rename_i heq;simp only[aMt] at h heq;subst heq;rw[<-h]
     ·rename_i heq;simp only[aMt] at h heq;subst heq;rw[<-h]
     ·cases h
    rw[hpl hp0 hrd];exact h
def tZ {α:Type}(p:Nat->Bool) (wr:Nat->Option α) (b:α):Nat->α
 |0=>b
 |k+1=>if p k=true then(wr k).getD (tZ p wr b k) else tZ p wr b k
theorem JG {α:Type}{p q:Nat->Bool}{wr:Nat->Option α}{b:α}: ∀{n:Nat},(∀j,j<n->wr j≠none->p j=q j)->tZ p wr b n=tZ q wr b n
 |0,_=>rfl
 |n+1,h=>by
  simp only[tZ];have ih:=JG (p:=p) (q:=q) (wr:=wr) (b:=b) (n:=n) (fun j hj=>h j (by omega));cases hw:wr n with
  |none=>simp [ih]
  |some v=>rw[h n (by omega) (by rw[hw];simp),ih]
theorem a7e {α:Type}{wr:Nat->Option α}{b:α}{i:Nat}: ∀{n:Nat},i<=n->tZ (fun j=>decide (j<i)) wr b n=tZ (fun _=>true) wr b i
 |0,h=>by
  have:i=0:=by omega
  subst this;rfl
 |n+1,h=>by
  by_cases hi:i=n+1
  ·subst hi;exact JG (fun j hj _=>by simp [hj])
  ·have: ¬n<i:=by omega
   simp only[tZ];rw[if_neg (by simp [this])];exact a7e (by omega)
theorem WN {α:Type}{p q:Nat->Bool}{wr:Nat->Option α}{b:α}{i:Nat}(hi:p i=false) (hq: ∀j,q j=if j=i then true else p j): ∀{n:Nat},i<n->(∀j,i<j->j<n->p j=true->wr j=none\/wr i=none)->tZ q wr b n=(wr i).getD (tZ p wr b n)
 |0,h,_=>by omega
 |n+1,h,hd=>by
  simp only[tZ];by_cases hn:n=i
  ·subst hn;rw[if_pos (by rw[hq];simp),if_neg (by simp [hi])];rw[JG (p:=q) (q:=p) (fun j hj _=>by rw[hq,if_neg (by omega)])]
  ·have ih:=WN (b:=b) hi hq (n:=n) (by omega) (fun j h1 h2=>hd j h1 (by omega));rw[hq,if_neg hn,ih];by_cases hp:p n=true
   ·rw[if_pos hp,if_pos hp];rcases hd n (by omega) (by omega) hp with h1|h1
    ·rw[h1];rfl
    ·rw[h1];rfl
   ·rw[if_neg hp,if_neg hp]
theorem WO {α:Type}{p:Nat->Bool}{wr:Nat->Option α}{b:α}: ∀(k:Nat),tZ p wr b (k+1)=tZ (fun j=>p (j+1)) (fun j=>wr (j+1)) (if p 0=true then(wr 0).getD b else b) k
 |0=>rfl
 |k+1=>by
  rw[tZ,WO k];rfl
theorem WP {rds:List Nat}{i:Nat}: ∀{u:List (Nat×p8)},i∈pE (J1 rds u)↔i∈pE u/\B7 i rds=false
 |[]=>by simp [J1,pE]
 |(j,b)::u=>by
  simp only[J1];cases h:B7 j rds with
  |true=>
   rw[if_pos rfl,WP (u:=u)];simp only[pE,aMK];constructor
   ·rintro⟨h1,h2⟩;exact⟨.inr h1,h2⟩
   ·rintro⟨rfl|h1,h2⟩
    ·rw[h] at h2;cases h2
    ·exact⟨h1,h2⟩
  |false=>
   rw[if_neg (by simp)];simp only[pE,aMK,WP (u:=u)];constructor
   ·rintro(rfl|⟨h1,h2⟩)
    ·exact⟨.inl rfl,h⟩
    ·exact⟨.inr h1,h2⟩
   ·rintro⟨rfl|h1,h2⟩
    ·exact .inl rfl
    ·exact .inr ⟨h1,h2⟩
theorem QX {e:pI}{i:Nat}:i∈pE (AJ e)↔i∈pE e.upd/\B7 i e.rds=false:=WP
theorem a7f {i:Nat}: ∀{l:List Nat},B7 i l=true->i∈l
 |[],h=>by cases h
 |j::l,h=>by
  simp only[B7] at h;split at h
  ·rename_i e;subst e;exact aMO
  ·exact aMH _ (a7f h)
theorem a7g {H U:List (Nat×p8)}{rds:List Nat}{i:Nat}(h:B7 i rds=true): ∀{u:List (Nat×p8)},i∈pE u->(pD U i=pD H i)∈GL H U rds u
 |[],hi=>by cases hi
 |(j,b)::u,hi=>by
  simp only[GL];simp only[pE,aMK] at hi;rcases hi with rfl|hi
  ·rw[if_pos h];exact aMO
  ·have:=a7g (H:=H) (U:=U) h hi;split
   ·exact aMH _ this
   ·exact this
theorem aFg {H:List (Nat×p8)}{e:pI}(hs: ∀p∈GL H e.upd e.rds e.upd,p) {i:Nat}(h1:i∈pE e.upd) (h2:i∉pE (AJ e)):pD e.upd i=pD H i/\i∈e.rds:=by
 have h:B7 i e.rds=true:=by
  cases h3:B7 i e.rds with
  |true=>rfl
  |false=>exact absurd (QX.2 ⟨h1,h3⟩) h2
 exact⟨hs _ (a7g h h1),a7f h⟩
def z8 (os:List Oper) (es:List pI) (t j:Nat):Option pB:=
 match os[j]?,es[j]? with
 |some o,some e=>if o.dst=some t then some e.slot else none
 |_,_=>none
def zA (es:List pI) (id j:Nat):Option (Option p8):=
 match es[j]? with
 |some e=>if id∈pE (AJ e) then some (pD e.upd id) else none
 |none=>none
theorem WQ {id:Nat}{H:qQ}: ∀{u:List (Nat×p8)},pD (pN u H) id=if id∈pE u then pD u id else pD H id
 |[]=>by simp [pN,pE]
 |(k,b)::u=>by
  simp only[pN,pD,pE,aMK];by_cases h:k=id
  ·subst h;simp
  ·rw[if_neg h,if_neg h,WQ (u:=u)];have:(id=k\/id∈pE u)↔id∈pE u:=⟨fun h'=>h'.resolve_left (Ne.symm h),.inr⟩;simp only[this]
theorem a7h {d:Option Tmp}{s:pB}{env:List (Nat×pB)}{t:Nat}:lk (sC d s env) t=if d=some t then s else lk env t:=by
 cases d with
 |none=>simp [sC]
 |some d=>simp only[sC,lk,aMt]
structure aFh (T:rP) (Γ:t6) (ops:List Oper) (os:List Oper) (es:List pI) (s:St) (y:uO) (k:Nat) (o:Oper) (e:pI) (sk:St):Prop where
 ev:AI T Γ ops o sk=some e
 nb:sk.nb=s.nb+32*k
 dst:EZ s.N o.dst=true
 ids:F0 (s.nb+32*k+32) e.upd=true
 side: ∀p∈e.side,p∈y.side
 env: ∀t,lk sk.env t=tZ (fun _=>true) (z8 os es t) (lk s.env t) k
 heap: ∀id,pD sk.H id=tZ (fun _=>true) (zA es id) (pD s.H id) k
 same: ∀id,id∈pE e.upd->id∉pE (AJ e)->pD e.upd id=pD sk.H id/\id∈e.rds
structure a7i (T:rP) (Γ:t6) (ops:List Oper) (os:List Oper) (es:List pI) (s:St) (y:uO):Prop where
 len:es.length=os.length
 nb:y.s.nb=s.nb+32*os.length
 step: ∀k o e,os[k]? =some o->es[k]? =some e->∃sk,aFh T Γ ops os es s y k o e sk
 env: ∀t,lk y.s.env t=tZ (fun _=>true) (z8 os es t) (lk s.env t) os.length
 heap: ∀id,pD y.s.H id=tZ (fun _=>true) (zA es id) (pD s.H id) os.length
theorem a7j {T:rP}{Γ:t6}{ops:List Oper}: ∀{l:List Oper}{x y:uO},uP T Γ ops l (some x)=some y->(∀p∈y.side,p)->∃es:List pI,y.es=es.reverse++x.es/\a7i T Γ ops l es x.s y
 |[],x,y,h,_=>by
  simp only[uP,aMt] at h;subst h;exact⟨[],rfl,rfl,rfl,fun k o e h=>by simp at h,fun _=>rfl,fun _=>rfl⟩
 |o::l,x,y,h,hsy=>by
  obtain⟨e,h1,h2,h3,h4⟩:=WI h;obtain⟨es,h5,h6⟩:=a7j h4 hsy;have hsame: ∀{i:Nat},i∈pE e.upd->i∉pE (AJ e)->pD e.upd i=pD x.s.H i/\i∈e.rds:=fun h1 h2=>aFg (fun p hp=>hsy p ((GV h4).1 p (v8.2 (.inr (v8.2 (.inl hp)))))) h1 h2;have envs: ∀t k,tZ (fun _=>true) (z8 (o::l) (e::es) t) (lk x.s.env t) (k+1)=tZ (fun _=>true) (z8 l es t) (lk (sC o.dst e.slot x.s.env) t) k:=fun t k=>by
   rw[WO,if_pos rfl,a7h];have:(z8 (o::l) (e::es) t 0).getD (lk x.s.env t)=if o.dst=some t then e.slot else lk x.s.env t:=by
    simp only[z8,aMY];split<;>rfl
   rw[this];rfl
  have heaps: ∀id k,tZ (fun _=>true) (zA (e::es) id) (pD x.s.H id) (k+1)=tZ (fun _=>true) (zA es id) (pD (pN e.upd x.s.H) id) k:=fun id k=>by
   rw[WO,if_pos rfl,WQ];have:(zA (e::es) id 0).getD (pD x.s.H id)=if id∈pE e.upd then pD e.upd id else pD x.s.H id:=by
    simp only[zA,aMY];by_cases h7:id∈pE (AJ e)
    ·rw[if_pos h7,if_pos (QX.1 h7).1];rfl
    ·rw[if_neg h7];by_cases h8:id∈pE e.upd
     ·rw[if_pos h8,(hsame h8 h7).1];rfl
     ·rw[if_neg h8];rfl
   rw[this];rfl
  refine⟨e::es,by rw[h5];simp,by simp [h6.len],?_,?_,fun t=> ?_,fun id=> ?_⟩
  ·have:=h6.nb;simp only at this;rw[this];simp only[aMv];omega
  ·intro k o' e' ho he;cases k with
   |zero=>
    simp only[aMY,aMt] at ho he;subst ho;subst he;exact⟨x.s,h1,rfl,h2,h3,fun p hp=>(GV h4).1 p (v8.2 (.inr (v8.2 (.inr hp)))),fun _=>rfl,fun _=>rfl,fun id=>hsame⟩
   |succ k=>
    simp only[aNd] at ho he;obtain⟨sk,q⟩:=h6.step k o' e' ho he;refine⟨sk,q.ev,by rw[q.nb];simp only;omega,q.dst,?_,q.side,fun t=>by rw[q.env t,envs],fun id=>by rw[q.heap id,heaps],q.same⟩;have:=q.ids;simp only at this;rw[show x.s.nb+32*(k+1)+32=x.s.nb+32+32*k+32 by omega];exact this
  ·rw[aMv,envs];exact h6.env t
  ·rw[aMv,heaps];exact h6.heap id
theorem a7k {ops:Array Oper}{bs:List Nat}{nb i:Nat}{o:Oper}{e:pI}: ∀{ps:List Oper}{fs:List pI}{j:Nat},PV ops bs nb i o e ps fs j=true->∀k p f,ps[k]? =some p->fs[k]? =some f->
  (bs.getD (j+k) 0).testBit i=true\/(o.apart ops p=true/\D4 e f=true/\GM (nb+32*i) f.upd=true)
 |p::ps,f::fs,j,h,k,p',f',hp,hf=>by
  simp only[PV,aMz,aNH] at h;cases k with
  |zero=>
   simp only[aMY,aMt] at hp hf;subst hp;subst hf;exact h.1.imp id (fun h=>⟨h.1.1,h.1.2,h.2⟩)
  |succ k=>
   simp only[aNd] at hp hf;have:=a7k h.2 k p' f' hp hf;rw[show j+(k+1)=j+1+k by omega];exact this
 |[],_,_,_,_,_,_,hp,_=>by simp at hp
 |_::_,[],_,_,_,_,_,_,hf=>by simp at hf
theorem WR {ops:Array Oper}{bs:List Nat}{nb:Nat}: ∀{os:List Oper}{es:List pI}{m:Nat},PW ops bs nb os es m=true->∀i j o e p f,i<j->os[i]? =some o->es[i]? =some e->os[j]? =some p->es[j]? =some f->
  (bs.getD (m+j) 0).testBit (m+i)=true\/(o.apart ops p=true/\D4 e f=true/\GM (nb+32*(m+i)) f.upd=true)
 |o'::os,e'::es,m,h,i,j,o,e,p,f,hij,ho,he,hp,hf=>by
  simp only[PW,aMz] at h;obtain⟨j,rfl⟩: ∃k,j=k+1:=⟨j-1,by omega⟩;simp only[aNd] at hp hf;cases i with
  |zero=>
   simp only[aMY,aMt] at ho he;subst ho;subst he;have:=a7k h.1 j p f hp hf;rw[show m+(j+1)=m+1+j by omega];exact this
  |succ i=>
   simp only[aNd] at ho he;have:=WR h.2 i j o e p f (by omega) ho he hp hf;rw[show m+(j+1)=m+1+j by omega,show m+(i+1)=m+1+i by omega];exact this
 |[],_,_,_,_,_,_,_,_,_,_,ho,_,_,_=>by simp at ho
 |_::_,[],_,_,_,_,_,_,_,_,_,_,he,_,_=>by simp at he
theorem a7l: ∀{os:List Oper}{m:Nat},PX os m=true->∀i o,os[i]? =some o->∀e∈o.after,Region.binds .any e=true->e.on<m+i
 |o'::os,m,h,i,o,ho,e,he,hb=>by
  simp only[PX,aMz] at h;cases i with
  |zero=>
   simp only[aMY,aMt] at ho;subst ho;have:=aNa.1 h.1 e (by simpa using he);simpa[hb] using this
  |succ i=>
   simp only[aNd] at ho;have:=a7l h.2 i o ho e he hb;omega
 |[],_,_,_,_,ho,_,_,_=>by simp at ho
theorem QY {l:List Nat}: ∀{u:List (Nat×p8)},LR u l=false->∀i,i∈pE u->i∉l
 |(k,b)::u,h,i,hi=>by
  simp only[LR,aNC] at h;simp only[pE,aMK] at hi;rcases hi with rfl|hi
  ·simpa using h.1
  ·exact QY h.2 i hi
theorem WS {a b:pI}(h:D4 a b=true):(∀i∈pE (AJ a),i∉b.rds/\i∉pE b.upd)/\(∀i∈pE (AJ b),i∉a.rds):=by
 simp only[D4,aMz,aMV] at h;exact⟨fun i hi=>⟨fun h1=>QY h.1 i hi (v8.2 (.inl h1)),fun h1=>QY h.1 i hi (v8.2 (.inr h1))⟩,fun i hi=>QY h.2 i hi⟩
theorem a7m {lo:Nat}: ∀{u:List (Nat×p8)},GM lo u=true->∀i∈pE u,i<lo\/lo+32<=i
 |(k,b)::u,h,i,hi=>by
  simp only[GM,aMz,aNH,aMw] at h;simp only[pE,aMK] at hi;rcases hi with rfl|hi
  ·exact h.1
  ·exact a7m h.2 i hi
def WT (os:List Oper) (p:Nat->Bool):Prop:= ∀j o,os[j]? =some o->p j=true->∀e∈o.after,Region.binds .any e=true->p e.on=true
theorem a7n {p:Nat->Bool}{acc:Array Nat}(hacc: ∀i j,(acc.getD i 0).testBit j=true->p i=true->p j=true) {i:Nat}: ∀{es:List Edge}{s:Nat},(s.testBit i=true->p i=true)->(∀e∈es,Region.binds .any e=true->p e.on=true)->
  (es.foldl (fun s e=>if Region.binds .any e then s|||2^e.on|||acc.getD e.on 0 else s) s).testBit i=true->p i=true
 |[],s,hs,_,h=>hs h
 |e::es,s,hs,he,h=>by
  simp only[List.foldl_cons] at h;refine a7n hacc (es:=es) (fun h1=> ?_) (fun e' h'=>he e' (aMH _ h')) h;split at h1
  ·rename_i hb;simp only[Nat.testBit_or,aNH,Nat.testBit_two_pow,aMw] at h1;rcases h1 with(h1|h1) |h1
   ·exact hs h1
   ·rw[<-h1];exact he e (by simp) hb
   ·exact hacc _ _ h1 (he e (by simp) hb)
  ·exact hs h1
theorem a7o {p:Nat->Bool}: ∀{os:List Oper}{acc:Array Nat},(∀i j,(acc.getD i 0).testBit j=true->p i=true->p j=true)->(∀j o,os[j]? =some o->p (acc.size+j)=true->∀e∈o.after,Region.binds .any e=true->p e.on=true)->
  ∀i j,((os.foldl (fun acc o=>acc.push (o.after.foldl (fun s e=>if Region.binds .any e then s|||2^e.on|||acc.getD e.on 0 else s) 0)) acc).getD i 0).testBit j=true->p i=true->p j=true
 |[],acc,hacc,_,i,j,h,hp=>hacc i j h hp
 |o::os,acc,hacc,hos,i,j,h,hp=>by
  simp only[List.foldl_cons] at h;refine a7o (os:=os) (fun i j h hp=> ?_) (fun k o' ho hk=> ?_) i j h hp
  ·rw[aM2,Array.getElem?_push] at h;split at h
   ·rename_i hi;simp only[aNZ] at h;rw[<-aOA] at h;refine a7n hacc (es:=o.after.toList) (s:=0) (fun h=>by simp at h) (fun e he hb=>hos 0 o rfl (by rw[hi] at hp;exact hp) e (by simpa using he) hb) h
   ·rw[<-aM2] at h;exact hacc i j h hp
  ·refine hos (k+1) o' ho ?_;rw[Array.size_push] at hk;rw[show acc.size+(k+1)=acc.size+1+k by omega];exact hk
theorem a7p {ops:Array Oper}{p:Nat->Bool}(hp:WT ops.toList p) {i j:Nat}(h:((Region.before ops).toList.getD i 0).testBit j=true) (hi:p i=true):p j=true:=by
 refine a7o (os:=ops.toList) (acc:= #[]) (p:=p) (fun i j h=>by simp at h) (fun j o ho hj=>hp j o ho (by simpa using hj)) i j ?_ hi;unfold Region.before at h;rw[<-aOA] at h;rw[aM2,<-aNy,<-aMP];exact h
def AN (l:Array Bool):Nat->Nat
 |0=>0
 |k+1=>AN l k+if l.getD k false=true then 0 else 1
theorem a7q {l l':Array Bool}: ∀{n:Nat},(∀j,j<n->l'.getD j false=l.getD j false)->AN l' n=AN l n
 |0,_=>rfl
 |n+1,h=>by simp only[AN];rw[a7q (fun j hj=>h j (by omega)),h n (by omega)]
theorem a7r {l:Array Bool}: ∀{n:Nat},AN l n=0->∀j,j<n->l.getD j false=true
 |n+1,h,j,hj=>by
  simp only[AN] at h;by_cases hn:l.getD n false=true
  ·by_cases hjn:j=n
   ·subst hjn;exact hn
   ·exact a7r (n:=n) (by omega) j (by omega)
  ·rw[if_neg hn] at h;omega
theorem DB {l:Array Bool}{i j:Nat}(hi:i<l.size):(l.setIfInBounds i true).getD j false=if j=i then true else l.getD j false:=by
 by_cases h:j=i
 ·subst h;rw[if_pos rfl,aM2,Array.getElem?_setIfInBounds_self_of_lt hi];rfl
 ·rw[if_neg h,aM2,aNU (Ne.symm h),<-aM2]
theorem a7s {l:Array Bool}{i:Nat}(hi:i<l.size) (hf:l.getD i false=false): ∀{n:Nat},i<n->AN (l.setIfInBounds i true) n+1=AN l n
 |n+1,h=>by
  simp only[AN];by_cases hn:n=i
  ·subst hn;rw[DB hi,if_pos rfl,if_pos rfl,hf,a7q (l:=l) (fun j hj=>by rw[DB hi,if_neg (by omega)])];simp
  ·rw[DB hi,if_neg hn];have:=a7s hi hf (n:=n) (by omega);omega
theorem a7t {p:Nat->Bool}: ∀{n:Nat},(∃j,j<n/\p j=false)->∃j,j<n/\p j=false/\∀k,k<j->p k=true
 |0,⟨j,h,_⟩=>by omega
 |n+1,⟨j,h,hj⟩=>by
  by_cases hs: ∃j,j<n/\p j=false
  ·obtain⟨k,h1,h2,h3⟩:=a7t hs;exact⟨k,by omega,h2,h3⟩
  ·refine⟨j,h,hj,fun k hk=> ?_⟩;cases hp:p k with
   |true=>rfl
   |false=>exact absurd ⟨k,by omega,hp⟩ hs
theorem rH.ext {g:Gh}{w:World}{H H':qQ}(h:rH g w H) (e: ∀i,pD H' i=pD H i):rH g w H':=
 ⟨fun i b hb=>h.blk i b (by rw[<-e];exact hb),fun i j bi bj b o hij h1 h2=>h.dis i j bi bj b o hij (by rw[<-e];exact h1) (by rw[<-e];exact h2),h.sl,h.tab.1,fun i b bb oo hb ho=>h.tab.2 i b bb oo (by rw[<-e];exact hb) ho⟩
theorem rY.ext {A:Nat->Nat->Prop}{L:List p8}{g0 g:Gh}{w0 w:World}{H H':qQ}(h:rY A L g0 w0 g w H) (e: ∀i,pD H' i=pD H i):rY A L g0 w0 g w H':=
 ⟨h.shut,h.fr,fun i blk b o hb=>h.perm i blk b o (by rw[<-e];exact hb),h.J,h.live,fun i u y us hi hb=>h.ty i u y us hi (by rw[<-e];exact hb),h.cur⟩
theorem a7u (g:Gh) (w:World) (d:Nat):Le g w g {w with drawn:=d}:=⟨fun _ _ h=>h,fun _ _ _=>rfl,fun _ _ h=>h,fun _ _ _ h=>h⟩
theorem rH.drawn {g:Gh}{w:World}{H:qQ}(h:rH g w H) (d:Nat):rH g {w with drawn:=d} H:=
 ⟨fun i b hb=>J5 (h.blk i b hb) (a7u g w d) rfl rfl (fun _ _ _=>⟨rfl,rfl⟩) (fun _ _=>rfl) (fun _ _ _ h=>h) (fun _ _ _ _ h=>h),h.dis,h.sl,LB h.tab.1 (Nat.le_refl _) (fun _ _=>rfl),h.tab.2⟩
theorem rY.drawn {A:Nat->Nat->Prop}{L:List p8}{g0 g:Gh}{w0 w:World}{H:qQ}(h:rY A L g0 w0 g w H) (d:Nat):rY A L g0 w0 g {w with drawn:=d} H:=
 ⟨h.shut,⟨h.fr.os,h.fr.tape,h.fr.output,h.fr.size,h.fr.blk,h.fr.cell,h.fr.new,h.fr.shape⟩,h.perm,h.J,h.live,h.ty,h.cur⟩
section
variable {B:Nat}{P:Program}{T:rP}{Γ:t6}(hT:vK P T) (hΓ:BE P Γ) {A:Nat->Nat->Prop}{L:List p8}{g0:Gh}{w0:World}{Q:Exit->Act->World->Prop}
structure Mid (B:Nat) (A:Nat->Nat->Prop) (L:List p8) (g0:Gh) (w0:World) (ops:Array Oper) (es:List pI) (s:St) (listed:Array Bool) (g:Gh) (w:World) (a:Act) (env:List (Nat×pB)) (H:qQ):Prop where
 size:listed.size=ops.size
 closed:WT ops.toList (fun j=>listed.getD j false)
 eok:z7 g w env a.tmps
 look: ∀t,lk env t=tZ (fun j=>listed.getD j false) (z8 ops.toList es t) (lk s.env t) ops.size
 heap:rH g w H
 get: ∀id,pD H id=tZ (fun j=>listed.getD j false) (zA es id) (pD s.H id) ops.size
 tmps:a.tmps.size=s.N
 def_:xI B w a.defers
 good:rY A L g0 w0 g w H
 free: ∀j,j<ops.size->listed.getD j false=false->∀id,s.nb+32*j<=id->id<s.nb+32*j+32->g.J id=none/\∀n,g.cur id n=none
 top: ∀id,s.nb+32*ops.size<=id->g.J id=none/\∀n,g.cur id n=none
include hT hΓ
theorem aFi {ro:Option Nat}{ops:Array Oper}{es:List pI}{s:St}{y:uO}(run:a7i T Γ ops.toList ops.toList es s y) (hs: ∀p∈y.side,p) (hchk:C7 ops s.nb es=true)
  (hQ: ∀g a w env H,z7 g w env a.tmps->(∀t,lk env t=lk y.s.env t)->rH g w H->(∀id,pD H id=pD y.s.H id)->a.tmps.size=s.N->xI B w a.defers->rY A L g0 w0 g w H->(∀id,s.nb+32*ops.size<=id->g.J id=none/\∀n,g.cur id n=none)->Q .normal a w):
  ∀(fuel:Nat) (listed:Array Bool) (g:Gh) (w:World) (a:Act) (env:List (Nat×pB)) (H:qQ),AN listed ops.size<=fuel->Mid B A L g0 w0 ops es s listed g w a env H->wpAnyIn (CC ro) 0 P .any ops Q fuel listed a w:=by
 simp only[C7,aMz] at hchk;obtain⟨haf,hfr⟩:=hchk;have hsz:ops.toList.length=ops.size:=aM1;have done: ∀(listed:Array Bool) (g:Gh) (w:World) (a:Act) (env:List (Nat×pB)) (H:qQ),Mid B A L g0 w0 ops es s listed g w a env H->(∀j,j<ops.size->listed.getD j false=true)->Q .normal a w:=by
  intro listed g w a env H m hall;refine hQ g a w env H m.eok (fun t=> ?_) m.heap (fun id=> ?_) m.tmps m.def_ m.good m.top
  ·rw[m.look t,run.env t,hsz];exact JG (fun j hj _=>hall j hj)
  ·rw[m.get id,run.heap id,hsz];exact JG (fun j hj _=>hall j hj)
 have stuck: ∀(listed:Array Bool),listed.size=ops.size->Region.ready .any ops listed=[]->∀j,j<ops.size->listed.getD j false=true:=by
  intro listed hls hr j hj;cases hp:listed.getD j false with
  |true=>rfl
  |false=>
   obtain⟨k,h1,h2,h3⟩:=a7t (p:=fun j=>listed.getD j false) ⟨j,hj,hp⟩;have:k∈Region.ready .any ops listed:=by
    rw[mem_ready];refine⟨?_,ops[k],by simp [h1],fun e he hb=> ?_⟩
    ·have h2:listed.getD k false=false:=h2;rw[aM2] at h2⊢;rw[aOp (by omega)] at h2⊢;exact h2
    ·have:=a7l haf k ops[k] (by simp [h1]) e he hb;exact h3 e.on (by omega)
   rw[hr] at this;cases this
 intro fuel
 induction fuel with
 |zero=>
  intro listed g w a env H hu m;have hall:=a7r (l:=listed) (n:=ops.size) (by omega);refine⟨?_,done listed g w a env H m hall⟩;cases hr:Region.ready .any ops listed with
  |nil=>rfl
  |cons i r=>
   have:i∈Region.ready .any ops listed:=by rw[hr];simp
   obtain⟨h0,o,ho,_⟩:=mem_ready.1 this;have hi:i<ops.size:=(aMQ.1 ho).1;have:=hall i hi;rw[aM2] at this h0;rw[aOp (by rw[m.size];exact hi)] at this h0;simp at this h0;rw[this] at h0;cases h0
 |succ fuel ih=>
  intro listed g w a env H hu m;refine⟨fun hr=>done listed g w a env H m (stuck listed m.size hr),fun i hi=> ?_⟩;obtain⟨h0,o,ho,hall⟩:=mem_ready.1 hi;have hin:i<ops.size:=(aMQ.1 ho).1;have hil:i<listed.size:=by rw[m.size];exact hin
  have hpi:listed.getD i false=false:=by
   rw[aM2] at h0⊢;rw[aOp hil] at h0⊢;exact h0
  have hoL:ops.toList[i]? =some o:=by simpa using ho
  obtain⟨e,he⟩: ∃e,es[i]? =some e:=⟨es[i]'(by rw[run.len,hsz];exact hin),by simp⟩;obtain⟨sk,st⟩:=run.step i o e hoL he;have hcl':WT ops.toList (fun j=>(listed.setIfInBounds i true).getD j false):=by
   intro j o' ho' hj ed hed hb;simp only[DB hil] at hj⊢;by_cases hji:j=i
   ·subst hji;rw[hoL] at ho';obtain rfl:=aMy ho';have:=hall ed hed hb;split
    ·rfl
    ·exact this
   ·rw[if_neg hji] at hj;have:=m.closed j o' ho' hj ed hed hb;split
    ·rfl
    ·exact this
  have hbef: ∀j,((Region.before ops).toList.getD i 0).testBit j=true->j≠i->listed.getD j false=true:=by
   intro j hj hne;have:=a7p hcl' hj (by simp only[DB hil];simp);simp only[DB hil,if_neg hne] at this;exact this
  have haft: ∀j,((Region.before ops).toList.getD j 0).testBit i=true->listed.getD j false=true->False:=by
   intro j hj hl;have:=a7p m.closed hj hl;rw[hpi] at this;cases this
  have pairLt: ∀j p f,j<i->ops.toList[j]? =some p->es[j]? =some f->listed.getD j false=true\/(p.apart ops o=true/\D4 f e=true/\GM (s.nb+32*j) e.upd=true):=by
   intro j p f hji hp hf;rcases WR hfr j i p f o e hji hp hf hoL he with h1|h1
   ·rw[aM3,aM3] at h1;exact .inl (hbef j h1 (by omega))
   ·rw[aM3] at h1;exact .inr h1
  have pairGt: ∀j p f,i<j->ops.toList[j]? =some p->es[j]? =some f->listed.getD j false=true->o.apart ops p=true/\D4 e f=true:=by
   intro j p f hij hp hf hl;rcases WR hfr i j o e p f hij hoL he hp hf with h1|h1
   ·rw[aM3,aM3] at h1;exact(haft j h1 hl).elim
   ·exact⟨h1.1,h1.2.1⟩
  have same: ∀{α:Type}(wr:Nat->Option α) (b:α),(∀j p f,j<i->ops.toList[j]? =some p->es[j]? =some f->wr j≠none->p.apart ops o=true->D4 f e=true->False)->
    (∀j p f,i<j->ops.toList[j]? =some p->es[j]? =some f->wr j≠none->o.apart ops p=true->D4 e f=true->False)->(∀j,wr j≠none->∃f,es[j]? =some f)->
    tZ (fun j=>listed.getD j false) wr b ops.size=tZ (fun _=>true) wr b i:=by
   intro α wr b hlt hgt hex;rw[<-a7e (n:=ops.size) (by omega)];refine JG (fun j hj hw=> ?_);obtain⟨f,hf⟩:=hex j hw;have hpj:ops.toList[j]? =some ops[j]:=by simp [hj]
   rcases Nat.lt_trichotomy j i with h1|h1|h1
   ·rw[aNk h1];rcases pairLt j _ f h1 hpj hf with h2|h2
    ·exact h2
    ·exact(hlt j _ f h1 hpj hf hw h2.1 h2.2.1).elim
   ·subst h1;simp [hpi]
   ·have: ¬j<i:=by omega
    rw[decide_eq_false this];cases hl:listed.getD j false with
    |false=>rfl
    |true=>
     obtain⟨h2,h3⟩:=pairGt j _ f h1 hpj hf hl;exact(hgt j _ f h1 hpj hf hw h2 h3).elim
  have exS: ∀t j,z8 ops.toList es t j≠none->∃f,es[j]? =some f:=by
   intro t j h;unfold z8 at h;cases hf:es[j]? with
   |none=>rw[hf] at h;exact absurd (by split<;>first|rfl|(rename_i h1;cases h1)) h
   |some f=>exact⟨f,rfl⟩
  have exH: ∀t j,zA es t j≠none->∃f,es[j]? =some f:=by
   intro t j h;unfold zA at h;cases hf:es[j]? with
   |none=>rw[hf] at h;exact absurd rfl h
   |some f=>exact⟨f,rfl⟩
  have dS: ∀t j p f,ops.toList[j]? =some p->es[j]? =some f->z8 ops.toList es t j≠none->p.dst=some t:=by
   intro t j p f hp hf h;unfold z8 at h;rw[hp,hf] at h;simp only at h;split at h
   ·assumption
   ·exact absurd rfl h
  have dH: ∀id j f,es[j]? =some f->zA es id j≠none->id∈pE (AJ f):=by
   intro id j f hf h;unfold zA at h;rw[hf] at h;simp only at h;split at h
   ·assumption
   ·exact absurd rfl h
  have hrds: ∀id∈e.rds,pD H id=pD sk.H id:=fun id hid=>by
   rw[m.get id,st.heap id];refine same _ _ (fun j p f _ hp hf hw _ ha=> ?_) (fun j p f _ hp hf hw _ ha=> ?_) (exH id)
   ·exact((WS ha).1 id (dH id j f hf hw)).1 hid
   ·exact(WS ha).2 id (dH id j f hf hw) hid
  have hev:AI T Γ ops.toList o ⟨env,H,s.nb+32*i,s.N,s.np⟩=some e:=by
   refine aFf st.ev (fun t ht=> ?_) (fun id hid=> ?_) st.nb.symm
   ·show lk env t=_;rw[m.look t,st.env t];refine same _ _ (fun j p f _ hp hf hw ha _=> ?_) (fun j p f _ hp hf hw ha _=> ?_) (exS t)
    ·exact(Oper.apart_spec ha).1 t (dS t j p f hp hf hw) ht
    ·exact(Oper.apart_spec ha).2.2 t (dS t j p f hp hf hw) ht
   ·exact hrds id hid
  have hfresh:xW g (s.nb+32*i) e:=fun id hid hle=>m.free i hin hpi id hle (MH st.ids hid);have key:=a6S hT hΓ (ops:=ops.toList) (o:=o) (a:=a) (s:=⟨env,H,s.nb+32*i,s.N,s.np⟩) (K:=wpAnyIn (CC ro) 0 P .any ops Q fuel (listed.setIfInBounds i true)) (Q:=Q) m.eok m.heap hev (fun p hp=>hs p (st.side p hp)) hfresh (fun g' w' v k=>by
   refine ih (listed.setIfInBounds i true) g' w' (a.put o.dst v) (sC o.dst e.slot env) (pN e.upd H) ?_ ⟨by rw[Array.size_setIfInBounds];exact m.size,hcl',WH m.eok k.le k.slot m.tmps st.dst,fun t=> ?_,k.heap,fun id=> ?_,(a6W _ _ _).trans m.tmps,by rw[a6X];exact m.def_.eff m.heap k,m.good.eff k,fun j hj hjp id h1 h2=> ?_,fun id hid=> ?_⟩
   ·have:=a7s hil hpi hin;omega
   ·rw[a7h,WN (p:=fun j=>listed.getD j false) (i:=i) hpi (fun j=>by simp only[DB hil]) hin (fun j hij hj hl=> ?_),<-m.look t]
    ·unfold z8;rw[hoL,he];simp only;split<;>rfl
    ·have hpj:ops.toList[j]? =some ops[j]:=by simp [hj]
     obtain⟨f,hf⟩: ∃f,es[j]? =some f:=⟨es[j]'(by rw[run.len,hsz];exact hj),by simp⟩;obtain⟨h3,_⟩:=pairGt j _ f hij hpj hf hl;by_cases hw:z8 ops.toList es t j=none
     ·exact .inl hw
     ·right;have hd:=dS t j _ f hpj hf hw;by_cases hwi:z8 ops.toList es t i=none
      ·exact hwi
      ·have hdi:=dS t i _ e hoL he hwi;exact absurd hd ((Oper.apart_spec h3).2.1 t hdi)
   ·rw[WQ,WN (p:=fun j=>listed.getD j false) (i:=i) hpi (fun j=>by simp only[DB hil]) hin (fun j hij hj hl=> ?_),<-m.get id]
    ·unfold zA;rw[he];simp only;by_cases h7:id∈pE (AJ e)
     ·rw[if_pos h7,if_pos (QX.1 h7).1];rfl
     ·rw[if_neg h7];by_cases h8:id∈pE e.upd
      ·obtain⟨q1,q2⟩:=st.same id h8 h7;rw[if_pos h8,q1,<-hrds id q2];rfl
      ·rw[if_neg h8];rfl
    ·have hpj:ops.toList[j]? =some ops[j]:=by simp [hj]
     obtain⟨f,hf⟩: ∃f,es[j]? =some f:=⟨es[j]'(by rw[run.len,hsz];exact hj),by simp⟩;obtain⟨_,h3⟩:=pairGt j _ f hij hpj hf hl;by_cases hw:zA es id j=none
     ·exact .inl hw
     ·right;have hd:=dH id j f hf hw;by_cases hwi:zA es id i=none
      ·exact hwi
      ·have hdi:=dH id i e he hwi;exact absurd (QX.1 hd).1 ((WS h3).1 id hdi).2
   ·rw[DB hil] at hjp;have hji:j≠i:=fun h=>by rw[if_pos h] at hjp;cases hjp
    rw[if_neg hji] at hjp;have hnot:id∉pE e.upd:=by
     intro hm;have hlt:=MH st.ids hm;rcases Nat.lt_or_gt_of_ne hji with h3|h3
     ·obtain⟨f,hf⟩: ∃f,es[j]? =some f:=⟨es[j]'(by rw[run.len,hsz];exact hj),by simp⟩;rcases pairLt j ops[j] f h3 (by simp [hj]) hf with h4|h4
      ·rw[hjp] at h4;cases h4
      ·have:=a7m h4.2.2 id hm;omega
     ·omega
    have hg:=k.gho id hnot;have hb:=m.free j hj hjp id h1 h2;exact⟨hg.1.trans hb.1,fun n=>by rw[hg.2];exact hb.2 n⟩
   ·have hnot:id∉pE e.upd:=fun hm=>by have:=MH st.ids hm;omega
    have hg:=k.gho id hnot;have hb:=m.top id hid;exact⟨hg.1.trans hb.1,fun n=>by rw[hg.2];exact hb.2 n⟩)
  unfold wpOpIn;rw[ho];simp only[aN1] at key⊢;split at key
  ·rename_i hw;rw[if_pos hw];exact a61 (a60 hev) key
  ·rename_i hw;rw[if_neg hw];exact⟨fun _ _=>trivial,key⟩
theorem aFj {ro:Option Nat}(hm:P.follows .mixedOrders=true) {id:Nat}{ops:Array Oper}{s:St}{y:uO}{a:Act}{w:World}{g:Gh}(h:uP T Γ ops.toList ops.toList (some ⟨s,[],[]⟩)=some y) (hchk:C7 ops s.nb y.es.reverse=true) (hs: ∀p∈y.side,p) (hr:tJ B g w s a) (hg:rY A L g0 w0 g w s.H)
  (hQ: ∀g' a' w',tJ B g' w' y.s a'->rY A L g0 w0 g' w' y.s.H->Q .normal a' w'):(Code.region id ops true).wpIn (CC ro) 0 P Q a w:=by
 obtain⟨es,h1,run⟩:=a7j h hs;have hes:y.es.reverse=es:=by rw[h1];simp
 simp only at run;rw[hes] at hchk;have hsd:=GV h;have hrep: ∀j,(Array.replicate ops.size false).getD j false=false:=by
  intro j;rw[aM2,Array.getElem?_replicate];split<;>rfl
 have none: ∀{α:Type}(wr:Nat->Option α) (b:α) n,tZ (fun j=>(Array.replicate ops.size false).getD j false) wr b n=b:=by
  intro α wr b n
  induction n with
  |zero=>rfl
  |succ n ih=>simp only[tZ];rw[if_neg (by rw[hrep];simp)];exact ih
 have hsz:ops.toList.length=ops.size:=aM1;refine wpIn_region_any hm (aFi hT hΓ run hs hchk (fun g' a' w' env H he hl hh hgt hz hd hgd htop=> ?_) _ _ g _ a s.env s.H ?_ ⟨by simp,fun j o ho hj=> ?_,fun t=>yX (a7u g w _) (hr.env t),fun t=> ?_,hr.heap.drawn _,fun id=> ?_,hr.size,hr.def_.same (fun _ h=>h),hg.drawn _,fun j _ _ id h1 _=>hr.nb id (by omega),fun id h1=>hr.nb id (by omega)⟩)
 ·refine hQ g' a' w' ⟨fun t=>by rw[<-hl t];exact he t,hh.ext (fun i=>(hgt i).symm),by rw[hsd.2.1];exact hz,fun i hi=>htop i ?_,hd,?_⟩ (hgd.ext (fun i=>(hgt i).symm))
  ·rw[run.nb,hsz] at hi;exact hi
  ·rw[hsd.2.2,run.nb];exact aNq hr.np (Nat.le_add_right _ _)
 ·have: ∀n (l:Array Bool),AN l n<=n:=by
   intro n l
   induction n with
   |zero=>exact Nat.le_refl _
   |succ n ih=>simp only[AN];split<;>omega
  exact this _ _
 ·simp only[hrep] at hj;cases hj
 ·rw[none]
 ·exact(none _ _ _).symm
end
theorem WU: ∀{l:List Prop},qE l->∀p∈l,p
 |[p],h,q,hq=>by simp only[aME] at hq;subst hq;exact h
 |p::q::r,h,x,hx=>by
  rcases aMK.1 hx with rfl|hx
  ·exact h.1
  ·exact WU h.2 x hx
theorem a7w {p:Nat->Prop}(h: ∃n,p n): ∃n,p n/\∀m,p m->n<=m:=by
 obtain⟨n,hn⟩:=h
 induction n using Nat.strongRecOn with
 |_ n ih=>
  by_cases hs: ∃m,m<n/\p m
  ·obtain⟨m,hm,hp⟩:=hs;exact ih m hm hp
  ·exact⟨n,hn,fun m hm=>Nat.le_of_not_lt fun hlt=>hs ⟨m,hlt,hm⟩⟩
noncomputable def MI (p:Nat->Prop):Nat:=open Classical in if h: ∃n,p n then(a7w h).choose else 0
theorem QZ {p:Nat->Prop}(h: ∃n,p n):p (MI p)/\∀m,p m->MI p<=m:=by
 unfold MI;rw[aOF h];exact(a7w h).choose_spec
def CD:Exit->Option Ex
 | .normal=>some .normal
 | .exit id=>some (.exit id)
 | .ret=>some .ret
 |_=>none
def a7x (B:Nat) (A:Nat->Nat->Prop) (L:List p8) (g0:Gh) (w0:World) (Q:Ex->St->Prop) (x:Exit) (a:Act) (w:World):Prop:=
 ∃e g s,CD x=some e/\Q e s/\tJ B g w s a/\rY A L g0 w0 g w s.H/\s.np=L.length
section
variable {B:Nat}{P:Program}{T:rP}{Γ:t6}(hT:vK P T) (hΓ:BE P Γ) (hm:P.follows .mixedOrders=true) {A:Nat->Nat->Prop}{L:List p8}{g0:Gh}{w0:World}
include hT hΓ hm
theorem DC {ro:Option Nat}: ∀(c:Code) (s:St) (Q:Ex->St->Prop) (g:Gh) (a:Act) (w:World),uQ T Γ c s Q->tJ B g w s a->rY A L g0 w0 g w s.H->s.np=L.length->c.wpIn (CC ro) 0 P (a7x B A L g0 w0 Q) a w
 | .skip,s,Q,g,a,w,h,hr,hg,hn=>by
  unfold uQ at h;exact wpIn_skip ⟨.normal,g,s,rfl,h,hr,hg,hn⟩
 | .label l,s,Q,g,a,w,h,hr,hg,hn=>by
  unfold uQ at h;exact wpIn_label ⟨.normal,g,s,rfl,h,hr,hg,hn⟩
 | .exit id,s,Q,g,a,w,h,hr,hg,hn=>by
  unfold uQ at h;exact wpIn_exit ⟨.exit id,g,s,rfl,h,hr,hg,hn⟩
 | .ret,s,Q,g,a,w,h,hr,hg,hn=>by
  unfold uQ at h;exact wpIn_ret ⟨.ret,g,s,rfl,h,hr,hg,hn⟩
 | .region id ops draw,s,Q,g,a,w,h,hr,hg,hn=>by
  unfold uQ at h;cases draw with
  |false=>
   simp only[LS] at h;cases hy:uP T Γ ops.toList ops.toList (some ⟨s,[],[]⟩) with
   |none=>rw[hy] at h;cases h
   |some y=>
    rw[hy] at h;refine aE6 hT hΓ hy (WU h.1) hr hg (fun g' a' w' hr' hg'=>⟨.normal,g',y.s,rfl,h.2,hr',hg',(GV hy).2.2.trans hn⟩)
  |true=>
   simp only[LS] at h;cases hy:uP T Γ ops.toList ops.toList (some ⟨s,[],[]⟩) with
   |none=>rw[hy] at h;cases h
   |some y=>
    rw[hy] at h;simp only[a5r] at h;by_cases hc:C7 ops s.nb y.es.reverse=true
    ·rw[if_pos hc] at h;refine aFj hT hΓ hm hy hc (WU h.1) hr hg (fun g' a' w' hr' hg'=>⟨.normal,g',y.s,rfl,h.2,hr',hg',(GV hy).2.2.trans hn⟩)
    ·rw[if_neg hc] at h;cases h
 | .seq x y,s,Q,g,a,w,h,hr,hg,hn=>by
  unfold uQ at h;refine wpIn_seq (aOj (DC x s _ g a w h hr hg hn) fun e a' w' hp=> ?_);obtain⟨e',g',s',h1,h2,h3,h4,h5⟩:=hp;cases e<;>simp only[CD,aMt] at h1
  case normal=>subst h1;exact DC y s' Q g' a' w' h2 h3 h4 h5
  case exit id=>subst h1;exact⟨.exit id,g',s',rfl,h2,h3,h4,h5⟩
  case ret=>subst h1;exact⟨.ret,g',s',rfl,h2,h3,h4,h5⟩
  all_goals cases h1
 | .cond c x y,s,Q,g,a,w,h,hr,hg,hn=>by
  unfold uQ at h;have hc:=y3 hr.env c;generalize sK s.env c=sc at h hc;unfold a5y at h;split at h
  ·exact wpIn_cond_split (vL hc.1) (fun ht=>DC x s Q g a w (h.1 ht) hr hg hn) (fun ht=>DC y s Q g a w (h.2 ht) hr hg hn)
  ·obtain⟨b,hb,hp,hq⟩:=hc.1;exact wpIn_cond_split hb (fun ht=>DC x s Q g a w (h.1 (hp ht)) hr hg hn) (fun ht=>DC y s Q g a w (h.2 (hq ht)) hr hg hn)
  ·cases h
 | .block id c,s,Q,g,a,w,h,hr,hg,hn=>by
  unfold uQ at h;refine wpIn_block (aOj (DC c s _ g a w h hr hg hn) fun e a' w' hp=> ?_);obtain⟨e',g',s',h1,h2,h3,h4,h5⟩:=hp;cases e<;>simp only[CD,aMt] at h1
  case normal=>subst h1;exact⟨.normal,g',s',rfl,h2,h3,h4,h5⟩
  case exit j=>
   subst h1;simp only[GO] at h2;simp only[Exit.inBlock];split
   ·rename_i hj;rw[if_pos hj] at h2;exact⟨.normal,g',s',rfl,h2,h3,h4,h5⟩
   ·rename_i hj;rw[if_neg hj] at h2;exact⟨.exit j,g',s',rfl,h2,h3,h4,h5⟩
  case ret=>subst h1;exact⟨.ret,g',s',rfl,h2,h3,h4,h5⟩
  all_goals cases h1
 | .loop c,s,Q,g,a,w,h,hr,hg,hn=>by
  unfold uQ at h;obtain⟨k,I,μ,h0,hround⟩:=h;obtain⟨g1,k1,k2,k3,_⟩:=DA hr hg hn k
  let R:Act->World->Nat->Prop:=fun a w n=> ∃g s,I s/\μ s=n/\tJ B g w s a/\rY A L g0 w0 g w s.H/\s.np=L.length
  refine wpIn_loop (fun a w=> ∃n,R a w n) (fun a w=>MI (R a w)) ⟨_,g1,s.keep k,h0,rfl,k1,k2,k3⟩ (fun a w hI=> ?_);obtain⟨⟨g2,s2,i1,i2,i3,i4,i5⟩,_⟩:=QZ hI;refine aOj (DC c s2 _ g2 a w (hround s2 i1) i3 i4 i5) fun e a' w' hp=> ?_;obtain⟨e',g',s',h1,h2,h3,h4,h5⟩:=hp;cases e<;>simp only[CD,aMt] at h1
  case normal=>
   subst h1;obtain⟨k',j1,j2⟩:=h2;obtain⟨g3,l1,l2,l3,_⟩:=DA h3 h4 h5 k';have hR:R a' w' (μ (s'.keep k')):=⟨g3,s'.keep k',j1,rfl,l1,l2,l3⟩;refine⟨⟨_,hR⟩,Nat.lt_of_le_of_lt ((QZ ⟨_,hR⟩).2 _ hR) (by rw[<-i2];exact j2)⟩
  case exit id=>subst h1;exact⟨.exit id,g',s',rfl,h2,h3,h4,h5⟩
  case ret=>subst h1;exact⟨.ret,g',s',rfl,h2,h3,h4,h5⟩
  all_goals cases h1
 | .rangeFunc _ _ _ _,_,_,_,_,_,h,_,_,_=>by unfold uQ at h;cases h
 | .scope _,_,_,_,_,_,h,_,_,_=>by unfold uQ at h;cases h
 | .goto _,_,_,_,_,_,h,_,_,_=>by unfold uQ at h;cases h
 | .refuse _,_,_,_,_,_,h,_,_,_=>by unfold uQ at h;cases h
end
section
variable {f:St->Prop}{Q:Ex->St->Prop}{s:St}{id j:Nat}{I:St->Prop}{μ:St->Nat}{m:Nat}
theorem pM (h:f s):LV f Q .normal s:=h
theorem w5 (h:Q (.exit j) s):LV f Q (.exit j) s:=h
theorem pX (h:Q .ret s):LV f Q .ret s:=h
theorem rD (h:Q .normal s):GO id Q .normal s:=h
theorem w6 (h:Q .normal s):GO id Q (.exit id) s:=by show (if id=id then Q .normal s else Q (.exit id) s);rw[if_pos rfl];exact h
theorem qJ (h:Q .ret s):GO id Q .ret s:=h
end
@[go_sem] def qP:Nat->List pB->List (Nat×pB)
 |_,[]=>[]
 |c,s::r=>(c,s)::qP (c+1) r
@[go_sem] def u6:Nat->List p8->List (Nat×Nat)
 |_,[]=>[]
 |c,_::L=>(c,c)::u6 (c+1) L
@[go_sem] def MJ (m:List (Nat×Nat)):List pB->Prop
 |[]=>True
 |s::r=>xT m s=s/\MJ m r
@[go_sem] def MK (m:List (Nat×Nat)):List p8->Prop
 |[]=>True
 | .dead::_=>False
 |b::r=>F1 m (some b)=b/\MK m r
def qS:List p8->Prop
 |[]=>True
 | .row _ _ l n::r=>n=List.length l/\qS r
 |_::r=>qS r
theorem a7y {g:Gh}{w:World}: ∀{L:List p8},(∀(i:Nat) b,L[i]? =some b->∃j,xV g w j b)->qS L
 |[],_=>trivial
 |b::L,h=>by
  have h1:=a7y (L:=L) fun i b' hb=>h (i+1) b' (by simpa using hb);obtain⟨j,h0⟩:=h 0 b rfl;cases b with
  |row e t l n=>exact⟨h0.1.symm,h1⟩
  |_=>exact h1
def WV:List Value->Value
 |[v]=>v
 |l=> .tuple l.toArray
@[go_sem] def a7z (env:List (Nat×pB)):List Nat->List pB
 |[]=>[]
 |t::r=>lk env t::a7z env r
attribute [go_sem] pO
@[go_sem] def a7A:pB->Int
 |(.val (.int _) n,_)=>n
 |_=>0
@[go_sem] def Fin (ts:List Nat) (r:pG):Ex->St->Prop
 | .exit _,_=>False
 |_,s=> ∃k:uH,(s.keep k).H=pO 0 r.H/\a7z (s.keep k).env ts=r.ret
theorem a7B: ∀(l:List pB) (c t:Nat),lk (qP c l) t=if c<=t then(l[t-c]?).getD (.any,none) else(.any,none)
 |[],c,t=>by simp [qP,lk]
 |s::l,c,t=>by
  simp only[qP,lk];by_cases h:c=t
  ·subst h;simp
  ·rw[if_neg h,a7B l (c+1) t];by_cases h2:c<=t
   ·rw[if_pos h2,if_pos (by omega)];obtain⟨d,hd⟩: ∃d,t-c=d+1:=⟨t-c-1,by omega⟩;rw[hd,aNd,show t- (c+1)=d by omega]
   ·rw[if_neg h2,if_neg (by omega)]
theorem JH: ∀{L:List p8}{c i j:Nat},(i,j)∈u6 c L↔i=j/\c<=i/\i<c+L.length
 |[],c,i,j=>by simp only[u6,aOr,aMF,false_iff];omega
 |b::L,c,i,j=>by
  simp only[u6,aMK,aMX,JH,aMv];omega
theorem R0: ∀{L:List p8}{c:Nat},vY 0 (u6 c L)=true
 |[],_=>rfl
 |b::L,c=>by
  simp only[u6,vY,aMz];refine⟨⟨by simp,?_⟩,R0⟩;have: ∀{m:List (Nat×Nat)},(∀i j,(i,j)∈m->i≠c/\j≠c)->J2 c c m=false:=by
   intro m
   induction m with
   |nil=>intro _;rfl
   |cons q m ih=>
    intro h;obtain⟨i,j⟩:=q;have:=h i j (by simp);simp only[J2,ih (fun i j hm=>h i j (aMH _ hm)),decide_eq_false this.1,decide_eq_false this.2];rfl
  rw[this]
  ·rfl
  ·intro i j hm;obtain⟨rfl,h1,_⟩:=JH.1 hm;omega
theorem a7C {m:List (Nat×Nat)}: ∀{l:List pB},MJ m l->∀s∈l,xT m s=s
 |x::l,h,s,hs=>by
  rcases aMK.1 hs with rfl|hs
  ·exact h.1
  ·exact a7C h.2 s hs
theorem GW {m:List (Nat×Nat)}: ∀{l:List p8},MK m l->∀b∈l,F1 m (some b)=b/\b≠.dead
 |x::l,h,b,hb=>by
  cases x with
  |dead=>exact h.elim
  |cells t y ts=>
   rcases aMK.1 hb with rfl|hb
   ·exact⟨h.1,fun h=>by cases h⟩
   ·exact GW h.2 b hb
  |row e t l n=>
   rcases aMK.1 hb with rfl|hb
   ·exact⟨h.1,fun h=>by cases h⟩
   ·exact GW h.2 b hb
  |map k v l=>
   rcases aMK.1 hb with rfl|hb
   ·exact⟨h.1,fun h=>by cases h⟩
   ·exact GW h.2 b hb
  |iter s n=>
   rcases aMK.1 hb with rfl|hb
   ·exact⟨h.1,fun h=>by cases h⟩
   ·exact GW h.2 b hb
  |grow e c n=>
   rcases aMK.1 hb with rfl|hb
   ·exact⟨h.1,fun h=>by cases h⟩
   ·exact GW h.2 b hb
theorem R1 {g:Gh}{w:World}: ∀{ss:List pB}{vs:List Value},tY g w ss vs->vs.length=ss.length/\∀(i:Nat) s,ss[i]? =some s->∃v,vs[i]? =some v/\q7 g w s v
 |[],vs,h=>by rw[show vs=[] from h];exact⟨rfl,fun i s h=>by simp at h⟩
 |s::ss,vs,⟨v,vs',e,h1,h2⟩=>by
  subst e;obtain⟨h3,h4⟩:=R1 h2;refine⟨by simp [h3],fun i s' hi=> ?_⟩;cases i with
  |zero=>simp only[aMY,aMt] at hi;subst hi;exact⟨v,rfl,h1⟩
  |succ i=>simp only[aNd] at hi⊢;exact h4 i s' hi
theorem R2: ∀(L:List p8),pT L=L.length
 |[]=>rfl
 |_::L=>by simp only[pT,aMv,R2 L]
theorem aFk {g:Gh}{w:World}{args:List pB}{vals:List Value}{L:List p8}{N:Nat}(hH:rH g w (pO 0 L)) (ha:tY g w args vals) (hs:MJ (u6 0 L) args) (hb:MK (u6 0 L) L) (hN:args.length<=N):
  tJ w.heap.size (sV g 0 (u6 0 L)) w ⟨qP 0 args,pO 0 L,pT L,N,pT L⟩ {tmps:=vals.toArray++Array.replicate (N-vals.toArray.size) undef,defers:=[]}/\
  (∀i blk,L[i]? =some blk->(sV g 0 (u6 0 L)).J i=g.J i/\xV (sV g 0 (u6 0 L)) w i blk/\∀b o,qR (sV g 0 (u6 0 L)) i blk b o->qR g i blk b o):=by
 have hk:vY 0 (u6 0 L)=true:=R0;have hmem: ∀i blk,L[i]? =some blk->(i,i)∈u6 0 L:=fun i blk h=>JH.2 ⟨rfl,by omega,by have:=(aMG.1 h).1;omega⟩;have hblk: ∀i blk,L[i]? =some blk->xV (sV g 0 (u6 0 L)) w i blk/\∀b o,qR (sV g 0 (u6 0 L)) i blk b o->qR g i blk b o:=by
  intro i blk h;have hr:=(GW hb blk (List.mem_of_getElem? h)).1;have:=GU (g:=g) (w:=w) hk (hmem i blk h) (b:=some blk) (fun c hc=>by cases hc;exact hH.blk i blk (by rw[wI];exact h));rw[hr] at this;exact⟨this.1,fun b o ho=>by obtain⟨c,hc,hco⟩:=this.2 b o ho;cases hc;exact hco⟩
 obtain⟨hl,hv⟩:=R1 ha;refine⟨⟨fun t=> ?_,⟨fun i b h=> ?_,fun i j bi bj b o hij h1 h2 o1 o2=> ?_,hH.sl,hH.tab.1,fun i blk b o hg ho=>hH.tab.2 i blk b o hg ((hblk i blk (by rw[<-wI];exact hg)).2 b o ho)⟩,?_,fun i hi=> ?_,a6R _ _,Nat.le_refl _⟩,fun i blk h=>⟨(yG hk (hmem i blk h)).1,hblk i blk h⟩⟩
 ·rw[a7B,if_pos (aNm _),Nat.sub_zero];cases ht:args[t]? with
  |none=>exact⟨trivial,trivial⟩
  |some s=>
   obtain⟨v,hv1,hv2⟩:=hv t s ht;have hlt:t<vals.length:=(aMG.1 hv1).1;have:(vals.toArray++Array.replicate (N-vals.toArray.size) undef).getD t undef=v:=by
    rw[aM2,Array.getElem?_append_left (by simpa using hlt)];simp [hv1]
   simp only[aNZ];rw[this];have:=QV hk hv2;rw[a7C hs s (List.mem_of_getElem? ht)] at this;exact this
 ·rw[wI] at h;exact(hblk i b h).1
 ·rw[wI] at h1 h2;exact hH.dis i j bi bj b o hij (by rw[wI];exact h1) (by rw[wI];exact h2) ((hblk i bi h1).2 b o o1) ((hblk j bj h2).2 b o o2)
 ·simp only[aOD,Array.size_replicate,aNe];omega
 ·have hold:xJ (u6 0 L) i=none:=by
   cases ho:xJ (u6 0 L) i with
   |none=>rfl
   |some o=>
    obtain⟨rfl,_,h2⟩:=JH.1 (WF ho);have hi:pT L<=i:=hi;rw[R2] at hi;omega
  refine⟨?_,fun n=> ?_⟩
  ·show (if i<0 then g.J i else(xJ (u6 0 L) i).bind g.J)=none;rw[if_neg (by omega),hold];rfl
  ·show (if i<0 then g.cur i n else(xJ (u6 0 L) i).bind fun o=>g.cur o n)=none;rw[if_neg (by omega),hold];rfl
structure tE (B:Nat) (w w':World):Prop where
 os:w'.os=w.os
 tape:w'.tape=w.tape
 output:w'.output=w.output
 size:w.heap.size<=w'.heap.size
 blk: ∀b,b<w.heap.size->w'.heap[b]? =w.heap[b]? \/(B<=b/\NG<=b/\∃o o',w.heap[b]? =some o/\w'.heap[b]? =some o'/\D9 o=true/\D9 o'=true)
theorem a7D {w:World}{b:Nat}{ob:Obj}(hd:w.heap[b]? =some ob) (hm:D9 ob=true) (o:Nat):w.frozen? ⟨b,o,none⟩=false:=by
 unfold World.frozen?;simp only[hd];cases ob<;>first|rfl|cases hm
theorem aFl {w:World}{b:Nat}{ob:Obj}(hd:w.heap[b]? =some ob) (hm:D9 ob=true):w.shape? b=none:=by
 unfold World.shape?;simp only[hd];cases ob<;>first|rfl|cases hm
section
variable {B:Nat}{w w' w'':World}
theorem tE.refl (B:Nat) (w:World):tE B w w:=⟨rfl,rfl,rfl,Nat.le_refl _,fun _ _=> .inl rfl⟩
theorem tE.trans (h:tE B w w') (k:tE B w' w''):tE B w w'':=by
 refine⟨k.os.trans h.os,k.tape.trans h.tape,k.output.trans h.output,aNq h.size k.size,fun b hb=> ?_⟩;rcases k.blk b (aM8 hb h.size) with k1|⟨k0,k1,o,o',k2,k3,k4,k5⟩
 ·rcases h.blk b hb with h1|⟨h0,h1,o,o',h2,h3,h4,h5⟩
  ·exact .inl (k1.trans h1)
  ·exact .inr ⟨h0,h1,o,o',h2,k1.trans h3,h4,h5⟩
 ·rcases h.blk b hb with h1|⟨h0,h1,p,p',h2,h3,h4,h5⟩
  ·exact .inr ⟨k0,k1,o,o',h1▸k2,k3,k4,k5⟩
  ·exact .inr ⟨h0,h1,p,o',h2,k3,h4,k5⟩
theorem tE.cell (t:tE B w w') {b:Nat}(hb:b<w.heap.size) (o:Nat):w'.cell? ⟨b,o,none⟩=w.cell? ⟨b,o,none⟩/\w'.frozen? ⟨b,o,none⟩=w.frozen? ⟨b,o,none⟩:=by
 rcases t.blk b hb with h|⟨_,_,o1,o2,h1,h2,m1,m2⟩
 ·exact⟨aMR h,by unfold World.frozen?;simp only[h]⟩
 ·exact⟨by rw[WA h1 m1,WA h2 m2],by rw[a7D h1 m1,a7D h2 m2]⟩
theorem tE.shape (t:tE B w w') {b:Nat}{s:TypeId×Nat}(h:w.shape? b=some s):w'.shape? b=some s:=by
 have hb:b<w.heap.size:=by
  unfold World.shape? at h;cases hx:w.heap[b]? with
  |none=>rw[hx] at h;cases h
  |some _=>exact(aMQ.1 hx).1
 rcases t.blk b hb with k|⟨_,_,o1,o2,h1,h2,m1,m2⟩
 ·unfold World.shape? at h⊢;rw[k];exact h
 ·rw[aFl h1 m1] at h;cases h
theorem tE.le (t:tE B w w') {g:Gh}(hs: ∀b o,g.S b o->b<w.heap.size):Le g w g w':=⟨fun _ _ h=>h,fun b o h=>(t.cell (hs b o h) o).1,fun _ _ h=>h,fun _ _ _ h=>h⟩
theorem tE.heapOk (t:tE B w w') {g:Gh}{H:qQ}(h:rH g w H):rH g w' H:=by
 have own: ∀{i blk b o},pD H i=some blk->qR g i blk b o->w'.heap[b]? =w.heap[b]? :=fun hg ho=>by
  rcases t.blk _ (M2 (h.blk _ _ hg) ho) with k|⟨_,_,o1,o2,h1,_,m1,_⟩
  ·exact k
  ·exact(QS (h.blk _ _ hg) ho h1 m1).elim
 refine⟨fun i blk hb=>J5 (h.blk i blk hb) (t.le h.sl) rfl rfl (fun b o ho=>t.cell (M2 (h.blk i blk hb) ho) o) (fun b ho=>own hb (ho 0)) (fun _ _ _ x=>x) (fun b o s _ x=>t.shape x),h.dis,fun b o x=>aM8 (h.sl b o x) t.size,LB h.tab.1 t.size (fun b hb=> ?_),h.tab.2⟩;rcases t.blk b (aM8 hb h.tab.1.1) with k|⟨_,k,_⟩
 ·exact k
 ·omega
theorem tJ.turn {g:Gh}{s:St}{a:Act}{ds:List Deferred}(h:tJ B g w s a) (t:tE B w w') (hd:xI B w' ds):tJ B g w' s {a with defers:=ds}:=
 ⟨fun x=>yX (t.le h.heap.sl) (h.env x),t.heapOk h.heap,h.size,h.nb,hd,h.np⟩
theorem rY.turn {A:Nat->Nat->Prop}{L:List p8}{g0 g:Gh}{w0:World}{H:qQ}(h:rY A L g0 w0 g w H) (hs: ∀b o,g.S b o->b<w.heap.size) (t:tE w0.heap.size w w'):rY A L g0 w0 g w' H:=by
 refine⟨fun b o x=>⟨(h.shut b o x).1,(t.cell (hs b o (h.shut b o x).1) o).1.trans (h.shut b o x).2⟩,⟨t.os.trans h.fr.os,t.tape.trans h.fr.tape,t.output.trans h.fr.output,aNq h.fr.size t.size,fun b hb hA=> ?_,fun b o hb hA=> ?_,h.fr.new,fun b s x=> ?_⟩,h.perm,h.J,h.live,h.ty,h.cur⟩
 ·rcases t.blk b (aM8 hb h.fr.size) with k|⟨k,_⟩
  ·exact k.trans (h.fr.blk b hb hA)
  ·omega
 ·have:=t.cell (aM8 hb h.fr.size) o;have k:=h.fr.cell b o hb hA;exact⟨this.1.trans k.1,this.2.trans k.2⟩
 ·rcases h.fr.shape b s x with k|k
  ·exact .inl (t.shape k)
  ·exact .inr k
end
theorem a7E {P:Program}{fn:Func}{R:Ending->World->Prop}{A:Nat->Nat->Prop}{L:List p8}{g0 g:Gh}{w0:World}{s:St}{tmps:Array Value}: ∀(ds:List Deferred) (w:World),tJ w0.heap.size g w s {tmps:=tmps,defers:=ds}->rY A L g0 w0 g w s.H->
  (∀w',tJ w0.heap.size g w' s {tmps:=tmps,defers:=[]}->rY A L g0 w0 g w' s.H->∃v,(results fn tmps).run P w'= .ok v w'/\R (.returned v) w')->LeavesInM Fence.wide 0 P fn tmps R ds .returning w
 |[],w,hr,hg,h=>h w hr hg
 |d::ds,w,hr,hg,h=>by
  obtain⟨hnd,hall⟩:=hr.def_;obtain⟨D,rfl,h1,h2,h3⟩:=hall d aMO;have hlt:=(aMQ.1 h3).1;have t:tE w0.heap.size w (w.putObj D (.deferred none)):=by
   refine⟨rfl,rfl,rfl,by simp [World.putObj],fun b hb=> ?_⟩;by_cases e:b=D
   ·subst e;exact .inr ⟨h1,h2,_,_,h3,World.putObj_heap_same hlt,rfl,rfl⟩
   ·exact .inl (World.putObj_heap_other e)
  have hd:xI w0.heap.size (w.putObj D (.deferred none)) ds:=by
   refine⟨(List.nodup_cons.1 hnd).2,fun d' hd'=> ?_⟩;obtain⟨D',rfl,k1,k2,k3⟩:=hall d' (aMH _ hd');refine⟨D',rfl,k1,k2,?_⟩;rw[World.putObj_heap_other (fun e:D'=D=>(List.nodup_cons.1 hnd).1 (by subst e;exact hd'))];exact k3
  exact⟨by simp,.inl ⟨D,_,rfl,run_takeDeferred h3,a7E ds _ (hr.turn t hd) (hg.turn hr.heap.sl t) h⟩⟩
def Ev (R:Bool) (P:Program) (c:Code) (s:St) (Q:Ex->St->Prop):Prop:=
 ∀(ro:Option Nat),ro.isSome=R->
 ∀(A:Nat->Nat->Prop) (L:List p8) (g0:Gh) (w0:World) (g:Gh) (a:Act) (w:World) (B:Nat),B<=w0.heap.size->tJ B g w s a->rY A L g0 w0 g w s.H->s.np=L.length->c.wpIn (CC ro) 0 P (a7x B A L g0 w0 Q) a w
variable {R:Bool}
theorem a7F {P:Program}{T:rP}{Γ:t6}(hT:vK P T) (hΓ:BE P Γ) (hm:P.follows .mixedOrders=true) {c:Code}{s:St}{Q:Ex->St->Prop}(h:uQ T Γ c s Q):Ev R P c s Q:=
 fun ro hro A L g0 w0 g a w B hB hr hg hn=>DC hT hΓ hm c s Q g a w h hr hg hn
structure qG (P:Program) (T:rP) (Γ:t6):Prop where
 T:vK P T
 Γ:BE P Γ
 m:P.follows .mixedOrders=true
theorem aFm {P:Program}{c:Code}{s:St}{Q Q':Ex->St->Prop}(h:Ev R P c s Q') (hq: ∀e s,Q' e s->Q e s):Ev R P c s Q:=by
 intro ro hro A L g0 w0 g a w B hB hr hg hn;refine aOj (h ro hro A L g0 w0 g a w B hB hr hg hn) fun x a' w' hp=> ?_;obtain⟨e,g',s',h1,h2,h3,h4,h5⟩:=hp;exact⟨e,g',s',h1,hq e s' h2,h3,h4,h5⟩
theorem a7G {P:Program}{c:Code}{s:St}{Q:Ex->St->Prop}(k:uH) (h:Ev R P c (s.keep k) Q):Ev R P c s Q:=by
 intro ro hro A L g0 w0 g a w B hB hr hg hn;obtain⟨g1,k1,k2,k3,_⟩:=DA hr hg hn k;exact h ro hro A L g0 w0 g1 a w B hB k1 k2 k3
section
variable {P:Program}{s:St}{Q:Ex->St->Prop}
theorem pY (h:Q .normal s):Ev R P .skip s Q:=fun _ _ _ _ _ _ g _ _ _ _ hr hg hn=>wpIn_skip ⟨.normal,g,s,rfl,h,hr,hg,hn⟩
theorem w7 {id:Nat}(h:Q (.exit id) s):Ev R P (.exit id) s Q:=fun _ _ _ _ _ _ g _ _ _ _ hr hg hn=>wpIn_exit ⟨.exit id,g,s,rfl,h,hr,hg,hn⟩
theorem pH (h:Q .ret s):Ev R P .ret s Q:=fun _ _ _ _ _ _ g _ _ _ _ hr hg hn=>wpIn_ret ⟨.ret,g,s,rfl,h,hr,hg,hn⟩
theorem pQ {x y:Code}(h:Ev R P x s (LV (fun s'=>Ev R P y s' Q) Q)):Ev R P (.seq x y) s Q:=by
 intro ro hro A L g0 w0 g a w B hB hr hg hn;refine wpIn_seq (aOj (h ro hro A L g0 w0 g a w B hB hr hg hn) fun e a' w' hp=> ?_);obtain⟨e',g',s',h1,h2,h3,h4,h5⟩:=hp;cases e<;>simp only[CD,aMt] at h1
 case normal=>subst h1;exact h2 ro hro A L g0 w0 g' a' w' B hB h3 h4 h5
 case exit id=>subst h1;exact⟨.exit id,g',s',rfl,h2,h3,h4,h5⟩
 case ret=>subst h1;exact⟨.ret,g',s',rfl,h2,h3,h4,h5⟩
 all_goals cases h1
theorem aFn {c:Operand}{x y:Code}{b:Bool}{k:Option Nat}(h:sK s.env c=(.val .bool b,k)) (ht:b=true->Ev R P x s Q) (hf:b=false->Ev R P y s Q):Ev R P (.cond c x y) s Q:=by
 intro ro hro A L g0 w0 g a w B hB hr hg hn;have hc:=y3 hr.env c;rw[h] at hc;exact wpIn_cond_split (vL hc.1) (fun e=>ht e ro hro A L g0 w0 g a w B hB hr hg hn) (fun e=>hf e ro hro A L g0 w0 g a w B hB hr hg hn)
theorem aFo {c:Operand}{x y:Code}{p q:Prop}{k:Option Nat}(h:sK s.env c=(.flag p q,k)) (ht:p->Ev R P x s Q) (hf:q->Ev R P y s Q):Ev R P (.cond c x y) s Q:=by
 intro ro hro A L g0 w0 g a w B hB hr hg hn;have hc:=y3 hr.env c;rw[h] at hc;obtain⟨b,hb,hp,hq⟩:=hc.1;exact wpIn_cond_split hb (fun e=>ht (hp e) ro hro A L g0 w0 g a w B hB hr hg hn) (fun e=>hf (hq e) ro hro A L g0 w0 g a w B hB hr hg hn)
theorem rK {id:Nat}{c:Code}(h:Ev R P c s (GO id Q)):Ev R P (.block id c) s Q:=by
 intro ro hro A L g0 w0 g a w B hB hr hg hn;refine wpIn_block (aOj (h ro hro A L g0 w0 g a w B hB hr hg hn) fun e a' w' hp=> ?_);obtain⟨e',g',s',h1,h2,h3,h4,h5⟩:=hp;cases e<;>simp only[CD,aMt] at h1
 case normal=>subst h1;exact⟨.normal,g',s',rfl,h2,h3,h4,h5⟩
 case exit j=>
  subst h1;simp only[GO] at h2;simp only[Exit.inBlock];split
  ·rename_i hj;rw[if_pos hj] at h2;exact⟨.normal,g',s',rfl,h2,h3,h4,h5⟩
  ·rename_i hj;rw[if_neg hj] at h2;exact⟨.exit j,g',s',rfl,h2,h3,h4,h5⟩
 case ret=>subst h1;exact⟨.ret,g',s',rfl,h2,h3,h4,h5⟩
 all_goals cases h1
end
@[go_sem] def R3 (k:Nat) (t:Ty) (l:List t.den):pB->pB
 |(.own j m,x)=>if j=k then(.val (.list t) l,some k) else(.own j m,x)
 |s=>s
@[go_sem] def F8 (k:Nat) (t:Ty) (l:List t.den):List (Nat×pB)->List (Nat×pB)
 |[]=>[]
 |(i,s)::r=>(i,R3 k t l s)::F8 k t l r
@[go_sem] def a7H (k n:Nat):pB->Prop
 |(.own j m,_)=>j=k->m=n
 |_=>True
@[go_sem] def ML (k n:Nat):List (Nat×pB)->Prop
 |[]=>True
 |(_,s)::r=>a7H k n s/\ML k n r
theorem WW {k:Nat}{t:Ty}{l:List t.den}: ∀{env:List (Nat×pB)}{i:Nat},lk (F8 k t l env) i=R3 k t l (lk env i)
 |[],i=>rfl
 |(j,s)::r,i=>by
  simp only[F8,lk];split
  ·rfl
  ·exact WW
theorem WX {k n:Nat}: ∀{env:List (Nat×pB)}{i:Nat},ML k n env->a7H k n (lk env i)
 |[],i,_=>trivial
 |(j,s)::r,i,⟨h1,h2⟩=>by
  simp only[lk];split
  ·exact h1
  ·exact WX h2
theorem WY {P:Program}{c:Code}{s:St}{Q:Ex->St->Prop}(k:Nat) {e:TypeId}{t:Ty}{l:List t.den}{n:Nat}(hk:pD s.H k=some (.row e t l n)) (hok:ML k n s.env)
  (h:Ev R P c ⟨F8 k t l s.env,(k,.grow e t.cells (List.length l))::s.H,s.nb,s.N,s.np⟩ Q):Ev R P c s Q:=by
 intro ro hro A L g0 w0 g a w B hB hr hg hn;obtain⟨hl,v,xs,hv,hown,hF,hnone,hseal⟩:=hr.heap.blk k _ hk
 let g':Gh:={g with S:=fun b o=>g.S b o\/(v.ownBlock=some b/\o<n*t.cells)}
 have le:Le g w g' w:=⟨fun _ _ h=> .inl h,fun _ _ _=>rfl,fun _ _ h=>h,fun _ _ _ h=>h⟩;have hown2: ∀b,v.ownBlock=some b->∀o,qR g k (.row e t l n) b o:=fun b hb o=>⟨v,hv,hb⟩;have hlist: ∀u,g.cur k n=some u->((u= .slice none 0 0/\n=0)\/∃b cap,u= .slice (some ⟨b,0,none⟩) n cap/\n<=cap)->s5 g' w (.list t) l u:=by
  intro u hu hshape;rw[hv] at hu;obtain rfl:=aMy hu;rcases hshape with⟨rfl,h0⟩ |⟨b,cap,rfl,hcap⟩
  ·have:l=[]:=aMZ (by rw[hl,h0]);subst this;exact .inr ⟨rfl,none,0,rfl,Nat.le_refl _,.inl rfl⟩
  ·refine .inr ⟨rfl,some ⟨b,0,none⟩,cap,by rw[hl],by rw[hl];exact hcap,.inr ⟨b,0,rfl,J8 (AL (fun _ _ h=>w4 le h) hF) (fun j u hu=> ?_) (fun j hj=> ?_)⟩⟩
   ·have:=hown.cells (g:=b) rfl j u hu;rwa [aNO] at this
   ·right;exact⟨rfl,by rw[hl] at hj;omega⟩
 have hget: ∀i b,pD ((k,p8.grow e t.cells (List.length l))::s.H) i=some b->(i=k/\b= .grow e t.cells (List.length l))\/(i≠k/\pD s.H i=some b):=by
  intro i b hb;simp only[pD] at hb;split at hb
  ·rename_i e1;exact .inl ⟨e1.symm,(aMy hb).symm⟩
  ·rename_i e1;exact .inr ⟨Ne.symm e1,hb⟩
 have howns: ∀i b bb o,pD ((k,p8.grow e t.cells (List.length l))::s.H) i=some b->qR g' i b bb o->∃b0,pD s.H i=some b0/\qR g i b0 bb o:=by
  intro i b bb o hb ho;rcases hget i b hb with⟨rfl,rfl⟩ |⟨_,h1⟩
  ·obtain⟨u,hu,hub⟩:=ho;have hu':g.cur i (List.length l)=some u:=hu;rw[hl] at hu';exact⟨_,hk,u,hu',hub⟩
  ·exact⟨b,h1,(xG (g':=g') (g:=g) rfl rfl).1 ho⟩
 have hrel:tJ B g' w ⟨F8 k t l s.env,(k,.grow e t.cells (List.length l))::s.H,s.nb,s.N,s.np⟩ a:=by
  refine⟨fun i=> ?_,⟨fun i b hb=> ?_,fun i j bi bj b o hij h1 h2 o1 o2=> ?_,fun b o hS=> ?_,hr.heap.tab.1,fun i b bb oo hb ho=>by
   obtain⟨c1,k1,k2⟩:=howns i b bb oo hb ho;exact hr.heap.tab.2 i c1 bb oo k1 k2⟩,hr.size,hr.nb,hr.def_,hr.np⟩
  ·rw[WW];have h1:=hr.env i;have h2:=WX (i:=i) hok;generalize lk s.env i=sl at h1 h2;obtain⟨d,x⟩:=sl;cases d with
   |own j m=>
    simp only[R3];split
    ·rename_i hj;subst hj;have hm:m=n:=h2 rfl;subst hm;refine⟨hlist _ h1.1.1 h1.1.2,?_⟩;show g'.cur j (List.length l)=_;rw[hl];exact h1.1.1
    ·exact yX le h1
   |_=>exact yX le h1
  ·rcases hget i b hb with⟨rfl,rfl⟩ |⟨hne,h1⟩
   ·refine⟨v,xs,by rw[hl];exact hv,by rw[hl];exact hown,fun m hm=>hnone m (by rw[hl] at hm;exact hm),fun b hb o hS=> ?_⟩;rw[hl];rcases hS with hS|hS
    ·exact absurd hS (hseal b hb o)
    ·exact hS.2
   ·exact J5 (hr.heap.blk i b h1) le rfl rfl (fun _ _ _=>⟨rfl,rfl⟩) (fun _ _=>rfl) (fun bb o ho hS=>by
     rcases hS with hS|hS
     ·exact hS
     ·exact absurd (hown2 bb hS.1 o) (fun h5=>hr.heap.dis i k b _ bb o hne h1 hk ho h5)) (fun _ _ _ _ h=>h)
  ·obtain⟨c1,k1,k2⟩:=howns i bi b o h1 o1;obtain⟨c2,k3,k4⟩:=howns j bj b o h2 o2;exact hr.heap.dis i j c1 c2 b o hij k1 k3 k2 k4
  ·rcases hS with hS|hS
   ·exact hr.heap.sl b o hS
   ·exact M1 hown hS.1
 have hgood:rY A L g0 w0 g' w ((k,.grow e t.cells (List.length l))::s.H):=by
  refine⟨fun b o h0=>⟨.inl (hg.shut b o h0).1,(hg.shut b o h0).2⟩,⟨hg.fr.os,hg.fr.tape,hg.fr.output,hg.fr.size,hg.fr.blk,hg.fr.cell,fun b o hS=> ?_,hg.fr.shape⟩,fun i b bb o hb ho=> ?_,hg.J,hg.live,fun i u y us hi hb=> ?_,hg.cur⟩
  ·rcases hS with hS|hS
   ·exact hg.fr.new b o hS
   ·exact .inr (hg.perm k _ b o hk (hown2 b hS.1 o))
  ·obtain⟨c1,k1,k2⟩:=howns i b bb o hb ho;exact hg.perm i c1 bb o k1 k2
  ·rcases hget i _ hb with⟨_,h1⟩ |⟨_,h1⟩
   ·cases h1
   ·exact hg.ty i u y us hi h1
 exact h ro hro A L g0 w0 g' a w B hB hrel hgood hn
@[go_sem] def WZ (k:Nat) (u0:Ty) (l:List u0.den) (e:Nat) (u:Ty):Option (Nat×Nat)-> Σ t:Ty,t.den
 |some (j,n)=>if j=k/\u=u0 then⟨.list u0,l⟩ else⟨.rl e u,some (j,n)⟩
 |none=>⟨.rl e u,none⟩
@[go_sem] def yH (k:Nat) (u0:Ty) (l:List u0.den):(t:Ty)->t.den-> Σ t:Ty,t.den
 | .rl e u,x=>WZ k u0 l e u x
 | .pair a b,x=>if (Ty.pair a b).pure=true then⟨.pair a b,x⟩ else⟨.pair (yH k u0 l a x.1).1 (yH k u0 l b x.2).1,((yH k u0 l a x.1).2,(yH k u0 l b x.2).2)⟩
 |t,x=>⟨t,x⟩
@[go_sem] def aFp (k n:Nat):Option (Nat×Nat)->Prop
 |some (j,m)=>j=k->m=n
 |none=>True
@[go_sem] def MM (k n:Nat):(t:Ty)->t.den->Prop
 | .rl _ _,x=>aFp k n x
 | .pair a b,x=>MM k n a x.1/\MM k n b x.2
 |_,_=>True
theorem MN {k:Nat}{u0:Ty}{l:List u0.den}: ∀{t:Ty}{x:t.den},(yH k u0 l t x).1.cells=t.cells
 | .rl e u,none=>rfl
 | .rl e u,some (j,n)=>by
  simp only[yH,WZ];split<;>rfl
 | .pair a b,x=>by
  simp only[yH];split
  ·rfl
  ·simp only[Ty.cells,MN (t:=a),MN (t:=b)]
 | .bool,_=>rfl
 | .int _,_=>rfl
 | .str,_=>rfl
 | .list _,_=>rfl
 | .unit,_=>rfl
 | .ref,_=>rfl
 | .clo,_=>rfl
 | .mp,_=>rfl
 | .mref,_=>rfl
 | .fn,_=>rfl
def aFq (g:Gh) (w:World) (q: Σ t:Ty,t.den) (cs:List Value):Prop:=Rd g w q.1 q.2 cs
theorem X0 {g:Gh}{w:World}{k n:Nat}{u0:Ty}{l:List u0.den}(hk: ∀cs,F2 g (some (k,n)) cs->Rd g w (.list u0) l cs): ∀{t:Ty}{x:t.den}{cs:List Value},MM k n t x->Rd g w t x cs->aFq g w (yH k u0 l t x) cs
 | .rl e u,none,_,_,r=>r
 | .rl e u,some (j,m),_,h,r=>by
  simp only[yH,WZ];split
  ·rename_i hc;obtain⟨rfl,rfl⟩:=hc;have:m=n:=h rfl;subst this;exact hk _ r
  ·exact r
 | .pair a b,x,_,h,r=>by
  simp only[yH];split
  ·exact r
  ·obtain⟨c1,c2,e,r1,r2⟩:=r;exact⟨c1,c2,e,X0 hk h.1 r1,X0 hk h.2 r2⟩
 | .bool,_,_,_,r=>r
 | .int _,_,_,_,r=>r
 | .str,_,_,_,r=>r
 | .list _,_,_,_,r=>r
 | .unit,_,_,_,r=>r
 | .ref,_,_,_,r=>r
 | .clo,_,_,_,r=>r
 | .mp,_,_,_,r=>r
 | .mref,_,_,_,r=>r
 | .fn,_,_,_,r=>r
theorem aFr {P:Program}{c:Code}{s:St}{Q:Ex->St->Prop}(k i:Nat) {e:TypeId}{t:Ty}{l:List t.den}{n:Nat}(hk:pD s.H k=some (.row e t l n)) {u:Ty}{x:u.den}{toks:List (Nat×Nat)}(hi:pD s.H i=some (.cells u x toks)) (hnp:s.np<=i)
  (hok:ML k n s.env) (hxo:MM k n u x)
  (h:Ev R P c ⟨F8 k t l s.env,(i,.cells (yH k t l u x).1 (yH k t l u x).2 [])::(k,.grow e t.cells (List.length l))::s.H,s.nb,s.N,s.np⟩ Q):Ev R P c s Q:=by
 intro ro hro A L g0 w0 g a w B hB hr hg hn;obtain⟨hl,v,xs,hv,hown,hF,hnone,hseal⟩:=hr.heap.blk k _ hk
 let g':Gh:={g with S:=fun b o=>g.S b o\/(v.ownBlock=some b/\o<n*t.cells)}
 have le:Le g w g' w:=⟨fun _ _ h=> .inl h,fun _ _ _=>rfl,fun _ _ h=>h,fun _ _ _ h=>h⟩;have hown2: ∀b,v.ownBlock=some b->∀o,qR g k (.row e t l n) b o:=fun b hb o=>⟨v,hv,hb⟩;have hlist: ∀u,g.cur k n=some u->((u= .slice none 0 0/\n=0)\/∃b cap,u= .slice (some ⟨b,0,none⟩) n cap/\n<=cap)->s5 g' w (.list t) l u:=by
  intro u hu hshape;rw[hv] at hu;obtain rfl:=aMy hu;rcases hshape with⟨rfl,h0⟩ |⟨b,cap,rfl,hcap⟩
  ·have:l=[]:=aMZ (by rw[hl,h0]);subst this;exact .inr ⟨rfl,none,0,rfl,Nat.le_refl _,.inl rfl⟩
  ·refine .inr ⟨rfl,some ⟨b,0,none⟩,cap,by rw[hl],by rw[hl];exact hcap,.inr ⟨b,0,rfl,J8 (AL (fun _ _ h=>w4 le h) hF) (fun j u hu=> ?_) (fun j hj=> ?_)⟩⟩
   ·have:=hown.cells (g:=b) rfl j u hu;rwa [aNO] at this
   ·right;exact⟨rfl,by rw[hl] at hj;omega⟩
 have hik:i≠k:=fun e1=>by rw[e1,hk] at hi;cases hi
 obtain⟨p0,cs0,hp0,hR0,hra0,hth0,hns0,_⟩:=hr.heap.blk i _ hi
 let b':p8:= .cells (yH k t l u x).1 (yH k t l u x).2 []
 let H':qQ:=(i,b')::(k,p8.grow e t.cells (List.length l))::s.H
 have hget: ∀i' b,pD H' i'=some b->(i'=i/\b=b')\/(i'=k/\b= .grow e t.cells (List.length l))\/(i'≠k/\i'≠i/\pD s.H i'=some b):=by
  intro i' b hb;simp only[H',pD] at hb;split at hb
  ·rename_i e1;exact .inl ⟨e1.symm,(aMy hb).symm⟩
  ·rename_i e1;split at hb
   ·rename_i e2;exact .inr (.inl ⟨e2.symm,(aMy hb).symm⟩)
   ·rename_i e2;exact .inr (.inr ⟨Ne.symm e2,Ne.symm e1,hb⟩)
 have howns: ∀i' b bb o,pD H' i'=some b->qR g' i' b bb o->∃b0,pD s.H i'=some b0/\qR g i' b0 bb o:=by
  intro i' b bb o hb ho;rcases hget i' b hb with⟨rfl,rfl⟩ |⟨rfl,rfl⟩ |⟨_,_,h1⟩
  ·obtain⟨p,hp,e1,e2,e3⟩:=ho;rw[MN] at e3;exact⟨_,hi,p,hp,e1,e2,e3⟩
  ·obtain⟨u,hu,hub⟩:=ho;have hu':g.cur i' (List.length l)=some u:=hu;rw[hl] at hu';exact⟨_,hk,u,hu',hub⟩
  ·exact⟨b,h1,(xG (g':=g') (g:=g) rfl rfl).1 ho⟩
 have hrel:tJ B g' w ⟨F8 k t l s.env,H',s.nb,s.N,s.np⟩ a:=by
  refine⟨fun j=> ?_,⟨fun i' b hb=> ?_,fun i' j bi bj b o hij h1 h2 o1 o2=> ?_,fun b o hS=> ?_,hr.heap.tab.1,fun i' b bb oo hb ho=>by
   obtain⟨c1,k1,k2⟩:=howns i' b bb oo hb ho;exact hr.heap.tab.2 i' c1 bb oo k1 k2⟩,hr.size,hr.nb,hr.def_,hr.np⟩
  ·rw[WW];have h1:=hr.env j;have h2:=WX (i:=j) hok;generalize lk s.env j=sl at h1 h2;obtain⟨d,x⟩:=sl;cases d with
   |own j m=>
    simp only[R3];split
    ·rename_i hj;subst hj;have hm:m=n:=h2 rfl;subst hm;refine⟨hlist _ h1.1.1 h1.1.2,?_⟩;show g'.cur j (List.length l)=_;rw[hl];exact h1.1.1
    ·exact yX le h1
   |_=>exact yX le h1
  ·rcases hget i' b hb with⟨rfl,rfl⟩ |⟨rfl,rfl⟩ |⟨hne,_,h1⟩
   ·have hk2: ∀cs,F2 g' (some (k,n)) cs->Rd g' w (.list t) l cs:=by
     rintro cs ⟨v1,q1,q2,q3⟩;rw[q2];exact A2 rfl (hlist v1 q1 q3)
    refine⟨p0,cs0,hp0,X0 (n:=n) hk2 hxo (w4 le hR0),hra0,?_,?_,fun _ _ hm=>by cases hm⟩
    ·rw[MN];exact⟨hth0.1,hth0.2⟩
    ·rw[MN];intro j hj hS;rcases hS with hS|hS
     ·exact hns0 j hj hS
     ·exact hr.heap.dis i' k _ _ p0.1 (p0.2+j) hik hi hk ⟨p0,hp0,rfl,by omega,by omega⟩ (hown2 _ hS.1 _)
   ·refine⟨v,xs,by rw[hl];exact hv,by rw[hl];exact hown,fun m hm=>hnone m (by rw[hl] at hm;exact hm),fun b hb o hS=> ?_⟩;rw[hl];rcases hS with hS|hS
    ·exact absurd hS (hseal b hb o)
    ·exact hS.2
   ·exact J5 (hr.heap.blk i' b h1) le rfl rfl (fun _ _ _=>⟨rfl,rfl⟩) (fun _ _=>rfl) (fun bb o ho hS=>by
     rcases hS with hS|hS
     ·exact hS
     ·exact absurd (hown2 bb hS.1 o) (fun h5=>hr.heap.dis i' k b _ bb o hne h1 hk ho h5)) (fun _ _ _ _ h=>h)
  ·obtain⟨c1,k1,k2⟩:=howns i' bi b o h1 o1;obtain⟨c2,k3,k4⟩:=howns j bj b o h2 o2;exact hr.heap.dis i' j c1 c2 b o hij k1 k3 k2 k4
  ·rcases hS with hS|hS
   ·exact hr.heap.sl b o hS
   ·exact M1 hown hS.1
 have hgood:rY A L g0 w0 g' w H':=by
  refine⟨fun b o h0=>⟨.inl (hg.shut b o h0).1,(hg.shut b o h0).2⟩,⟨hg.fr.os,hg.fr.tape,hg.fr.output,hg.fr.size,hg.fr.blk,hg.fr.cell,fun b o hS=> ?_,hg.fr.shape⟩,fun i' b bb o hb ho=> ?_,hg.J,hg.live,fun i' u' y us hi' hb=> ?_,hg.cur⟩
  ·rcases hS with hS|hS
   ·exact hg.fr.new b o hS
   ·exact .inr (hg.perm k _ b o hk (hown2 b hS.1 o))
  ·obtain⟨c1,k1,k2⟩:=howns i' b bb o hb ho;exact hg.perm i' c1 bb o k1 k2
  ·rcases hget i' _ hb with⟨rfl,_⟩ |⟨_,h1⟩ |⟨_,_,h1⟩
   ·omega
   ·cases h1
   ·exact hg.ty i' u' y us hi' h1
 exact h ro hro A L g0 w0 g' a w B hB hrel hgood hn
theorem aFs {P:Program}{c:Code}{s:St}{Q:Ex->St->Prop}(k i:Nat) {e:TypeId}{t:Ty}{l:List t.den}{n:Nat}(hk:pD s.H k=some (.row e t l n)) {u:Ty}{x:u.den}{toks:List (Nat×Nat)}(hi:pD s.H i=some (.cells u x toks)) (hnp:s.np<=i)
  (hok:ML k n s.env) (hxo:MM k n u x) {u':Ty}{y':u'.den}(hz:yH k t l u x=⟨u',y'⟩)
  (h:Ev R P c ⟨F8 k t l s.env,(i,.cells u' y' [])::(k,.grow e t.cells (List.length l))::s.H,s.nb,s.N,s.np⟩ Q):Ev R P c s Q:=
 aFr k i hk hi hnp hok hxo (by rw[hz];exact h)
def iter {σ ρ:Type}(f:σ->Option (σ⊕ρ)):Nat->σ->Option ρ
 |0,_=>none
 |n+1,x=>match f x with
  |none=>none
  |some (.inl y)=>iter f n y
  |some (.inr r)=>some r
theorem a7I {σ ρ:Type}{f:σ->Option (σ⊕ρ)}{r:ρ}: ∀{n:Nat}{x:σ},iter f n x=some r->iter f (n+1) x=some r
 |0,_,h=>by cases h
 |n+1,x,h=>by
  unfold iter at h⊢;split
  ·rename_i e;rw[e] at h;cases h
  ·rename_i y e;rw[e] at h;exact a7I h
  ·rename_i r' e;rw[e] at h;exact h
theorem X1 {σ ρ:Type}{f:σ->Option (σ⊕ρ)}{r:ρ}{n:Nat}{x:σ}(h:iter f n x=some r): ∀m,iter f (n+m) x=some r
 |0=>h
 |m+1=>a7I (X1 h m)
theorem a7J {σ ρ:Type}{f:σ->Option (σ⊕ρ)}{r r':ρ}{n m:Nat}{x:σ}(h:iter f n x=some r) (h':iter f m x=some r'):r=r':=by
 have h1:=X1 h m;have h2:=X1 h' n;rw[Nat.add_comm] at h2;exact aMy (h1.symm.trans h2)
noncomputable def MO {σ ρ:Type}(f:σ->Option (σ⊕ρ)) (x:σ):Option ρ:=open Classical in if h: ∃n r,iter f n x=some r then some (Classical.choose (aN6 h)) else none
def aFt {ρ:Type}:Option ρ->Option ρ->Option ρ
 |some r,_=>some r
 |none,r=>r
noncomputable def q6 {σ ρ:Type}(f:σ->Option (σ⊕ρ)) (x:σ):Option ρ:=aFt (iter f 2000 x) (MO f x)
theorem aFu {σ ρ:Type}{f:σ->Option (σ⊕ρ)}{x:σ}{r:ρ}{n:Nat}(h:iter f n x=some r):MO f x=some r:=by
 have hx: ∃n r,iter f n x=some r:=⟨n,r,h⟩;unfold MO;rw[aOF hx,a7J h (aN6 (aN6 hx))]
theorem X2 {σ ρ:Type}{f:σ->Option (σ⊕ρ)}{x:σ}{r:ρ}{n:Nat}(h:iter f n x=some r):q6 f x=some r:=by
 unfold q6;cases hi:iter f 2000 x with
 |some r'=>rw[a7J h hi];rfl
 |none=>exact aFu h
theorem R4 {σ ρ:Type}{f:σ->Option (σ⊕ρ)}{x:σ}{r:ρ}(h:q6 f x=some r): ∃n,iter f n x=some r:=by
 unfold q6 at h;cases hi:iter f 2000 x with
 |some r'=>
  rw[hi] at h;cases h;exact⟨_,hi⟩
 |none=>
  rw[hi] at h;have h:MO f x=some r:=h;unfold MO at h;split at h
  ·rename_i hx;have:=aN6 (aN6 hx);rw[aMy h] at this;exact⟨_,this⟩
  ·cases h
attribute [irreducible] q6
theorem BF {σ ρ:Type}{f:σ->Option (σ⊕ρ)}{x y:σ}(h:f x=some (.inl y)):q6 f x=q6 f y:=by
 cases hy:q6 f y with
 |some r=>
  obtain⟨n,hn⟩:=R4 hy;exact X2 (n:=n+1) (by unfold iter;rw[h];exact hn)
 |none=>
  cases hx:q6 f x with
  |none=>rfl
  |some r=>
   obtain⟨n,hn⟩:=R4 hx;cases n with
   |zero=>cases hn
   |succ n=>
    unfold iter at hn;rw[h] at hn;rw[X2 hn] at hy;cases hy
theorem uR {σ ρ:Type}{f:σ->Option (σ⊕ρ)}{x:σ}{r:ρ}(h:f x=some (.inr r)):q6 f x=some r:=X2 (n:=1) (by unfold iter;rw[h])
def Nxt {σ ρ:Type}(f:σ->Option (σ⊕ρ)) (y:ρ) (n:Nat):σ⊕ρ->Prop
 | .inl x=>iter f n x=some y
 | .inr r=>r=y
def qL {σ ρ:Type}(enc:σ->St) (f:σ->Option (σ⊕ρ)) (y:ρ) (n:Nat) (Q:Ex->St->Prop):Ex->St->Prop
 | .normal,s=> ∃(k:uH) (x:σ),s.keep k=enc x/\iter f n x=some y
 | .exit j,s=>Q (.exit j) s
 | .ret,s=>Q .ret s
theorem aFw {P:Program}{c:Code}{s:St}{Q:Ex->St->Prop}(I:Nat->St->Prop) (h0: ∃(k:uH) (n:Nat),I n (s.keep k))
  (h: ∀n s,I n s->Ev R P c s (fun e s'=>match e with| .normal=> ∃(k:uH) (m:Nat),m<n/\I m (s'.keep k) |e=>Q e s')):Ev R P (.loop c) s Q:=by
 intro ro hro A L g0 w0 g a w B hB hr hg hn;obtain⟨k,n0,h0⟩:=h0;obtain⟨g1,k1,k2,k3,_⟩:=DA hr hg hn k
 let R:Act->World->Nat->Prop:=fun a w n=> ∃g s,I n s/\tJ B g w s a/\rY A L g0 w0 g w s.H/\s.np=L.length
 refine wpIn_loop (fun a w=> ∃n,R a w n) (fun a w=>MI (R a w)) ⟨_,g1,s.keep k,h0,k1,k2,k3⟩ (fun a w hI=> ?_);obtain⟨⟨g2,s2,i1,i3,i4,i5⟩,_⟩:=QZ hI;refine aOj (h _ s2 i1 ro hro A L g0 w0 g2 a w B hB i3 i4 i5) fun e a' w' hp=> ?_;obtain⟨e',g',s',h1,h2,h3,h4,h5⟩:=hp;cases e<;>simp only[CD,aMt] at h1
 case normal=>
  subst h1;obtain⟨k',m,j1,j2⟩:=h2;obtain⟨g3,l1,l2,l3,_⟩:=DA h3 h4 h5 k';have hR:R a' w' m:=⟨g3,s'.keep k',j2,l1,l2,l3⟩;exact⟨⟨_,hR⟩,Nat.lt_of_le_of_lt ((QZ ⟨_,hR⟩).2 _ hR) j1⟩
 case exit id=>subst h1;exact⟨.exit id,g',s',rfl,h2,h3,h4,h5⟩
 case ret=>subst h1;exact⟨.ret,g',s',rfl,h2,h3,h4,h5⟩
 all_goals cases h1
theorem w8 {P:Program}{c:Code}{s:St}{Q:Ex->St->Prop}{σ ρ:Type}{f:σ->Option (σ⊕ρ)}{x0:σ}{y:ρ}(hy:q6 f x0=some y) (enc:σ->St) (k:uH) (h0:s.keep k=enc x0)
  (round: ∀x w n,f x=some w->Nxt f y n w->Ev R P c (enc x) (qL enc f y n Q)):Ev R P (.loop c) s Q:=by
 obtain⟨n,hn⟩:=R4 hy;refine aFw (fun n s=> ∃x,s=enc x/\iter f n x=some y) ⟨k,n,x0,h0,hn⟩ fun n s ⟨x,e,hx⟩=> ?_;subst e;cases n with
 |zero=>cases hx
 |succ n=>
  unfold iter at hx;refine aFm (Q':=qL enc f y n Q) ?_ (fun e s' hq=> ?_)
  ·split at hx
   ·cases hx
   ·rename_i x' e;exact round x _ n e hx
   ·rename_i r e;exact round x _ n e (aMy hx)
  ·cases e with
   |normal=>obtain⟨k,x',h1,h2⟩:=hq;exact⟨k,n,by omega,x',h1,h2⟩
   |exit j=>exact hq
   |ret=>exact hq
def qX (j:Nat) (X:St->Prop) (Q:Ex->St->Prop):Ex->St->Prop
 | .normal,s=>Q .normal s
 | .exit i,s=>if i=j then∃k:uH,X (s.keep k) else Q (.exit i) s
 | .ret,s=>Q .ret s
theorem w9 {P:Program}{c:Code}{s:St}{Q:Ex->St->Prop}(j:Nat) (X:St->Prop) (h:Ev R P c s (qX j X Q)) (J: ∀s',X s'->Q (.exit j) s'):Ev R P c s Q:=by
 intro ro hro A L g0 w0 g a w B hB hr hg hn;refine aOj (h ro hro A L g0 w0 g a w B hB hr hg hn) fun x a' w' hp=> ?_;obtain⟨e,g',s',h1,h2,h3,h4,h5⟩:=hp;cases e with
 |normal=>exact⟨.normal,g',s',h1,h2,h3,h4,h5⟩
 |ret=>exact⟨.ret,g',s',h1,h2,h3,h4,h5⟩
 |exit i=>
  have h2:(if i=j then∃k:uH,X (s'.keep k) else Q (.exit i) s'):=h2;by_cases hij:i=j
  ·rw[if_pos hij] at h2;obtain⟨k,hk⟩:=h2;obtain⟨g1,k1,k2,k3,_⟩:=DA h3 h4 h5 k;exact⟨.exit i,g1,s'.keep k,h1,by rw[hij];exact J _ hk,k1,k2,k3⟩
  ·rw[if_neg hij] at h2;exact⟨.exit i,g',s',h1,h2,h3,h4,h5⟩
section
variable {Q:Ex->St->Prop}{s:St}{j i:Nat}{X:St->Prop}{σ ρ:Type}{enc:σ->St}{f:σ->Option (σ⊕ρ)}{y:ρ}{n:Nat}
theorem yI (h:Q .ret s):qX j X Q .ret s:=h
theorem wA (h: ∃k:uH,X (s.keep k)):qX j X Q (.exit j) s:=by show (if j=j then _ else _);rw[if_pos rfl];exact h
theorem u7 (h: ∃(k:uH) (x:σ),s.keep k=enc x/\iter f n x=some y):qL enc f y n Q .normal s:=h
theorem wB (h:Q (.exit j) s):qL enc f y n Q (.exit j) s:=h
theorem yJ (h:Q .ret s):qL enc f y n Q .ret s:=h
end
def qN (X:St->Prop) (Q:Ex->St->Prop):Ex->St->Prop
 | .normal,s=> ∃k:uH,X (s.keep k)
 | .exit j,s=>Q (.exit j) s
 | .ret,s=>Q .ret s
theorem zB {P:Program}{c:Code}{s:St}{Q:Ex->St->Prop}(X:St->Prop) (h:Ev R P c s (qN X Q)) (J: ∀s',X s'->Q .normal s'):Ev R P c s Q:=by
 intro ro hro A L g0 w0 g a w B hB hr hg hn;refine aOj (h ro hro A L g0 w0 g a w B hB hr hg hn) fun x a' w' hp=> ?_;obtain⟨e,g',s',h1,h2,h3,h4,h5⟩:=hp;cases e with
 |exit j=>exact⟨.exit j,g',s',h1,h2,h3,h4,h5⟩
 |ret=>exact⟨.ret,g',s',h1,h2,h3,h4,h5⟩
 |normal=>
  obtain⟨k,hk⟩:=h2;obtain⟨g1,k1,k2,k3,_⟩:=DA h3 h4 h5 k;exact⟨.normal,g1,s'.keep k,h1,J _ hk,k1,k2,k3⟩
section
variable {Q:Ex->St->Prop}{s:St}{j:Nat}{X:St->Prop}
theorem sW (h: ∃k:uH,X (s.keep k)):qN X Q .normal s:=h
end
def val {ρ:Type}[Inhabited ρ] (x:Option ρ):ρ:=x.getD default
theorem AO {ρ:Type}[Inhabited ρ] (x:ρ):val (some x)=x:=rfl
theorem rI {ρ:Type}[Inhabited ρ] {x:Option ρ}{y:ρ}(h:x=some y):val x=y:=by rw[h];rfl
theorem q8 {ρ:Type}{x:Option ρ}{y:ρ}(h:x=some y):x.isSome=true:=by rw[h];rfl
theorem pK {ρ:Type}{c:Prop}[Decidable c] {x:Option ρ}{r:ρ}(h:(if c then x else none)=some r):c/\x=some r:=by
 by_cases hc:c
 ·rw[if_pos hc] at h;exact⟨hc,h⟩
 ·rw[if_neg hc] at h;cases h
theorem pC {σ ρ:Type}{x:Option σ}{k:σ->Option ρ}{r:ρ}(h:x.bind k=some r): ∃y,x=some y/\k y=some r:=by
 cases x with
 |none=>cases h
 |some y=>exact⟨y,rfl,h⟩
theorem aFx {ρ:Type}{b:Bool}{x y:ρ}{r:ρ}(h:(if b=true then x else y)=r) (hb:b=true):x=r:=by rw[if_pos hb] at h;exact h
theorem aFy {ρ:Type}{b:Bool}{x y:ρ}{r:ρ}(h:(if b=true then x else y)=r) (hb:b=false):y=r:=by rw[hb,if_neg (by decide)] at h;exact h
def sJ {σ ρ:Type}(x:Option (σ⊕ρ)) (k:σ->Option ρ):Option ρ:=x.bind fun y=>match y with
 | .inl v=>k v
 | .inr r=>some r
theorem xK {σ ρ:Type}{x:Option (σ⊕ρ)}{k:σ->Option ρ}{r:ρ}(h:sJ x k=some r): ∃y,x=some y/\(match y with| .inl v=>k v| .inr r=>some r)=some r:=pC h
def qM {σ ρ:Type}(x:Option σ) (k:σ->Option ρ):Option ρ:=x.bind k
def X3 {σ ρ:Type}(x:σ) (k:σ->ρ):ρ:=k x
theorem aFz {σ ρ:Type}{x:σ}{k:σ->ρ}{r:ρ}(h:X3 x k=r): ∃y,x=y/\k y=r:=⟨x,rfl,h⟩
theorem sD {x:Bool}(h:x=true):(x==true)=true:=by rw[h];rfl
theorem R5 {G x:Bool}(hG:G=true) (h:x=true):(G&&(x==true))=true:=by rw[hG,h];rfl
theorem GX {G x:Bool}(hG:G=true) (h:x=false):(G&&(x==false))=true:=by rw[hG,h];rfl
theorem wC {x:Bool}(h:x=false):(x==false)=true:=by rw[h];rfl
section
variable {P:Program}{T:rP}{Γ:t6}(E:qG P T Γ) {s:St}{Q:Ex->St->Prop}
include E
theorem a7K {id:Nat}{ops:Array Oper}{a:uO}(h:uP T Γ ops.toList ops.toList (some ⟨s,[],[]⟩)=some a) (hp:qE a.side) (hq:Q .normal a.s):Ev R P (.region id ops false) s Q:=
 a7F E.T E.Γ E.m (aDw h hp hq)
theorem a7L {id:Nat}{ops:Array Oper}{a:uO}(h:uP T Γ ops.toList ops.toList (some ⟨s,[],[]⟩)=some a) (hf:C7 ops s.nb a.es.reverse=true) (hp:qE a.side) (hq:Q .normal a.s):Ev R P (.region id ops true) s Q:=
 a7F E.T E.Γ E.m (aDx h hf hp hq)
end
end Go.Proofs.YtbbpilohihldiaaGreatDoor.Vc
namespace Go.Proofs.YtbbpilohihldiaaGreatDoor.Vc
open Go.RowKit
variable {R:Bool}
attribute [go_sem] Option.map_some Option.map_none
@[go_sem] theorem aLd {H:List (Nat×p8)}{ps:List PK}{b:List pB}{a:Option rS}:vV H ps ([]++b) a=vV H ps b a:=rfl
@[go_sem] theorem aLe {H:List (Nat×p8)}{ps:List PK}{x:pB}{l b:List pB}{a:Option rS}:vV H ps ((x::l)++b) a=vV H ps (x::(l++b)) a:=rfl
@[go_sem] def a7M:Option pB->Option (List pB)->Option (List pB)
 |some s,some l=>some (s::l)
 |_,_=>none
@[go_sem] def a7N:Option pI->Option pB
 |some e=>some e.slot
 |none=>none
@[go_sem] def R6 (H:List (Nat×p8)):Option TI->pB->Option pI
 |some ti,(.val .ref (some (i,off)),_)=>LM ti.ty i off (pD H i)
 |_,_=>none
@[go_sem] def MP (T:rP) (s:St) (m:List (Nat×Nat)):Nat×Option TypeId->Option pB
 |(t,none)=>some (xT m (lk s.env t))
 |(t,some ty)=>(a7N (R6 s.H (qB T ty) (lk s.env t))).map (xT m)
@[go_sem] def F9 (T:rP) (s:St) (m:List (Nat×Nat)):List (Nat×Option TypeId)->Option (List pB)
 |[]=>some []
 |q::r=>a7M (MP T s m q) (F9 T s m r)
def AP:Nat×Option TypeId->ResultVar
 |(t,none)=> .tmp t
 |(t,some ty)=> .cell t ty
@[go_sem] def BG:Nat->Nat->List (Nat×p8)->List (Nat×p8)
 |0,_,H=>H
 |n+1,i,[]=>(i,.dead)::BG n (i+1) []
 |n+1,i,(j,b)::H=>if j=i then(j,b)::BG n (i+1) H else(i,.dead)::BG n (i+1) ((j,b)::H)
theorem GY: ∀{n i:Nat}{H:List (Nat×p8)}{k:Nat}{b:p8},pD (BG n i H) k=some b->pD H k=some b\/b= .dead
 |0,_,_,_,_,h=> .inl h
 |n+1,i,[],k,b,h=>by
  simp only[BG,pD] at h;split at h
  ·exact .inr (aMy h).symm
  ·exact GY h
 |n+1,i,(j,c)::H,k,b,h=>by
  unfold BG at h;split at h
  ·simp only[pD] at h⊢;split at h
   ·rename_i e;rw[if_pos e];exact .inl h
   ·rename_i e;rw[if_neg e];exact GY h
  ·simp only[pD] at h;split at h
   ·exact .inr (aMy h).symm
   ·exact GY h
theorem rH.pad {g:Gh}{w:World}{H:qQ}(h:rH g w H) (n i:Nat):rH g w (BG n i H):=by
 have own: ∀{k blk b o},pD (BG n i H) k=some blk->qR g k blk b o->pD H k=some blk:=fun hg ho=>by
  rcases GY hg with h1|h1
  ·exact h1
  ·subst h1;exact ho.elim
 refine⟨fun k b hb=> ?_,fun i j bi bj b o hij h1 h2 o1 o2=>h.dis i j bi bj b o hij (own h1 o1) (own h2 o2) o1 o2,h.sl,h.tab.1,fun k blk b o h1 h2=>h.tab.2 k blk b o (own h1 h2) h2⟩;rcases GY hb with h1|h1
 ·exact h.blk k b h1
 ·subst h1;trivial
theorem rY.pad {A:Nat->Nat->Prop}{L:List p8}{g0 g:Gh}{w0 w:World}{H:qQ}(h:rY A L g0 w0 g w H) (n i:Nat):rY A L g0 w0 g w (BG n i H):=by
 refine⟨h.shut,h.fr,fun k blk b o hg ho=> ?_,h.J,h.live,fun k u y us hk hg=> ?_,h.cur⟩
 ·rcases GY hg with h1|h1
  ·exact h.perm k blk b o h1 ho
  ·subst h1;exact ho.elim
 ·rcases GY hg with h1|h1
  ·exact h.ty k u y us hk h1
  ·cases h1
def a7O (T:rP) (ts:List (Nat×Option TypeId)) (r:pG):Ex->St->Prop
 | .exit _,_=>False
 |_,s=> ∃m:List (Nat×Nat),vY s.np m=true/\BG (pT r.H) 0 (s.keep ⟨[],m⟩).H=pO 0 r.H/\F9 T s m ts=some r.ret
section
variable {P:Program}{o:Oper}{a:Act}{g:Gh}{w:World}{H:qQ}{T:rP}(hT:vK P T) (hH:rH g w H)
include hT hH
theorem aFA {t:TypeId}{vx:Value}{sx:pB}(hx:q7 g w sx vx) {e:pI}(hr:R6 H (qB T t) sx=some e): ∃ad v,vx= .pointer (some ad)/\(loadVar t ad).run P w= .ok v w/\q7 g w e.slot v:=by
 generalize hs:qB T t=ot at hr;replace hx:=hx.1;unfold R6 at hr;split at hr
 ·rename_i ti i off k;have hty:=rX hT hs;generalize hb:pD H i=ob at hr;unfold LM at hr;split at hr
  ·rename_i u z toks;generalize hga:pS ti.ty u z off=oy at hr;cases oy with
   |none=>cases hr
   |some y=>
    cases hr;obtain⟨p,hp,hv⟩:=yF hx;obtain⟨p',cs,hp',hR,hra,_,_,htk⟩:=hH.blk i _ hb;rw[hp] at hp';obtain rfl:=aMy hp';obtain⟨c1,c2,c3,rfl,rfl,hR2⟩:=C8 hR hga;obtain⟨v,h1,h2,h3⟩:=QB hT hH hty (M7 hT hH hra) hR2;refine⟨_,v,hv,by simpa[Instr.loadAt,Instr.sureAddr] using h1,h2,?_⟩;obtain⟨ty,el,by',ar,ls⟩:=ti;cases ty with
    |list u'=>
     simp only[CW];generalize htt:vH toks c1.length=ok;cases ok with
     |none=>trivial
     |some k=>
      obtain⟨u2,l,v',g1,g2,g3⟩:=htk _ _ (VH hT hH htt);obtain⟨heq,hl⟩:=a5S hT hH g1 hga rfl;injection heq with heq'
      subst heq';have hlen:=rR hR2;obtain⟨v2,rfl⟩:=aNS.1 hlen;have e2:v'=v2:=by
       have e:(c1++[v2]++c3)[c1.length]? =some v2:=by simp
       rw[e] at g2;exact(aMy g2).symm
      have e3:v=v2:=by
       have h4:=A2 rfl h2;have hone:=yY h4 v (by simp);have:v.cells= #[v]:=by cases v<;>first|rfl|(simp [Value.oneCell'] at hone)
       rw[this] at h3;simpa using h3
      subst e2;subst e3;have e4:(y:List u'.den)=l:=hl;subst e4;exact g3
    |_=>trivial
  ·cases hr
 ·cases hr
end
def GZ (tmps:Array Value) (q:Nat×Option TypeId):Sem Value:=match AP q with
 | .tmp t=>pure (tmps.getD t undef)
 | .cell a t=>do loadVar t (<-asAddr (tmps.getD a undef))
theorem a7P {P:Program}{T:rP}(hT:vK P T) {B:Nat}{g:Gh}{w:World}{s:St}{a:Act}{m:List (Nat×Nat)}(hk:vY s.np m=true) (hr:tJ B g w s a): ∀{ts:List (Nat×Option TypeId)}{l:List pB},F9 T s m ts=some l->
  ∃vs:List Value,(ts.mapM (GZ a.tmps)).run P w= .ok vs w/\tY (sV g s.np m) w l vs
 |[],l,h=>by
  simp only[F9,aMt] at h;subst h;exact⟨[],by simp,rfl⟩
 |q::ts,l,h=>by
  simp only[F9] at h;obtain⟨s1,l1,e1,e2,rfl⟩: ∃s1 l1,MP T s m q=some s1/\F9 T s m ts=some l1/\l=s1::l1:=by
   cases h1:MP T s m q<;>cases h2:F9 T s m ts<;>rw[h1,h2] at h<;>simp [a7M] at h
   exact⟨_,_,rfl,rfl,h.symm⟩
  obtain⟨vs,v1,v2⟩:=a7P hT hk hr e2;obtain⟨v,w1,w2⟩: ∃v,(GZ a.tmps q).run P w= .ok v w/\q7 (sV g s.np m) w s1 v:=by
   obtain⟨t,oty⟩:=q;cases oty with
   |none=>
    simp only[MP,aMt] at e1;subst e1;exact⟨_,by simp [GZ,AP],QV hk (hr.env t)⟩
   |some ty=>
    simp only[MP] at e1;cases he:R6 s.H (qB T ty) (lk s.env t) with
    |none=>rw[he] at e1;cases e1
    |some e=>
     rw[he] at e1;simp only[a7N,Option.map_some,aMt] at e1;subst e1;obtain⟨ad,v,hv,hl,hs⟩:=aFA hT hr.heap (hr.env t) he;exact⟨v,by simp only[GZ,AP,hv,asAddr,aMJ,aMT,aMB,hl],QV hk hs⟩
  exact⟨v::vs,by simp only[List.mapM_cons,aMJ,w1,aMB,v1,aMT],v,vs,rfl,w2,v2⟩
def JI (tmps:Array Value):ResultVar->Sem Value
 | .tmp t=>pure (tmps.getD t undef)
 | .cell a t=>do loadVar t (<-asAddr (tmps.getD a undef))
theorem aFB {P:Program}{fn:Func}{w:World}{tmps:Array Value}{ts:List (Nat×Option TypeId)}(h:fn.results.toList=ts.map AP) {vs:List Value}(hv:(ts.mapM (GZ tmps)).run P w= .ok vs w):(results fn tmps).run P w= .ok (WV vs) w:=by
 obtain⟨rs,hrs⟩: ∃rs,fn.results=⟨rs⟩:=⟨fn.results.toList,rfl⟩;have hm:rs=ts.map AP:=by rw[hrs] at h;exact h
 have key:Sem.run P (((ts.map AP).toArray).mapM (JI tmps)) w=Result.ok vs.toArray w:=by
  rw[List.mapM_toArray,List.mapM_map];have e:JI tmps∘AP=GZ tmps:=by
   funext q;obtain⟨t,o⟩:=q;cases o<;>rfl
  have e2:(fun q=>JI tmps (AP q))=GZ tmps:=e;show Sem.run P (List.mapM (fun q=>JI tmps (AP q)) ts>>=fun l=>pure l.toArray) w=_;rw[e2,aMJ,hv];rfl
 have hu:results fn tmps=(fn.results.mapM (JI tmps) >>=fun vs=>pure (if h:vs.size=1 then vs[0] else .tuple vs)):=by
  unfold results;congr 2
 rw[hu,hrs,hm,aMJ];have key2:Sem.run P (Array.mapM (JI tmps) (⟨ts.map AP⟩:Array ResultVar)) w=Result.ok vs.toArray w:=key;rw[key2];simp only[aMB,aMT]
 match vs with
 |[]=>rfl
 |[v]=>rfl
 |v::u::l=>simp [WV]
theorem aFC {P:Program}{T:rP}(hT:vK P T) {f:FuncId}{fn:Func}{c:Code}{C:List pB->List p8->Option pG}{ts:List (Nat×Option TypeId)}(hf:P.funcs[f]? =some fn) (hb:fn.body=some c) {N:Nat}(hN:fn.ntmps=N)
  (hcall: ∀args w,(callFunc f args).run P w= .ok (.enter f args) w) (hres:fn.results.toList=ts.map AP)
  (h: ∀args L r,C args L=some r->(∀p∈r.side,p)->qS L->args.length<=N/\MJ (u6 0 L) args/\MK (u6 0 L) L/\Ev false P c ⟨qP 0 args,pO 0 L,pT L,N,pT L⟩ (a7O T ts r)):xY P f C:=by
 subst hN;refine⟨hcall,fun g w args vals L r hH ha hC hs=> ?_⟩;obtain⟨h1,h2,h3,h4⟩:=h args L r hC hs (a7y fun i b hb=>⟨i,hH.blk i b (by rw[wI];exact hb)⟩);obtain⟨hr,hent⟩:=aFk hH ha h2 h3 h1;have hsub: ∀b o,xH (sV g 0 (u6 0 L)) (pO 0 L) b o->xH g (pO 0 L) b o:=fun b o ⟨i,blk,hg,ho⟩=>⟨i,blk,hg,(hent i blk (by rw[<-wI];exact hg)).2.2 b o ho⟩;have hgood:rY (xH (sV g 0 (u6 0 L)) (pO 0 L)) L (sV g 0 (u6 0 L)) w (sV g 0 (u6 0 L)) w (pO 0 L):=by
  refine⟨fun b o h=>⟨h,rfl⟩,Fr.refl _ _ _,fun i blk b o hg ho=> .inr ⟨i,blk,hg,ho⟩,fun _ _ _ h=>h,fun i hi=> ?_,fun i u y us _ hg=>⟨y,us,by rw[<-wI];exact hg⟩,fun _ _ _ _ h=>h⟩;have hL:L[i]? =some L[i]:=by simp
  obtain⟨_,hbk,_⟩:=hent i L[i] hL;have hnd:=(GW h3 L[i] (aNJ hi)).2;generalize L[i]=blk at hbk hnd;cases blk with
  |cells t x ts=>obtain⟨p,cs,hp,_⟩:=hbk;exact .inl ⟨p,hp⟩
  |grow e c n=>obtain⟨v,xs,hv,_⟩:=hbk;exact .inr ⟨n,v,hv⟩
  |row e t l n=>obtain⟨_,v,xs,hv,_⟩:=hbk;exact .inr ⟨n,v,hv⟩
  |map k v l=>obtain⟨p,es,cl,hp,_⟩:=hbk;exact .inl ⟨p,hp⟩
  |iter s n=>obtain⟨p,hp,_⟩:=hbk;exact .inl ⟨p,hp⟩
  |dead=>exact absurd rfl hnd
 refine callsIn_wide.1 (callsIn_of_wp_marks (F:=Fence.wide) (n:=0) hf hb trivial (aOj (h4 none rfl _ _ _ _ _ _ _ _ (Nat.le_refl _) hr hgood (R2 L)) fun x a' w' hp=> ?_) rfl);obtain⟨e,g',s',e1,e2,e3,e4,e5⟩:=hp;have vF: ∀m:List (Nat×Nat),vY s'.np m=true->BG (pT r.H) 0 (s'.keep ⟨[],m⟩).H=pO 0 r.H->F9 T s' m ts=some r.ret->LeavesInM Fence.wide 0 P fn a'.tmps (fun e w'=> ∃v' g',e= .returned v'/\GR g w L r g' w' v') a'.defers .returning w':=by
  intro m hk k1 k2;refine a7E a'.defers w' e3 e4 (fun w1 e3 e4=> ?_);obtain⟨l1,l2,l3,_⟩:=WG e3 e4 e5 ⟨[],m⟩ hk;replace l2:=l2.pad (pT r.H) 0;rw[k1] at l2;obtain⟨vs,q1,q2⟩:=a7P hT hk e3 k2;have q3:=aFB (P:=P) (w:=w1) (tmps:=a'.tmps) hres q1;refine⟨_,q3,_,_,rfl,⟨fun b o hb=>l2.shut b o hb,by rw[<-k1];exact l1.heap.pad _ _,?_,?_,fun i blk b o hi ho=> ?_,fun i t x us hi=> ?_,fun i t x us u y vs hi hr=> ?_,fun i p hi hp=>l2.J i p hi ((yG R0 (JH.2 ⟨rfl,aNm _,by omega⟩)).1.trans hp),fun i n u hi hu=>l2.cur i n u hi ((congrFun (yG R0 (JH.2 ⟨rfl,aNm _,by omega⟩)).2 n).trans hu)⟩⟩
  ·unfold MB;split
   ·rename_i s hs;rw[hs] at q2;obtain⟨v,vs',hv,h5,h6⟩:=q2;rw[hv,show vs'=[] from h6];exact h5
   ·rename_i hne;refine⟨_,?_,q2⟩;unfold WV;split
    ·rename_i v hv;exfalso;have:=(R1 q2).1;cases hq:r.ret with
     |nil=>rw[hq] at this;simp at this
     |cons s l=>cases l with
      |nil=>exact hne s hq
      |cons _ _=>rw[hq] at this;simp at this
    ·rfl
  ·exact⟨l2.fr.os,l2.fr.tape,l2.fr.output,l2.fr.size,fun b hb hA=>l2.fr.blk b hb (fun o ho=>hA o (hsub b o ho)),fun b o hb hA=>l2.fr.cell b o hb (fun ho=>hA (hsub b o ho)),fun b o hS=>(l2.fr.new b o hS).imp id (Or.imp id (hsub b o)),fun b s hs=>(l2.fr.shape b s hs).imp id fun h o=>hsub b o (h o)⟩
  ·exact(l2.perm i blk b o (by rw[wI];exact hi) ho).imp id (hsub b o)
  ·obtain⟨j1,⟨p,cs,j2,_⟩,_⟩:=hent i _ hi;have hil:i<L.length:=(aMG.1 hi).1;rw[l2.J i p hil j2,<-j1,j2]
  ·have hil:i<L.length:=(aMG.1 hi).1;obtain⟨x',ts',h5⟩:=l2.ty i u y vs hil (by rw[wI];exact hr);rw[hi] at h5;simp only[aMt,p8.cells.injEq] at h5;exact h5.1.symm
 cases x<;>simp only[CD,aMt] at e1
 case normal=>subst e1;obtain⟨k,k0,k1,k2⟩:=e2;exact vF k k0 k1 k2
 case ret=>subst e1;obtain⟨k,k0,k1,k2⟩:=e2;exact vF k k0 k1 k2
 case exit id=>subst e1;exact e2.elim
 all_goals cases e1
open Classical in
noncomputable def qT {V:Type}(p:V->List pB) (q:V->List p8) (R:V->pG) (a:List pB) (L:List p8):Option pG:=
 if h: ∃v,p v=a/\q v=L then some (R h.choose) else none
theorem aFD {V:Type}{p:V->List pB}{q:V->List p8}{R:V->pG}{a:List pB}{L:List p8}{r:pG}(h:qT p q R a L=some r): ∃v,p v=a/\q v=L/\R v=r:=by
 unfold qT at h;split at h
 ·rename_i e;exact⟨e.choose,e.choose_spec.1,e.choose_spec.2,aMy h⟩
 ·cases h
theorem qY {V:Type}{p:V->List pB}{q:V->List p8}{R:V->pG}(inj: ∀v v',p v=p v'->q v=q v'->v=v') (v:V):qT p q R (p v) (q v)=some (R v):=by
 have h: ∃u,p u=p v/\q u=q v:=⟨v,rfl,rfl⟩;unfold qT;rw[aOF h,inj _ v h.choose_spec.1 h.choose_spec.2]
theorem a7Q: ∀{l:List Prop},(∀p∈l,p)->qE l
 |[],_=>trivial
 |[p],h=>h p (by simp)
 |p::q::r,h=>⟨h p (by simp),a7Q (l:=q::r) fun x hx=>h x (aMH _ hx)⟩
def qH (P:Program) (x:Nat×qC):Prop:=xY P x.1 x.2.C/\∀F,x.2.row=some F->QF P x.1 F
theorem qZ {P:Program}{T:rP}{Γ:t6}(hE:qG P T Γ) {f:FuncId}{fn:Func}{c:Code}{V:Type}{p:V->List pB}{q:V->List p8}{R:V->pG}{ps:List PK}{gs:List (Nat×Nat×PK)}{same:List Nat}{ts:List (Nat×Option TypeId)}(hf:P.funcs[f]? =some fn) (hb:fn.body=some c) {N:Nat}(hN:fn.ntmps=N)
  (hres:fn.results.toList=ts.map AP) (hcall: ∀args w,(callFunc f args).run P w= .ok (.enter f args) w)
  (h: ∀v,qE (R v).side->qS (q v)->Ev false P c ⟨qP 0 (p v),pO 0 (q v),pT (q v),N,pT (q v)⟩ (a7O T ts (R v)))
  (h1: ∀v,Nat.ble (p v).length N=true:=by intro _;rfl)
  (h2: ∀v,MJ (u6 0 (q v)) (p v):=by intro _;repeat (first|exact trivial|refine ⟨rfl,?_⟩))
  (h3: ∀v,MK (u6 0 (q v)) (q v):=by intro _;repeat (first|exact trivial|refine ⟨rfl,?_⟩)):qH P (f,⟨ps,qT p q R,gs,same,none⟩):=
 ⟨aFC hE.T hf hb hN hcall hres fun args L r hC hs hr=>by
  obtain⟨v,rfl,rfl,rfl⟩:=aFD hC;exact⟨aND (h1 v),h2 v,h3 v,h v (a7Q hs) hr⟩,fun _ h=>by cases h⟩
abbrev pA (n:Int):Prop:= -9223372036854775808<=n/\n<=9223372036854775807
@[go_sem] def qD:List (Nat×qC)->t6
 |[],_=>none
 |(k,s)::r,f=>if k=f then some s else qD r f
theorem qW {P:Program}:BE P (qD []):=fun _ _ h=>by cases h
theorem pR {P:Program}{x:Nat×qC}{r:List (Nat×qC)}(h:qH P x) (hr:BE P (qD r)):BE P (qD (x::r)):=fun f s hs=>by
 obtain⟨k,y⟩:=x;simp only[qD] at hs;split at hs
 ·rename_i e;subst e;cases hs;exact h
 ·exact hr f s hs
section
variable {P:Program}{T:rP}{Γ:t6}(E:qG P T Γ) {s:St}{Q:Ex->St->Prop}
include E
theorem p9 {id:Nat}{ops:Array Oper}{a:uO}{y:Code}(hq:Ev R P y a.s Q) (h:uP T Γ ops.toList ops.toList (some ⟨s,[],[]⟩)=some a:=by simp only[go_sem];rfl) (hp:qE a.side:=by exact trivial):Ev R P (.seq (.region id ops false) y) s Q:=
 pQ (a7K E h hp hq)
theorem uS {id:Nat}{ops:Array Oper}{a:uO}{y:Code}(hq:Ev R P y a.s Q) (h:uP T Γ ops.toList ops.toList (some ⟨s,[],[]⟩)=some a:=by simp only[go_sem];rfl) (hp:qE a.side:=by exact trivial) (hf:C7 ops s.nb a.es.reverse=true:=by kernel_rfl):Ev R P (.seq (.region id ops true) y) s Q:=
 pQ (a7L E h hf hp hq)
theorem rE {id:Nat}{ops:Array Oper}{a:uO}(hq:Q .normal a.s) (h:uP T Γ ops.toList ops.toList (some ⟨s,[],[]⟩)=some a:=by simp only[go_sem];rfl) (hp:qE a.side:=by exact trivial):Ev R P (.region id ops false) s Q:=
 a7K E h hp hq
theorem BH {id:Nat}{ops:Array Oper}{a:uO}(hq:Q .normal a.s) (h:uP T Γ ops.toList ops.toList (some ⟨s,[],[]⟩)=some a:=by simp only[go_sem];rfl) (hp:qE a.side:=by exact trivial) (hf:C7 ops s.nb a.es.reverse=true:=by kernel_rfl):Ev R P (.region id ops true) s Q:=
 a7L E h hf hp hq
end
theorem pL {P:Program}{s:St}{Q:Ex->St->Prop}{c:Operand}{x y:Code}{b b':Bool}{k:Option Nat}{ρ:Type}{X Y r:ρ}(hC:(if b'=true then X else Y)=r) (ht:X=r->b=true->Ev R P x s Q) (hf:Y=r->b=false->Ev R P y s Q)
  (h:sK s.env c=(.val .bool b,k):=by simp only[go_sem];rfl) (hb:b=b':=by first|rfl|simp):Ev R P (.cond c x y) s Q:=
 aFn h (fun e=>ht (aFx hC (hb▸e)) e) (fun e=>hf (aFy hC (hb▸e)) e)
theorem q9 {σ ρ:Type}[Inhabited σ] {x:Option σ}{k:σ->Option ρ}{r:ρ}(h:x.bind k=some r): ∃y,x=some y/\val x=y/\k y=some r:=by
 obtain⟨y,h1,h2⟩:=pC h;exact⟨y,h1,rI h1,h2⟩
attribute [go_sem] true_and and_true false_and and_false Nat.reduceMul List.nil_append List.cons_append List.append_nil List.toList_toArray Nat.reduceEqDiff reduceIte reduceDIte reduceCtorEq Nat.reduceAdd Nat.reduceSub Int.reduceToNat Nat.reduceLT Nat.reduceLeDiff decide_true decide_false Bool.and_self Bool.or_self Bool.or_false Bool.false_or Bool.and_true Bool.true_and Bool.not_true Bool.not_false
end Go.Proofs.YtbbpilohihldiaaGreatDoor.Vc
namespace Go.Proofs
open Go.RowKit Go.Lib
def Tryz.lays137_ren:Go.Shelf.Ren:=⟨fun|137=>135|217=>182|266=>222|n=>n,fun|9=>9|5=>5|3=>3|n=>n,fun|n=>n⟩
theorem Tryz.lays137:Go.Proofs.Lays.n137 Tryz.prog Tryz.lays137_ren:={
 mixed:=by kernel_rfl
 f137:=Tryz.func135.trans (aM0 some (by kernel_rfl))
 f217:=Tryz.func182.trans (aM0 some (by kernel_rfl))
 f266:=Tryz.func222.trans (aM0 some (by kernel_rfl))
 t3:=Tryz.underlying3
 a3:=Tryz.isAgg3
 z3:=Tryz.sizeOf3
 v3:=Tryz.zeroValue3
 t5:=Tryz.underlying5
 a5:=Tryz.isAgg5
 z5:=Tryz.sizeOf5
 v5:=Tryz.zeroValue5
 t9:=Tryz.underlying9
 a9:=Tryz.isAgg9
 z9:=Tryz.sizeOf9
 v9:=Tryz.zeroValue9}
def Tryz.lays161_ren:Go.Shelf.Ren:=⟨fun|161=>97|231=>142|227=>143|233=>144|235=>145|228=>187|197=>188|151=>189|260=>223|152=>224|137=>135|119=>260|224=>249|225=>248|217=>182|266=>222|n=>n,fun|9=>9|4=>4|3=>3|5=>5|117=>179|116=>178|0=>0|124=>182|105=>214|21=>21|119=>254|46=>219|139=>257|138=>256|n=>n,fun|3=>1|4=>2|n=>n⟩
theorem Tryz.lays161:Go.Proofs.Lays.n161 Tryz.prog Tryz.lays161_ren:={
 mixed:=by kernel_rfl
 f119:=Tryz.func260.trans (aM0 some (by kernel_rfl))
 f137:=Tryz.func135.trans (aM0 some (by kernel_rfl))
 f151:=Tryz.func189.trans (aM0 some (by kernel_rfl))
 f152:=Tryz.func224.trans (aM0 some (by kernel_rfl))
 f161:=Tryz.func97.trans (aM0 some (by kernel_rfl))
 f197:=Tryz.func188.trans (aM0 some (by kernel_rfl))
 f217:=Tryz.func182.trans (aM0 some (by kernel_rfl))
 f224:=Tryz.func249.trans (aM0 some (by kernel_rfl))
 f225:=Tryz.func248.trans (aM0 some (by kernel_rfl))
 f227:=Tryz.func143.trans (aM0 some (by kernel_rfl))
 f228:=Tryz.func187.trans (aM0 some (by kernel_rfl))
 f231:=Tryz.func142.trans (aM0 some (by kernel_rfl))
 f233:=Tryz.func144.trans (aM0 some (by kernel_rfl))
 f235:=Tryz.func145.trans (aM0 some (by kernel_rfl))
 f260:=Tryz.func223.trans (aM0 some (by kernel_rfl))
 f266:=Tryz.func222.trans (aM0 some (by kernel_rfl))
 t0:=Tryz.underlying0
 a0:=Tryz.isAgg0
 z0:=Tryz.sizeOf0
 v0:=Tryz.zeroValue0
 t3:=Tryz.underlying3
 a3:=Tryz.isAgg3
 z3:=Tryz.sizeOf3
 v3:=Tryz.zeroValue3
 t4:=Tryz.underlying4
 a4:=Tryz.isAgg4
 z4:=Tryz.sizeOf4
 v4:=Tryz.zeroValue4
 t5:=Tryz.underlying5
 a5:=Tryz.isAgg5
 z5:=Tryz.sizeOf5
 v5:=Tryz.zeroValue5
 t9:=Tryz.underlying9
 a9:=Tryz.isAgg9
 z9:=Tryz.sizeOf9
 v9:=Tryz.zeroValue9
 t21:=Tryz.underlying21
 a21:=Tryz.isAgg21
 z21:=Tryz.sizeOf21
 v21:=Tryz.zeroValue21
 t46:=Tryz.underlying219
 a46:=Tryz.isAgg219
 z46:=Tryz.sizeOf219
 v46:=Tryz.zeroValue219
 t105:=Tryz.underlying214
 a105:=Tryz.isAgg214
 z105:=Tryz.sizeOf214
 v105:=Tryz.zeroValue214
 t116:=Tryz.underlying178
 a116:=Tryz.isAgg178
 z116:=Tryz.sizeOf178
 t117:=Tryz.underlying179
 a117:=Tryz.isAgg179
 z117:=Tryz.sizeOf179
 v117:=Tryz.zeroValue179
 t119:=Tryz.underlying254
 a119:=Tryz.isAgg254
 z119:=Tryz.sizeOf254
 t124:=Tryz.underlying182
 a124:=Tryz.isAgg182
 z124:=Tryz.sizeOf182
 v124:=Tryz.zeroValue182
 t138:=Tryz.underlying256
 a138:=Tryz.isAgg256
 z138:=Tryz.sizeOf256
 v138:=Tryz.zeroValue256
 t139:=Tryz.underlying257
 a139:=Tryz.isAgg257
 z139:=Tryz.sizeOf257
 v139:=Tryz.zeroValue257
 g3:=by kernel_rfl
 g4:=by kernel_rfl}
def Tryz.lays190_ren:Go.Shelf.Ren:=⟨fun|190=>147|125=>192|258=>191|128=>234|129=>235|302=>225|303=>226|304=>227|305=>228|306=>229|307=>230|308=>231|309=>232|310=>233|333=>261|329=>262|330=>263|334=>264|335=>265|336=>266|344=>279|n=>n,fun|31=>23|9=>9|3=>3|46=>219|0=>0|51=>241|53=>243|4=>4|183=>235|182=>234|131=>57|5=>5|218=>258|222=>262|228=>272|229=>224|n=>n,fun|n=>n⟩
theorem Tryz.lays190:Go.Proofs.Lays.n190 Tryz.prog Tryz.lays190_ren:={
 mixed:=by kernel_rfl
 f125:=Tryz.func192.trans (aM0 some (by kernel_rfl))
 f128:=Tryz.func234.trans (aM0 some (by kernel_rfl))
 f129:=Tryz.func235.trans (aM0 some (by kernel_rfl))
 f190:=Tryz.func147.trans (aM0 some (by kernel_rfl))
 f258:=Tryz.func191.trans (aM0 some (by kernel_rfl))
 f302:=Tryz.func225.trans (aM0 some (by kernel_rfl))
 f303:=Tryz.func226.trans (aM0 some (by kernel_rfl))
 f304:=Tryz.func227.trans (aM0 some (by kernel_rfl))
 f305:=Tryz.func228.trans (aM0 some (by kernel_rfl))
 f306:=Tryz.func229.trans (aM0 some (by kernel_rfl))
 f307:=Tryz.func230.trans (aM0 some (by kernel_rfl))
 f308:=Tryz.func231.trans (aM0 some (by kernel_rfl))
 f309:=Tryz.func232.trans (aM0 some (by kernel_rfl))
 f310:=Tryz.func233.trans (aM0 some (by kernel_rfl))
 f329:=Tryz.func262.trans (aM0 some (by kernel_rfl))
 f330:=Tryz.func263.trans (aM0 some (by kernel_rfl))
 f333:=Tryz.func261.trans (aM0 some (by kernel_rfl))
 f334:=Tryz.func264.trans (aM0 some (by kernel_rfl))
 f335:=Tryz.func265.trans (aM0 some (by kernel_rfl))
 f336:=Tryz.func266.trans (aM0 some (by kernel_rfl))
 f344:=Tryz.func279.trans (aM0 some (by kernel_rfl))
 t0:=Tryz.underlying0
 a0:=Tryz.isAgg0
 z0:=Tryz.sizeOf0
 v0:=Tryz.zeroValue0
 t3:=Tryz.underlying3
 a3:=Tryz.isAgg3
 z3:=Tryz.sizeOf3
 v3:=Tryz.zeroValue3
 t4:=Tryz.underlying4
 a4:=Tryz.isAgg4
 z4:=Tryz.sizeOf4
 v4:=Tryz.zeroValue4
 t5:=Tryz.underlying5
 a5:=Tryz.isAgg5
 z5:=Tryz.sizeOf5
 v5:=Tryz.zeroValue5
 t9:=Tryz.underlying9
 a9:=Tryz.isAgg9
 z9:=Tryz.sizeOf9
 v9:=Tryz.zeroValue9
 t31:=Tryz.underlying23
 a31:=Tryz.isAgg23
 z31:=Tryz.sizeOf23
 v31:=Tryz.zeroValue23
 t46:=Tryz.underlying219
 a46:=Tryz.isAgg219
 z46:=Tryz.sizeOf219
 v46:=Tryz.zeroValue219
 t51:=Tryz.underlying241
 a51:=Tryz.isAgg241
 z51:=Tryz.sizeOf241
 v51:=Tryz.zeroValue241
 t53:=Tryz.underlying243
 a53:=Tryz.isAgg243
 z53:=Tryz.sizeOf243
 v53:=Tryz.zeroValue243
 t131:=Tryz.underlying57
 a131:=Tryz.isAgg57
 z131:=Tryz.sizeOf57
 v131:=Tryz.zeroValue57
 t182:=Tryz.underlying234
 a182:=Tryz.isAgg234
 z182:=Tryz.sizeOf234
 v182:=Tryz.zeroValue234
 t183:=Tryz.underlying235
 a183:=Tryz.isAgg235
 z183:=Tryz.sizeOf235
 v183:=Tryz.zeroValue235
 t218:=Tryz.underlying258
 a218:=Tryz.isAgg258
 z218:=Tryz.sizeOf258
 v218:=Tryz.zeroValue258
 t222:=Tryz.underlying262
 a222:=Tryz.isAgg262
 z222:=Tryz.sizeOf262
 v222:=Tryz.zeroValue262
 t228:=Tryz.underlying272
 a228:=Tryz.isAgg272
 z228:=Tryz.sizeOf272
 v228:=Tryz.zeroValue272
 t229:=Tryz.underlying224
 a229:=Tryz.isAgg224
 z229:=Tryz.sizeOf224
 v229:=Tryz.zeroValue224}
def Tryz.lays196_ren:Go.Shelf.Ren:=⟨fun|196=>243|259=>271|n=>n,fun|0=>0|3=>3|4=>4|5=>5|9=>9|12=>12|46=>219|53=>243|119=>254|138=>256|139=>257|n=>n,fun|3=>1|4=>2|n=>n⟩
theorem Tryz.lays196:Go.Proofs.Lays.n196 Tryz.prog Tryz.lays196_ren:={
 mixed:=by kernel_rfl
 f196:=Tryz.func243.trans (aM0 some (by kernel_rfl))
 f259:=Tryz.func271.trans (aM0 some (by kernel_rfl))
 t0:=Tryz.underlying0
 a0:=Tryz.isAgg0
 z0:=Tryz.sizeOf0
 v0:=Tryz.zeroValue0
 t3:=Tryz.underlying3
 a3:=Tryz.isAgg3
 z3:=Tryz.sizeOf3
 v3:=Tryz.zeroValue3
 t4:=Tryz.underlying4
 a4:=Tryz.isAgg4
 z4:=Tryz.sizeOf4
 v4:=Tryz.zeroValue4
 t5:=Tryz.underlying5
 a5:=Tryz.isAgg5
 z5:=Tryz.sizeOf5
 v5:=Tryz.zeroValue5
 t9:=Tryz.underlying9
 a9:=Tryz.isAgg9
 z9:=Tryz.sizeOf9
 v9:=Tryz.zeroValue9
 t12:=Tryz.underlying12
 a12:=Tryz.isAgg12
 z12:=Tryz.sizeOf12
 v12:=Tryz.zeroValue12
 t46:=Tryz.underlying219
 a46:=Tryz.isAgg219
 z46:=Tryz.sizeOf219
 v46:=Tryz.zeroValue219
 t53:=Tryz.underlying243
 a53:=Tryz.isAgg243
 z53:=Tryz.sizeOf243
 v53:=Tryz.zeroValue243
 t119:=Tryz.underlying254
 a119:=Tryz.isAgg254
 z119:=Tryz.sizeOf254
 t138:=Tryz.underlying256
 a138:=Tryz.isAgg256
 z138:=Tryz.sizeOf256
 v138:=Tryz.zeroValue256
 t139:=Tryz.underlying257
 a139:=Tryz.isAgg257
 z139:=Tryz.sizeOf257
 v139:=Tryz.zeroValue257
 g3:=by kernel_rfl
 g4:=by kernel_rfl}
def Tryz.lays240_ren:Go.Shelf.Ren:=⟨fun|240=>93|276=>133|n=>n,fun|0=>0|4=>4|9=>9|20=>20|70=>82|72=>84|164=>168|37=>42|n=>n,fun|n=>n⟩
theorem Tryz.lays240:Go.Proofs.Lays.n240 Tryz.prog Tryz.lays240_ren:={
 mixed:=by kernel_rfl
 f240:=Tryz.func93.trans (aM0 some (by kernel_rfl))
 f276:=Tryz.func133.trans (aM0 some (by kernel_rfl))
 t0:=Tryz.underlying0
 a0:=Tryz.isAgg0
 z0:=Tryz.sizeOf0
 v0:=Tryz.zeroValue0
 t4:=Tryz.underlying4
 a4:=Tryz.isAgg4
 z4:=Tryz.sizeOf4
 v4:=Tryz.zeroValue4
 t9:=Tryz.underlying9
 a9:=Tryz.isAgg9
 z9:=Tryz.sizeOf9
 v9:=Tryz.zeroValue9
 t20:=Tryz.underlying20
 a20:=Tryz.isAgg20
 z20:=Tryz.sizeOf20
 v20:=Tryz.zeroValue20
 t70:=Tryz.underlying82
 a70:=Tryz.isAgg82
 z70:=Tryz.sizeOf82
 v70:=Tryz.zeroValue82
 t72:=Tryz.underlying84
 a72:=Tryz.isAgg84
 z72:=Tryz.sizeOf84
 v72:=Tryz.zeroValue84
 t164:=Tryz.underlying168
 a164:=Tryz.isAgg168
 z164:=Tryz.sizeOf168
 v164:=Tryz.zeroValue168}
theorem Tryz.builderX72:Builder.X72 Tryz.prog Tryz.lays240_ren:={
 sizeBuilder:=by kernel_rfl
 liesBuilder:=by kernel_rfl}
def Tryz.lays169_ren:Go.Shelf.Ren:=⟨fun|169=>54|n=>n,fun|70=>82|9=>9|0=>0|72=>84|37=>42|127=>125|3=>3|5=>5|n=>n,fun|n=>n⟩
theorem Tryz.lays169:Go.Proofs.Lays.n169 Tryz.prog Tryz.lays169_ren:={
 mixed:=by kernel_rfl
 f169:=Tryz.func54.trans (aM0 some (by kernel_rfl))
 t0:=Tryz.underlying0
 a0:=Tryz.isAgg0
 z0:=Tryz.sizeOf0
 v0:=Tryz.zeroValue0
 t3:=Tryz.underlying3
 a3:=Tryz.isAgg3
 z3:=Tryz.sizeOf3
 v3:=Tryz.zeroValue3
 t9:=Tryz.underlying9
 a9:=Tryz.isAgg9
 z9:=Tryz.sizeOf9
 v9:=Tryz.zeroValue9
 t37:=Tryz.underlying42
 a37:=Tryz.isAgg42
 z37:=Tryz.sizeOf42
 v37:=Tryz.zeroValue42
 t70:=Tryz.underlying82
 a70:=Tryz.isAgg82
 z70:=Tryz.sizeOf82
 v70:=Tryz.zeroValue82
 t72:=Tryz.underlying84
 a72:=Tryz.isAgg84
 z72:=Tryz.sizeOf84
 v72:=Tryz.zeroValue84
 t127:=Tryz.underlying125
 a127:=Tryz.isAgg125
 z127:=Tryz.sizeOf125
 v127:=Tryz.zeroValue125}
theorem Tryz.builderExtra:Builder.Extra Tryz.prog Tryz.lays169_ren:={
 sizeBuilder:=by kernel_rfl
 liesBuilder:=by kernel_rfl
 t5:=Tryz.underlying5
 a5:=Tryz.isAgg5
 z5:=Tryz.sizeOf5
 v5:=Tryz.zeroValue5
 infoByte:=by kernel_rfl
 cellsByte:=by kernel_rfl
 sizeByte:=by kernel_rfl
 neB5:=by decide}
end Go.Proofs
namespace Go.Proofs.YtbbpilohihldiaaGreatDoor
open Vc Go.RowKit
theorem aFE {g:Gh}{w w':World}(hH:rH g w (pO 0 [])) (hb:Below w.heap.size w w'):rH g w' (pO 0 []):=
 ⟨fun _ _ h=>(by cases h),fun _ _ _ _ _ _ _ h=>(by cases h),fun b o h=>aM8 (hH.sl b o h) hb.size,⟨LB hH.tab.1 hb.size fun b h=>hb.block b (aM8 h hH.tab.1.1),fun _ _ _ _ h=>(by cases h)⟩⟩
theorem JJ {P:Program}{f:FuncId}{C:List pB->List p8->Option pG}(hen: ∀args w,(callFunc f args).run P w= .ok (.enter f args) w)
  (h: ∀(g:Gh) (w:World) (args:List pB) (vals:List Value) (L:List p8) (r:pG),G6 w->tY g w args vals->C args L=some r->(∀p∈r.side,p)->
   L=[]/\r.H=[]/\Calls P f vals.toArray w (fun e w'=> ∃v,e= .returned v/\Below w.heap.size w w'/\MB g w' r.ret v)):xY P f C:=by
 refine⟨hen,fun g w args vals L r hH ha hC hs=> ?_⟩;obtain⟨rfl,hr,hc⟩:=h g w args vals L r hH.tab.1 ha hC hs;refine hc.mono fun e w' ⟨v,he,hb,hv⟩=>⟨v,g,he,⟨fun b o h=>⟨h,hb.cell (p:=⟨b,o,none⟩) (hH.sl b o h)⟩,by rw[hr];exact aFE hH hb,hv,⟨hb.os,hb.tape,hb.output,hb.size,fun b h _=>hb.block b h,fun b o h _=>⟨hb.cell (p:=⟨b,o,none⟩) h,hb.frozen (p:=⟨b,o,none⟩) h⟩,fun b o h=> .inl h,fun b s h=> .inl ((BA (hb.block b (B9 h))).trans h)⟩,(fun i blk b o h=>by rw[hr] at h;cases h),(fun i t x ts h=>by cases h),(fun i t x ts u y us h=>by cases h),(fun _ _ _ h=>h),(fun _ _ _ _ h=>h)⟩⟩
theorem aFF {P:Program}{f:FuncId}{vals:Array Value}{w:World}{Q:Ending->Prop}(h:Calls P f vals w fun e w'=>Q e/\w'=w):Calls P f vals w fun e w'=>Q e/\Below w.heap.size w w':=
 h.mono fun e w' ⟨h1,h2⟩=>⟨h1,by rw[h2];exact Below.refl _ _⟩
def tQ (s:List UInt8) (c:Int):Int:=Lib.indexByte s (Int.toNat c).toUInt8
@[go_sem] def X4:List pB->List p8->Option pG
 |[(.val .str O,none),(.val (.int .u8) Z,none)],[]=>some ⟨[],[(.val (.int .i64) (tQ O Z),none)],[]⟩
 |_,_=>none
theorem aFG:xY Tryz.prog 135 X4:=by
 refine JJ (fun _ _=>rfl) fun g w args vals L r hT ha hC hs=> ?_;unfold X4 at hC;split at hC
 ·rename_i s c;cases hC;obtain⟨va,_,rfl,ra,vb,_,rfl,rb,hv⟩:=ha;obtain rfl:=wW ra.1;obtain rfl:=uI rb.1;cases hv;exact⟨rfl,rfl,(aFF (Any.strings_IndexByte Tryz.lays137 ⟨List.toArray s⟩ c w)).mono fun e w' ⟨he,hb⟩=>⟨_,he,hb,v6 _ _ _ _,trivial⟩⟩
 ·cases hC
@[go_sem] def X5:List pB->List p8->Option pG
 |[(.val .str O,none),(.val .str Z,none)],[]=>some ⟨[(List.all Z fun b=>decide (b.toNat<128))=true/\List.length Z<4294967281],[(.val .str (Lib.trimLeftS O Z),none)],[]⟩
 |_,_=>none
theorem aFH:xY Tryz.prog 97 X5:=by
 refine JJ (fun _ _=>rfl) fun g w args vals L r hT ha hC hs=> ?_;unfold X5 at hC;split at hC
 ·rename_i s c;cases hC;obtain⟨h1,h2⟩:=hs _ aMO;obtain⟨va,_,rfl,ra,vb,_,rfl,rb,hv⟩:=ha;obtain rfl:=wW ra.1;obtain rfl:=wW rb.1;cases hv;exact⟨rfl,rfl,(Any.strings_TrimLeft_laid Tryz.lays161 (by kernel_rfl) ⟨List.toArray s⟩ ⟨List.toArray c⟩ w h2 (ascii_of_all h1)).mono fun e w' ⟨he,hb⟩=>⟨_,he,hb,CA _ _ _,trivial⟩⟩
 ·cases hC
@[go_sem] def X6:List pB->List p8->Option pG
 |[(.val .str O,none)],[]=>some ⟨[List.length O<=9223372036854775807],[(.val .bool (Lib.validD O),none)],[]⟩
 |_,_=>none
theorem aFI:xY Tryz.prog 243 X6:=by
 refine JJ (fun _ _=>rfl) fun g w args vals L r hT ha hC hs=> ?_;unfold X6 at hC;split at hC
 ·rename_i s;cases hC;have h1:=hs _ aMO;obtain⟨va,_,rfl,ra,hv⟩:=ha;obtain rfl:=wW ra.1;cases hv;exact⟨rfl,rfl,(Any.utf8_ValidString Tryz.lays196 ⟨List.toArray s⟩ w h1 hT.2.1).mono fun e w' ⟨he,hb⟩=>⟨_,he,hb,uU _ _ _,trivial⟩⟩
 ·cases hC
end Go.Proofs.YtbbpilohihldiaaGreatDoor
