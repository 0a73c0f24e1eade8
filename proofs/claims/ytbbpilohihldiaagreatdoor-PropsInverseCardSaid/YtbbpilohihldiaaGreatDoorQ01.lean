/- Packed by a program of mine (wip/tools/pack.py): the same texts with short names and few blanks. -/
import Derived.ChangeKeysEq
import Derived.KernelRfl
import Derived.Laws.BytesArg
import Derived.Laws.StructEq
import Derived.Lib.AppendStr
import Derived.OrdersIn
import Derived.RangeFuncLeaves
import Derived.RangeFuncNested
import Derived.Scope
import Derived.Shelf.Slices.Clone
import Derived.Shelf.Slices.In.SortNone
import Derived.Shelf.Small.Utf8
import Derived.Shelf.Sort.Plain
import Derived.Shelf.Strings.Builder1
import Derived.Shelf.Strings.Runes
import Derived.Shelf.Strings.Search1
import Derived.Shelf.Strings.Search3
import Derived.Shelf.Strings.SlTrimAscii
import Derived.Shelf.Strings.Trim
import Derived.Shelf.Unicode.DecodeAny
import Derived.Shelf.Unicode.ValidAny
import Derived.Test.YtbbpilohihldiaaGreatDoorProg
import Derived.WalkSpells
import Derived.Test.YtbbpilohihldiaaGreatDoorQ00
set_option linter.unusedVariables false
set_option linter.unusedSimpArgs false
set_option linter.unusedSectionVars false
set_option maxRecDepth 100000
set_option maxHeartbeats 4000000
namespace Go.Proofs.YtbbpilohihldiaaGreatDoor.Vc
open Go.RowKit
theorem a8p {H:rD}{ws more:List q6}: ∀{wh:q6}{b:p9},RW H ws wh b->RW H (ws++more) wh b
 | .box _ _ _ _ _,.cells _ _ _,⟨h1,h2,h4⟩=>⟨h1,h2,fun q n h=>let ⟨k,k1,k2⟩:=h4 q n h;⟨k,by rw[aP7 (aP0.1 k1).1];exact k1,k2⟩⟩
 | .box _ _ _ _ _,.grow _ _ _,h=>h.elim
 | .box _ _ _ _ _,.dead,h=>h.elim
 | .box _ _ _ _ _,.row _ _ _ _,h=>h.elim
 | .box _ _ _ _ _,.map _ _ _,h=>h.elim
 | .box _ _ _ _ _,.iter _ _,h=>h.elim
 | .tok _,.iter _ _,h=>h.elim
 | .tok _,.row _ _ _ _,h=>h
 | .tok _,.grow _ _ _,h=>h
 | .tok _,.map _ _ _,h=>h
 | .tok _,.cells _ _ _,h=>h.elim
 | .tok _,.dead,h=>h.elim
theorem KB (g:Gh) (w:World) (ws more:List q6):Le (uC g ws) w (uC g (ws++more)) w:=by
 refine⟨fun _ _ h=>h,fun _ _ _=>rfl,fun c p h=> ?_,fun c n v h=> ?_⟩
 ·have h':vA g ws[c]? =some p:=h;show vA g (ws++more)[c]? =some p;cases hc:ws[c]? with
  |none=>rw[hc] at h';cases h'
  |some wh=>rw[aP7 (aP0.1 hc).1];exact h'
 ·have h':zO g ws[c]? n=some v:=h;show zO g (ws++more)[c]? n=some v;cases hc:ws[c]? with
  |none=>rw[hc] at h';cases h'
  |some wh=>rw[aP7 (aP0.1 hc).1];exact h'
theorem KC {g g':Gh}{w w':World}(h:Le g w g' w'): ∀{ss:List pB}{vs:List Value},uL g w ss vs->uL g' w' ss vs
 |[],_,r=>r
 |_::_,_,⟨v,vs',e,r1,r2⟩=>⟨v,vs',e,zM h r1,KC h r2⟩
theorem FZ {g:Gh}{w:World}: ∀{ss:List pB}{vs:List Value}{s:pB}{v:Value},uL g w ss vs->qH g w s v->uL g w (ss++[s]) (vs++[v])
 |[],_,_,_,h,k=>by rw[show _=[] from h];exact⟨_,_,rfl,k,rfl⟩
 |_::_,_,_,_,⟨v,vs',e,r1,r2⟩,k=>⟨v,vs'++_,by rw[e];rfl,r1,FZ r2 k⟩
theorem E4.tok {H:rD}{ws:List q6}{L:List p9}(h:E4 H ws L) {k:Nat}{b0:p9}(hk:RW H (ws++[.tok k]) (.tok k) b0) (hn:k∉rG ws):E4 H (ws++[.tok k]) (L++[b0]):=by
 refine⟨by simp [h.len],fun i wh b h1 h2=> ?_,?_⟩
 ·by_cases hi:i<ws.length
  ·rw[aP7 hi] at h1;rw[aP7 (h.len▸hi)] at h2;exact a8p (h.ok i wh b h1 h2)
  ·rw[aPX (by omega)] at h1;rw[aPX (by rw[<-h.len];omega),<-h.len] at h2;obtain⟨d,hd⟩: ∃d,i-ws.length=d:=⟨_,rfl⟩;rw[hd] at h1 h2;cases d with
   |zero=>
    simp only[aQi,aPN] at h1 h2;subst h1;subst h2;exact hk
   |succ d=>simp at h1
 ·rw[FY];exact List.nodup_append.2 ⟨h.nodup,by simp [rG],fun a ha b hb=>by
   simp only[rG,q6.id,aPY] at hb;subst hb;intro e;exact hn (e▸ha)⟩
theorem a8q: ∀{os:List Nat}{n q m:Nat},(q,m)∈HF os n->∃j:Nat,os[j]? =some q/\m=n+j
 |[],_,_,_,h=>by simp [HF] at h
 |q'::os,n,q,m,h=>by
  simp only[HF,aP2,aQh] at h;rcases h with⟨rfl,rfl⟩ |h
  ·exact⟨0,rfl,rfl⟩
  ·obtain⟨j,h1,h2⟩:=a8q h;exact⟨j+1,by simpa using h1,by omega⟩
theorem a8r {n:Nat}: ∀{os:List Nat}{j q:Nat},JN n os=true->os[j]? =some q->q<n
 |[],_,_,_,h=>by simp at h
 |q'::os,0,q,h,h2=>by
  simp only[JN,aPT,aPQ] at h;simp only[aQi,aPN] at h2;exact h2▸h.1
 |q'::os,j+1,q,h,h2=>by
  simp only[JN,aPT] at h;exact a8r h.2 (by simpa using h2)
theorem S1 {H:rD}{toks:List (Nat×Nat)}{o:Nat}: ∀{os:List Nat}{a a':rX},x5 H toks o os (some a)=some a'->
  ∃(ks:List Nat) (bs:List p9),ks.length=os.length/\bs.length=os.length/\a'.args=a.args/\a'.H.reverse=a.H.reverse++bs/\a'.ws.reverse=a.ws.reverse++ks.map q6.tok/\a'.n=a.n+os.length/\
   (∀(j:Nat) q k,os[j]? =some q->ks[j]? =some k->w5 toks (o+q)=some k)/\(∀(j:Nat) k b,ks[j]? =some k->bs[j]? =some b->pD H k=some b/\∃e c m,b= .grow e c m)/\(∀k∈ks,k∉rG a.ws.reverse)/\ks.Nodup
 |[],a,a',h=>by
  simp only[x5,aPN] at h;subst h;exact⟨[],[],rfl,rfl,rfl,by simp,by simp,rfl,by simp,by simp,by simp,by simp⟩
 |q::os,a,a',h=>by
  simp only[x5] at h;have none_no: ∀os,x5 H toks o os none=none:=by
   intro os
   induction os with
   |nil=>rfl
   |cons q os ih=>
    have:xV H (w5 toks (o+q)) none=none:=by
     cases w5 toks (o+q) with
     |none=>rfl
     |some k=>simp only[xV];cases pD H k with
      |none=>rfl
      |some b=>cases b<;>rfl
    simp only[x5,this,ih]
  cases hk:w5 toks (o+q) with
  |none=>rw[hk] at h;simp only[xV,none_no] at h;cases h
  |some k=>
   rw[hk] at h;simp only[xV] at h;cases hb:pD H k with
   |none=>rw[hb] at h;simp only[A9,none_no] at h;cases h
   |some b=>
    rw[hb] at h;cases b with
    |grow e c m=>
     simp only[A9] at h;by_cases hm:AX k (rG a.ws)=true
     ·rw[if_pos hm,none_no] at h;cases h
     ·rw[if_neg hm] at h;obtain⟨ks,bs,h1,h2,h3,h4,h5,h6,h7,h8,h9,h10⟩:=S1 h;simp only[aQB] at h4 h5 h9;have hrev: ∀ws:List q6,∀i,i∈rG ws.reverse↔i∈rG ws:=by
       intro ws i
       induction ws with
       |nil=>simp
       |cons x r ih=>rw[aQB,FY];simp [rG,ih,or_comm]
      refine⟨k::ks,.grow e c m::bs,by simp [h1],by simp [h2],h3,by rw[h4];simp,by rw[h5];simp,by rw[h6];simp;omega,fun j q' k'=> ?_,fun j k' b'=> ?_,fun k' hk'=> ?_,?_⟩
      ·cases j with
       |zero=>intro e1 e2;simp only[aQi,aPN] at e1 e2;subst e1;subst e2;exact hk
       |succ j=>intro e1 e2;exact h7 j q' k' (by simpa using e1) (by simpa using e2)
      ·cases j with
       |zero=>intro e1 e2;simp only[aQi,aPN] at e1 e2;subst e1;subst e2;exact⟨hb,_,_,_,rfl⟩
       |succ j=>intro e1 e2;exact h8 j k' b' (by simpa using e1) (by simpa using e2)
      ·rcases aP2.1 hk' with rfl|hk'
       ·rw[hrev];exact fun hmem=>hm (I0.2 hmem)
       ·intro hmem;exact h9 k' hk' (by rw[FY];exact List.mem_append_left _ hmem)
      ·refine List.nodup_cons.2 ⟨fun hmem=>h9 k hmem (by rw[FY];simp [rG,q6.id]),h10⟩
    |cells t y ts=>simp only[A9,none_no] at h;cases h
    |row=>simp only[A9,none_no] at h;cases h
    |map=>simp only[A9,none_no] at h;cases h
    |iter=>simp only[A9,none_no] at h;cases h
    |dead=>simp only[A9,none_no] at h;cases h
theorem a8s: ∀ks:List Nat,rG (ks.map q6.tok)=ks
 |[]=>rfl
 |k::ks=>by simp [rG,q6.id,a8s ks]
theorem E4.box {H:rD}{ws:List q6}{L:List p9}(h:E4 H ws L) {t u:Ty}{x:u.den}{y:t.den}{toks:List (Nat×Nat)}{i o:Nat}{os ks:List Nat}{bs:List p9}(hi:pD H i=some (.cells u x toks)) (hy:pW t u x o=some y) (hlt:JN t.cells os=true) (hn:i∉rG ws)
  (h1:ks.length=os.length) (h2:bs.length=os.length) (h7: ∀(j:Nat) q k,os[j]? =some q->ks[j]? =some k->w5 toks (o+q)=some k) (h8: ∀(j:Nat) k b,ks[j]? =some k->bs[j]? =some b->pD H k=some b/\∃e c m,b= .grow e c m) (h9: ∀k∈ks,k∉rG (ws++[.box i u x toks o])) (h10:ks.Nodup):
  E4 H ((ws++[.box i u x toks o])++ks.map q6.tok) ((L++[.cells t y (HF os (ws.length+1))])++bs):=by
 have hlen1:(ws++[q6.box i u x toks o]).length=ws.length+1:=by simp
 have hlen2:(L++[p9.cells t y (HF os (ws.length+1))]).length=ws.length+1:=by simp [h.len]
 refine⟨by simp [h.len,h1,h2],fun c wh b e1 e2=> ?_,?_⟩
 ·by_cases hc:c<ws.length
  ·rw[aP7 (by omega),aP7 hc] at e1;rw[aP7 (by omega),aP7 (h.len▸hc)] at e2;rw[aPW];exact a8p (h.ok c wh b e1 e2)
  ·by_cases hc2:c=ws.length
   ·subst hc2;rw[aP7 (by omega),aPX (Nat.le_refl _),aRQ] at e1;rw[aP7 (by omega),aPX (by rw[h.len];exact Nat.le_refl _),h.len,aRQ] at e2;simp only[aQi,aPN] at e1 e2;subst e1;subst e2;refine⟨hi,hy,fun q n hm=> ?_⟩;rw[<-h.len] at hm;obtain⟨j,hj,rfl⟩:=a8q hm;have hjl:j<ks.length:=by rw[h1];exact(aP0.1 hj).1
    refine⟨ks[j],?_,h7 j q _ hj (aPU hjl),a8r hlt hj⟩;rw[aPX (by omega),hlen1,show ws.length+1+j- (ws.length+1)=j from by omega];simp [hjl]
   ·rw[aPX (by omega),hlen1] at e1;rw[aPX (by omega),hlen2] at e2;rw[List.getElem?_map] at e1;obtain⟨k,hk,rfl⟩:=aP3.1 e1;obtain⟨hg,e,cc,m,rfl⟩:=h8 _ k b hk e2;exact hg
 ·rw[FY,a8s];refine List.nodup_append.2 ⟨?_,h10,fun a ha b hb e=>h9 b hb (e▸ha)⟩;rw[FY];exact List.nodup_append.2 ⟨h.nodup,by simp [rG],fun a ha b hb=>by
   simp only[rG,q6.id,aPY] at hb;subst hb;intro e;exact hn (e▸ha)⟩
theorem S2 (ws:List q6) (i:Nat):i∈rG ws.reverse↔i∈rG ws:=by
 induction ws with
 |nil=>simp
 |cons x r ih=>rw[aQB,FY];simp [rG,ih,or_comm]
structure zP (g:Gh) (w:World) (H:rD) (vals:List Value) (a:rX):Prop where
 n:a.n=a.ws.reverse.length
 m:E4 H a.ws.reverse a.H.reverse
 args:uL (uC g a.ws.reverse) w a.args.reverse vals
theorem aHi {g:Gh}{w:World}{ws:List q6}{t:Ty}(hp:t.pure=true) {x:t.den}{v:Value}{k:Option Nat}(h:qH g w (.val t x,k) v):qH (uC g ws) w (.val t x,none) v:=
 ⟨h.1.imp (fun⟨a,cs,e,q⟩=>⟨a,cs,e,uV (g:=g) (g':=uC g ws) rfl hp q⟩) (fun⟨a,q⟩=>⟨a,uV (g:=g) (g':=uC g ws) rfl hp q⟩),trivial⟩
theorem aHj {H:rD}{k:Option Nat}{a b:rX}{l m:List pB}(h:xV H k (some ⟨l,a.H,a.ws,a.n⟩)=some b):b.args=l/\xV H k (some ⟨m,a.H,a.ws,a.n⟩)=some ⟨m,b.H,b.ws,b.n⟩:=by
 cases k with
 |none=>cases h
 |some k=>
  simp only[xV] at h⊢;cases hb:pD H k with
  |none=>rw[hb] at h;simp [A9] at h
  |some bl=>
   rw[hb] at h;cases bl with
   |grow e c n=>
    simp only[A9] at h⊢;split at h
    ·cases h
    ·rename_i hc;rw[if_neg hc];cases h;exact⟨rfl,rfl⟩
   |_=>simp [A9] at h
theorem a8t {H:rD}{toks:List (Nat×Nat)}{o:Nat}{m:List pB}: ∀{os:List Nat}{a b:rX},x5 H toks o os (some a)=some b->b.args=a.args/\x5 H toks o os (some ⟨m,a.H,a.ws,a.n⟩)=some ⟨m,b.H,b.ws,b.n⟩
 |[],a,b,h=>by simp only[x5,aPN] at h;subst h;exact⟨rfl,rfl⟩
 |q::os,a,b,h=>by
  simp only[x5] at h⊢;have none_no: ∀os,x5 H toks o os none=none:=by
   intro os
   induction os with
   |nil=>rfl
   |cons q os ih=>
    have:xV H (w5 toks (o+q)) none=none:=by
     cases w5 toks (o+q) with
     |none=>rfl
     |some k=>simp only[xV];cases pD H k with
      |none=>rfl
      |some b=>cases b<;>rfl
    simp only[x5,this,ih]
  cases hm:xV H (w5 toks (o+q)) (some a) with
  |none=>rw[hm,none_no] at h;cases h
  |some c=>
   rw[hm] at h;obtain⟨h1,h2⟩:=aHj (a:=a) (l:=a.args) (m:=m) hm;obtain⟨h3,h4⟩:=a8t (m:=m) h;rw[h2];exact⟨h3.trans h1,h4⟩
theorem aHk {H:rD}{t:Ty}{os:List Nat}{i o:Nat}{a b:rX}{m:List pB}(h:uU H t os i o a (pD H i)=some b):uU H t os i o ⟨m,a.H,a.ws,a.n⟩ (pD H i)=some ⟨(.val .ref (some (a.n,0)),none)::m,b.H,b.ws,b.n⟩:=by
 cases hb:pD H i with
 |none=>rw[hb] at h;simp [uU] at h
 |some bl=>
  rw[hb] at h;cases bl with
  |cells u x toks=>
   simp only[uU] at h⊢;cases hy:pW t u x o with
   |none=>rw[hy] at h;simp [CI] at h
   |some y=>
    rw[hy] at h;simp only[CI] at h⊢;split at h
    ·rename_i hc;rw[if_pos hc];exact(a8t (m:=(.val .ref (some (a.n,0)),none)::m) h).2
    ·cases h
  |_=>simp [uU] at h
theorem a8u {g:Gh}{i o:Nat}{p:Pl}{v:Value}: ∀{l:List (Nat×Nat)}{vs:List Value},wR g l vs->g.J i=some p->v= .pointer (some ⟨p.1,p.2+o,none⟩)->wR g (l++[(i,o)]) (vs++[v])
 |[],vs,h,hp,hv=>by rw[show vs=[] from h];exact⟨p,[],hp,by rw[hv];rfl,rfl⟩
 |(_,_)::l,vs,⟨q,vs',h1,h2,h3⟩,hp,hv=>⟨q,vs'++[v],h1,by rw[h2];rfl,a8u h3 hp hv⟩
theorem a8v {α:Type}: ∀(l acc:List α),xU l acc=l.reverse++acc
 |[],_=>rfl
 |x::l,acc=>by simp [xU,a8v l]
theorem a8w {g:Gh}{w:World}{H:rD}(hH:rL g w H) {t:Ty}{os:List Nat}{i o:Nat}{vals:List Value}{a a':rX}(ha:zP g w H vals a) {p:Pl}(hp:g.J i=some p) (h:uU H t os i o a (pD H i)=some a'):
  zP g w H vals ⟨a.args,a'.H,a'.ws,a'.n⟩/\∃more,a'.ws.reverse=a.ws.reverse++more/\a'.args=(.val .ref (some (a.n,0)),none)::a.args/\(uC g a'.ws.reverse).J a.n=some ⟨p.1,p.2+o,p.3⟩:=by
 cases hb:pD H i with
 |none=>rw[hb] at h;simp [uU] at h
 |some b=>
  rw[hb] at h;cases b with
  |cells u x toks=>
   simp only[uU] at h;cases hy:pW t u x o with
   |none=>rw[hy] at h;simp [CI] at h
   |some y=>
    rw[hy] at h;simp only[CI] at h;split at h
    ·rename_i hc;simp only[aPT,aQf] at hc;obtain⟨ks,bs,h1,h2,h3,h4,h5,h6,h7,h8,h9,h10⟩:=S1 h;simp only[aQB] at h3 h4 h5 h6 h9;have hnm:i∉rG a.ws.reverse:=fun hmem=>by
      have:=I0.2 ((S2 _ _).1 hmem);rw[hc.2] at this;cases this
     have e5:a'.ws.reverse=a.ws.reverse++([q6.box i u x toks o]++ks.map q6.tok):=by rw[h5];simp only[aPW]
     refine⟨⟨by rw[h6];simp only;rw[h5,ha.n];simp [h1];omega,?_,?_⟩,_,e5,h3,?_⟩
     ·simp only;rw[h4,h5,ha.n];exact ha.m.box hb hy hc.1 hnm h1 h2 h7 h8 h9 h10
     ·simp only;rw[e5];exact KC (KB g w _ _) ha.args
     ·show vA g a'.ws.reverse[a.n]? =_;rw[e5,ha.n,aPX (Nat.le_refl _),aRQ];show (g.J i).map _=_;rw[hp];rfl
    ·cases h
  |grow=>simp [uU] at h
  |row=>simp [uU] at h
  |map=>simp [uU] at h
  |iter=>simp [uU] at h
  |dead=>simp [uU] at h
theorem a8x {H:rD}{f:FuncId}{args0:List pB}: ∀{ks:List (Ty×List Nat)}{cs ids:List (Nat×Nat)}{a a':rX},wF H f args0 ks cs ids (some a)=some a'->∃s more,a'.args=s::args0/\a'.ws.reverse=a.ws.reverse++more
 |[],[],ids,a,a',h=>by
  simp only[wF,aPN] at h;subst h;exact⟨_,[],rfl,by simp⟩
 |[],_::_,_,_,_,h=>by simp [wF] at h
 |_::_,[],_,_,_,h=>by simp [wF] at h
 |(t,os)::ks,(i,o)::cs,ids,a,a',h=>by
  simp only[wF] at h;cases hb:uU H t os i o a (pD H i) with
  |none=>rw[hb] at h;cases ks<;>cases cs<;>simp [wF] at h
  |some b=>
   rw[hb] at h;obtain⟨s,more,h1,h2⟩:=a8x h;obtain⟨more0,h3⟩: ∃more0,b.ws.reverse=a.ws.reverse++more0:=by
    unfold uU at hb;split at hb
    ·unfold CI at hb;split at hb
     ·split at hb
      ·obtain⟨ks,bs,_,_,_,_,h5,_⟩:=S1 hb;exact⟨_,by rw[h5];simp only[aQB];exact aPW ..⟩
      ·cases hb
     ·cases hb
    ·cases hb
   exact⟨s,more0++more,h1,by rw[h2,h3,aPW]⟩
theorem a8y {g:Gh}{w:World}{H:rD}(hH:rL g w H) {f:FuncId}{args0:List pB}{vals:List Value}: ∀{ks:List (Ty×List Nat)}{cs:List (Nat×Nat)}{ids:List (Nat×Nat)}{vs us:List Value}{a a':rX},zP g w H vals ⟨args0,a.H,a.ws,a.n⟩->
  wR g cs vs->wR (uC g a.ws.reverse) ids.reverse us->wF H f args0 ks cs ids (some a)=some a'->
  zP g w H vals ⟨args0,a'.H,a'.ws,a'.n⟩/\∃ids',a'.args=(.val .clo (some (f,ids')),none)::args0/\(∃more,a'.ws.reverse=a.ws.reverse++more)/\wR (uC g a'.ws.reverse) ids' (us++vs)
 |[],[],ids,vs,us,a,a',ha,hv,hu,h=>by
  simp only[wF,a8v,List.append_nil,aPN] at h;subst h;rw[show vs=[] from hv,List.append_nil];exact⟨ha,_,rfl,⟨[],by simp⟩,hu⟩
 |[],_::_,_,_,_,_,_,_,_,_,h=>by simp [wF] at h
 |_::_,[],_,_,_,_,_,_,_,_,h=>by simp [wF] at h
 |(t,os)::ks,(i,o)::cs,ids,vs,us,a,a',ha,⟨p,vs',hp,hv1,hv2⟩,hu,h=>by
  simp only[wF] at h;cases hb:uU H t os i o a (pD H i) with
  |none=>rw[hb] at h;cases ks<;>cases cs<;>simp [wF] at h
  |some b=>
   rw[hb] at h;have hb':uU H t os i o ⟨args0,a.H,a.ws,a.n⟩ (pD H i)=some ⟨(.val .ref (some (a.n,0)),none)::args0,b.H,b.ws,b.n⟩:=aHk hb;obtain⟨q1,more,q2,q3,q4⟩:=a8w hH ha hp hb';simp only at q1 q2 q3 q4;have hmono:=KB g w a.ws.reverse more;rw[<-q2] at hmono;have hu2:wR (uC g b.ws.reverse) ((a.n,0)::ids).reverse (us++[.pointer (some ⟨p.1,p.2+o,none⟩)]):=by
    simp only[aQB];exact a8u (WA hmono.J hu) q4 (by simp)
   obtain⟨z1,ids',z2,⟨more',z3⟩,z4⟩:=a8y hH (a:=b) q1 hv2 hu2 h;refine⟨z1,ids',z2,⟨more++more',by rw[z3,q2,aPW]⟩,?_⟩;rw[hv1];rw[aPW] at z4;exact z4
theorem a8z {g:Gh}{w:World}{H:rD}(hH:rL g w H) {p:PK}{s:pB}{v:Value}{vals:List Value}{a a':rX}(ha:zP g w H vals a) (hs:qH g w s v) (h:wQ H a p s=some a'):zP g w H (vals++[v]) a':=by
 unfold wQ at h;split at h
 ·rename_i f k;simp only[Q6,aPN] at h;subst h;refine⟨ha.n,ha.m,?_⟩;simp only[aQB];refine FZ ha.args ⟨?_,trivial⟩;rcases hs.1 with⟨h1,_⟩ |⟨h1,vs,h2,h3⟩
  ·cases h1
  ·rw[show vs=[] from h2] at h3;exact .inr ⟨rfl,[],rfl,h3⟩
 ·rename_i t x k _;simp only[Q5] at h;split at h
  ·rename_i hp;simp only[aPN] at h;subst h;refine⟨ha.n,ha.m,?_⟩;simp only[aQB];exact FZ ha.args (aHi hp hs)
  ·cases h
 ·rename_i t x k;cases hb:pD H k with
  |none=>rw[hb] at h;simp [AA] at h
  |some b=>
   rw[hb] at h;cases b with
   |grow e c m=>
    simp only[AA] at h;split at h
    ·rename_i hc;simp only[aPT,aQf] at hc;simp only[aPN] at h;subst h;have hnm:k∉rG a.ws.reverse:=fun hmem=>by
      have:=I0.2 ((S2 _ _).1 hmem);rw[hc.2] at this;cases this
     refine⟨by simp [ha.n],by simpa using ha.m.tok (b0:= .grow e c m) hb hnm,?_⟩;simp only[aQB];refine FZ (KC (KB g w _ _) ha.args) (RV (g:=g) (g':=uC g (a.ws.reverse++[.tok k])) (k':=some a.n) rfl hc.1 hs (fun c' e1=> ?_) (fun e1=>by cases e1));cases e1;refine⟨_,rfl,fun n u hu=> ?_⟩;show zO g (a.ws.reverse++[q6.tok k])[a.n]? n=some u;rw[ha.n,aPX (Nat.le_refl _),aRQ];exact hu
    ·cases h
   |cells=>simp [AA] at h
   |row=>simp [AA] at h
   |map=>simp [AA] at h
   |iter=>simp [AA] at h
   |dead=>simp [AA] at h
 ·rename_i t os i o k;obtain⟨p,hp,hv⟩:=yX hs.1;obtain⟨h1,more,h2,h3,h4⟩:=a8w hH ha hp h;refine⟨h1.n,h1.m,?_⟩;rw[h3];simp only[aQB];exact FZ h1.args ⟨.inr ⟨rfl,_,h4,by rw[hv];rfl⟩,trivial⟩
 ·rename_i i k;cases hb:pD H i with
  |none=>rw[hb] at h;simp [AB] at h
  |some b=>
   rw[hb] at h;cases b with
   |map s t l=>
    simp only[AB] at h;split at h
    ·rename_i hc;simp only[aPT,aQf] at hc;simp only[aPN] at h;subst h;have hnm:i∉rG a.ws.reverse:=fun hmem=>by
      have:=I0.2 ((S2 _ _).1 hmem);rw[hc.2] at this;cases this
     refine⟨by simp [ha.n],by simpa using ha.m.tok (b0:= .map s t l) ⟨hb,hc.1.1,hc.1.2⟩ hnm,?_⟩;simp only[aQB];obtain⟨p,hp,hv⟩: ∃p,g.J i=some p/\v= .map (some p.1):=by
      obtain⟨p,h1,e⟩:=AI rfl hs.1;simp only[aQH,and_true] at e;exact⟨p,h1,e⟩
     refine FZ (KC (KB g w _ _) ha.args) ⟨.inr ⟨rfl,p,?_,by rw[hv]⟩,trivial⟩;show vA g (a.ws.reverse++[q6.tok i])[a.n]? =_;rw[ha.n,aPX (Nat.le_refl _),aRQ];exact hp
    ·cases h
   |cells=>simp [AB] at h
   |row=>simp [AB] at h
   |grow=>simp [AB] at h
   |iter=>simp [AB] at h
   |dead=>simp [AB] at h
 ·rename_i k n k';cases hb:pD H k with
  |none=>rw[hb] at h;simp [AC] at h
  |some b=>
   rw[hb] at h;cases b with
   |row e t l m=>
    simp only[AC] at h;split at h
    ·rename_i hc;simp only[aPT,aQf] at hc;simp only[aPN] at h;subst h;have hnm:k∉rG a.ws.reverse:=fun hmem=>by
      have:=I0.2 ((S2 _ _).1 hmem);rw[hc.2] at this;cases this
     refine⟨by simp [ha.n],by simpa using ha.m.tok (b0:= .row e t l m) ⟨hb,hc.1⟩ hnm,?_⟩;simp only[aQB];obtain⟨h1,h2⟩:=hs.1;refine FZ (KC (KB g w _ _) ha.args) ⟨⟨?_,h2⟩,trivial⟩;show zO g (a.ws.reverse++[q6.tok k])[a.n]? n=_;rw[ha.n,aPX (Nat.le_refl _),aRQ];exact h1
    ·cases h
   |cells=>simp [AC] at h
   |grow=>simp [AC] at h
   |map=>simp [AC] at h
   |iter=>simp [AC] at h
   |dead=>simp [AC] at h
 ·rename_i ks f cs k';obtain⟨vs,hv1,hv2⟩: ∃vs,wR g cs vs/\v= .func (.func f) #[] vs.toArray:=by
   rcases hs.1 with⟨h1,_⟩ |⟨_,vs,h2,h3⟩
   ·cases h1
   ·simp only[aQH,and_true] at h3;exact⟨vs,h2,h3⟩
  obtain⟨z1,ids',z2,_,z4⟩:=a8y hH (ids:=[]) (a:=a) (us:=[]) ha hv1 rfl h;refine⟨z1.n,z1.m,?_⟩;rw[z2];simp only[aQB];exact FZ z1.args ⟨.inr ⟨rfl,vs,by simpa using z4,by rw[hv2]⟩,trivial⟩
 ·cases h
theorem a8A {g:Gh}{w:World}{H:rD}(hH:rL g w H): ∀{ps:List PK}{ss:List pB}{vs vals:List Value}{a a':rX},zP g w H vals a->uL g w ss vs->wG H ps ss (some a)=some a'->zP g w H (vals++vs) a'
 |[],[],vs,vals,a,a',ha,hs,h=>by
  simp only[wG,aPN] at h;subst h;rw[show vs=[] from hs,List.append_nil];exact ha
 |p::ps,s::ss,vs,vals,a,a',ha,⟨v,vs',e,h1,h2⟩,h=>by
  simp only[wG] at h;cases ho:wQ H a p s with
  |none=>rw[ho] at h;cases ps<;>cases ss<;>simp [wG] at h
  |some a1=>
   rw[ho] at h;have:=a8A hH (a8z hH ha h1 ho) h2 h;rw[e];simpa using this
 |[],_::_,_,_,_,_,_,_,h=>by simp [wG] at h
 |_::_,[],_,_,_,_,_,_,h=>by simp [wG] at h
theorem zP.nil (g:Gh) (w:World) (H:rD):zP g w H [] ⟨[],[],[],0⟩:=
 ⟨rfl,⟨rfl,fun c wh b h _=>by simp at h,by simp [rG]⟩,rfl⟩
theorem a8B: ∀(l:List p9) (n:Nat),FN l n=l[n]?
 |[],_=>by simp [FN]
 |_::_,0=>rfl
 |_::r,n+1=>by simpa[FN] using a8B r n
theorem aHl {g:Gh}{w:World}: ∀{t:Ty}{x:t.den}{cs:List Value}{o:Nat}{y:Option (Nat×Nat)},Rd g w t x cs->DQ t x o=some y->∃cs',FW g y cs':=by
 intro t
 induction t with
 |pair a b iha ihb=>
  intro x cs o y r h;obtain⟨c1,c2,_,r1,r2⟩:=r;simp only[DQ] at h;split at h
  ·exact iha r1 h
  ·exact ihb r2 h
 |rl e u=>
  intro x cs o y r h;cases o with
  |zero=>simp only[DQ,aPN] at h;subst h;exact⟨cs,r⟩
  |succ o=>simp [DQ] at h
 |_=>intro x cs o y r h;cases o<;>simp [DQ] at h
theorem aHm {g:Gh}{w:World}{H:rD}(hH:rL g w H) {vals:List Value}{a:rX}(ha:zP g w H vals a) (c q:Nat) (pk:PK): ∃v,qH g w (HG q pk (FN a.H c)) v:=by
 rw[a8B];have any: ∃v,qH g w (.any,none) v:=⟨undef,trivial,trivial⟩;cases hb:a.H[c]? with
 |none=>cases pk<;>exact any
 |some b=>
  cases b with
  |cells t y ts=>
   have hlt:c<a.H.length:=(aP0.1 hb).1;have hb':a.H.reverse[a.H.length-1-c]? =some (.cells t y ts):=by
    rw[List.getElem?_reverse (by omega),show a.H.length-1- (a.H.length-1-c)=c by omega];exact hb
   obtain⟨wh,hwh⟩: ∃wh,a.ws.reverse[a.H.length-1-c]? =some wh:=by
    have hl:=ha.m.len;simp only[List.length_reverse] at hl;exact⟨_,aPU (by rw[List.length_reverse];omega)⟩
   have hw:=ha.m.ok _ wh _ hwh hb';cases wh with
   |tok k=>exact hw.elim
   |box i u x toks off=>
    obtain⟨h1,h2,_⟩:=hw;obtain⟨p,cs,hp,hR,_⟩:=hH.blk i _ h1;obtain⟨c1,c2,c3,hcs,hl,hR2⟩:=CP hR h2;cases pk with
    |p t' os=>
     simp only[HG];cases hg:pW .ref t y q with
     |none=>exact any
     |some z=>
      cases z with
      |none=>exact any
      |some z=>
       obtain⟨d1,d2,d3,_,_,hR3⟩:=CP hR2 hg;obtain⟨p',hp',e⟩:=hR3;exact⟨_,.inr ⟨rfl,p',hp',rfl⟩,trivial⟩
    |m=>
     simp only[HG];cases hg:pW .mp t y q with
     |none=>exact any
     |some z=>
      cases z with
      |none=>exact any
      |some z=>
       obtain⟨d1,d2,d3,_,_,hR3⟩:=CP hR2 hg;obtain⟨p',hp',e⟩:=hR3;exact⟨_,.inr ⟨rfl,p',hp',rfl⟩,trivial⟩
    |v=>exact any
    |own=>exact any
    |f ks=>exact any
    |r=>
     simp only[HG];cases hg:DQ t y q with
     |none=>exact any
     |some z=>
      cases z with
      |none=>exact any
      |some z=>
       obtain⟨cs',hR3⟩:=aHl hR2 hg;obtain⟨v,hv,_,hsh⟩:=hR3;exact⟨v,⟨hv,hsh⟩,trivial⟩
  |_=>cases pk<;>exact any
theorem a8C {g:Gh}{w:World}{H:rD}(hH:rL g w H) {vals:List Value}: ∀{gs:List (Nat×Nat×PK)}{a a':rX},zP g w H vals a->zJ H gs (some a)=some a'->zP g w H vals a'
 |[],a,a',ha,h=>by
  simp only[zJ,aPN] at h;subst h;exact ha
 |(c,q,pk)::gs,a,a',ha,h=>by
  simp only[zJ] at h;obtain⟨v,hv⟩:=aHm hH ha (a.n-1-c) q pk;cases hp:wQ H a pk (HG q pk (FN a.H (a.n-1-c))) with
  |none=>
   rw[hp] at h;simp only[JO] at h;cases gs<;>simp [zJ] at h
  |some b=>
   rw[hp] at h;simp only[JO] at h;have hb:=a8z hH ha hv hp;refine a8C hH (a:=⟨a.args,b.H,b.ws,b.n⟩) ⟨hb.n,hb.m,?_⟩ h;obtain⟨s,more,e1,e2⟩: ∃s more,b.args=s::a.args/\b.ws.reverse=a.ws.reverse++more:=by
    have hp':=hp;unfold wQ at hp';split at hp'
    ·simp only[Q6,aPN] at hp';subst hp';exact⟨_,[],rfl,by simp⟩
    ·simp only[Q5] at hp';split at hp'
     ·simp only[aPN] at hp';subst hp';exact⟨_,[],rfl,by simp⟩
     ·cases hp'
    ·unfold AA at hp';split at hp'
     ·split at hp'
      ·simp only[aPN] at hp';subst hp';exact⟨_,[_],rfl,aQB ..⟩
      ·cases hp'
     ·cases hp'
    ·unfold uU at hp';split at hp'
     ·unfold CI at hp';split at hp'
      ·split at hp'
       ·obtain⟨ks,bs,_,_,h3,_,h5,_⟩:=S1 hp';exact⟨_,_,h3,by rw[h5];simp only[aQB];exact aPW ..⟩
       ·cases hp'
      ·cases hp'
     ·cases hp'
    ·unfold AB at hp';split at hp'
     ·split at hp'
      ·simp only[aPN] at hp';subst hp';exact⟨_,[_],rfl,aQB ..⟩
      ·cases hp'
     ·cases hp'
    ·unfold AC at hp';split at hp'
     ·split at hp'
      ·simp only[aPN] at hp';subst hp';exact⟨_,[_],rfl,aQB ..⟩
      ·cases hp'
     ·cases hp'
    ·exact a8x hp'
    ·cases hp'
   rw[e2];exact KC (KB g w _ _) ha.args
theorem aHn {b:Option p9}{l:Option (List p9)}{r:List p9}(h:V9 b l=some r): ∃b' l',b=some b'/\l=some l'/\r=b'::l':=by
 cases b<;>cases l<;>simp [V9] at h
 exact⟨_,_,rfl,rfl,h.symm⟩
theorem a8D {W:List q6}: ∀{L0 L:List p9},FO W L0=some L->L.length=L0.length/\∀(c:Nat) (b:p9),L[c]? =some b->∃b0,L0[c]? =some b0/\Q8 W b0=some b
 |[],L,h=>by
  simp only[FO,aPN] at h;subst h;exact⟨rfl,fun c b h=>by simp at h⟩
 |b0::L0,L,h=>by
  simp only[FO] at h;obtain⟨b',l',h1,h2,rfl⟩:=aHn h;obtain⟨k1,k2⟩:=a8D h2;refine⟨by simp [k1],fun c b hc=> ?_⟩;cases c with
  |zero=>simp only[aQi,aPN] at hc;subst hc;exact⟨b0,rfl,h1⟩
  |succ c=>obtain⟨b1,q1,q2⟩:=k2 c b (by simpa using hc);exact⟨b1,by simpa using q1,q2⟩
theorem E4.ren {H:rD}{ws:List q6}{L0 L:List p9}(h:E4 H ws L0) (hc:FO ws L0=some L):NI H ws L:=by
 obtain⟨k1,k2⟩:=a8D hc;refine⟨h.len.trans k1.symm,fun c wh b hw hb=> ?_,h.nodup⟩;obtain⟨b0,q1,q2⟩:=k2 c b hb;have hok:=h.ok c wh b0 hw q1;cases b0 with
 |cells t y ts=>
  cases wh with
  |tok k=>exact hok.elim
  |box i u x toks o=>
   obtain⟨h1,h2,h3⟩:=hok;simp only[Q8] at q2;split at q2
   ·rename_i hp;obtain rfl:=aPS q2;exact⟨h1,⟨y,h2,.inl ⟨hp,rfl⟩⟩,h3⟩
   ·cases hy:AY ws t y with
    |none=>rw[hy] at q2;cases q2
    |some z=>
     rw[hy] at q2;obtain rfl:=aPS q2;exact⟨h1,⟨y,h2,.inr hy⟩,h3⟩
 |_=>
  simp only[Q8,aPN] at q2;subst q2;cases wh<;>exact hok
theorem yI: ∀(W:List q6) (c:Nat),yU W c=W[c]?
  |[],c=>by simp [yU]
  |_::_,0=>rfl
  |_::W,c+1=>by simpa[yU] using yI W c
theorem a8E: ∀L:List p9,pV L=L.length
  |[]=>rfl
  |_::L=>by simp [pV,a8E L]
theorem a8F {α:Type}: ∀(l acc:List α),xU l acc=l.reverse++acc
  |[],_=>rfl
  |x::l,acc=>by simp [xU,a8F l]
theorem X7 {a:Option (Nat×p9)}{b:Option (List (Nat×p9))}{l:List (Nat×p9)}(h:MK a b=some l): ∃q r,a=some q∧b=some r∧l=q::r:=by
  cases a<;>cases b<;>simp [MK] at h
  exact⟨_,_,rfl,rfl,h.symm⟩
def G0 (base n:Nat) (W ws:List q6) (R:List p9) (c0:Nat) (id:Nat) (b:p9):Prop:=
  (∃(c:Nat) (i:Nat) (u:Ty) (x:u.den) (toks:List (Nat×Nat)) (o:Nat) (b0:p9),ws[c]? =some (.box i u x toks o)∧id=i∧R[c]? =some b0∧wH base n i o W u x toks b0=some (i,b))∨
  (∃(c k:Nat) (b0:p9),ws[c]? =some (.tok k)∧id=k∧R[c]? =some b0∧yB k b0=some (k,b))∨
  (∃(c:Nat) (b0:p9),R[c]? =some b0∧id=base+(c0+c)∧ws[c]? =none∧BM base n (c0+c) W b0=some (id,b))
theorem G0.succ {base n:Nat}{W:List q6}{wh:q6}{ws:List q6}{b0:p9}{R:List p9}{c0 id:Nat}{b:p9}(h:G0 base n W ws R (c0+1) id b):G0 base n W (wh::ws) (b0::R) c0 id b:=by
  rcases h with⟨c,i,u,x,toks,o,b1,h1,h2,h3,h4⟩ |⟨c,k,b1,h1,h2,h3,h4⟩ |⟨c,b1,h1,h2,h3,h4⟩
  ·exact .inl ⟨c+1,i,u,x,toks,o,b1,by simpa using h1,h2,by simpa using h3,h4⟩
  ·exact .inr (.inl ⟨c+1,k,b1,by simpa using h1,h2,by simpa using h3,h4⟩)
  ·exact .inr (.inr ⟨c+1,b1,by simpa using h1,by rw[h2];omega,by simpa using h3,by rw[show c0+(c+1)=c0+1+c from by omega];exact h4⟩)
theorem G0.succ0 {base n:Nat}{W:List q6}{b0:p9}{R:List p9}{c0 id:Nat}{b:p9}(h:G0 base n W [] R (c0+1) id b):G0 base n W [] (b0::R) c0 id b:=by
  rcases h with⟨c,i,u,x,toks,o,b1,h1,_⟩ |⟨c,k,b1,h1,_⟩ |⟨c,b1,h1,h2,h3,h4⟩
  ·simp at h1
  ·simp at h1
  ·exact .inr (.inr ⟨c+1,b1,by simpa using h1,by rw[h2];omega,by simp,by rw[show c0+(c+1)=c0+1+c from by omega];exact h4⟩)
theorem a8G {i:Nat}{t:Ty}{ts:List (Nat×Nat)}{o:Option t.den}{q:Nat×p9}(h:a68 i t ts o=some q): ∃y,o=some y∧q=(i,.cells t y ts):=by
  cases o with
  |none=>cases h
  |some y=>exact⟨y,rfl,(aPS h).symm⟩
theorem aHo {base n c:Nat}{W:List q6}{b:p9}{q:Nat×p9}(h:BM base n c W b=some q):q.1=base+c:=by
  cases b<;>simp only[BM] at h
  · split at h
    ·exact(aPS h)▸rfl
    ·obtain⟨y,_,rfl⟩:=a8G h;rfl
  ·exact(aPS h)▸rfl
  · split at h
    ·exact(aPS h)▸rfl
    ·cases h
  · split at h
    ·exact(aPS h)▸rfl
    ·cases h
  ·cases h
  ·exact(aPS h)▸rfl
def bY (base n:Nat) (W:List q6) (t:Ty) (x y:t.den):Prop:=(t.pure=true∧y=x)∨AD base n W t x=some y
theorem X8 {base n i o:Nat}{W:List q6}{u t:Ty}{x:u.den}{y:t.den}{toks ts:List (Nat×Nat)}{q:Nat×p9}(h:wH base n i o W u x toks (.cells t y ts)=some q):
    ∃y2 z,bY base n W t y y2∧rT t y2 u x o=some z∧q=(i,.cells u z (pS (BL base n W o ts) (uI toks o t.cells))):=by
  simp only[wH] at h;split at h
  · rename_i hp
    cases hs:rT t y u x o with
    |none=>rw[hs] at h;simp [QA] at h
    |some z=>rw[hs] at h;exact⟨y,z,.inl ⟨hp,rfl⟩,hs,(aPS h).symm⟩
  · cases hy:AD base n W t y with
    |none=>rw[hy] at h;cases h
    | some y2=>
      rw[hy] at h;simp only[a69] at h;cases hs:rT t y2 u x o with
      |none=>rw[hs] at h;simp [QA] at h
      |some z=>rw[hs] at h;exact⟨y2,z,.inr hy,hs,(aPS h).symm⟩
theorem aHp {k:Nat}{b:p9}{q:Nat×p9}(h:yB k b=some q):q.1=k:=by
  cases b<;>simp only[yB] at h
  ·cases h
  ·exact(aPS h)▸rfl
  · split at h
    ·exact(aPS h)▸rfl
    ·cases h
  · split at h
    ·exact(aPS h)▸rfl
    ·cases h
  ·cases h
  ·exact(aPS h)▸rfl
theorem aHq {base n i o:Nat}{W:List q6}{u:Ty}{x:u.den}{toks:List (Nat×Nat)}{b:p9}{q:Nat×p9}(h:wH base n i o W u x toks b=some q):q.1=i:=by
  cases b with
  |cells t y ts=>obtain⟨y2,z,_,_,rfl⟩:=X8 h;rfl
  |grow=>simp [wH] at h
  |row=>simp [wH] at h
  |map=>simp [wH] at h
  |iter=>simp [wH] at h
  |dead=>simp only[wH,aPN] at h;exact h▸rfl
theorem KD {base n:Nat}{W:List q6}: ∀{ws:List q6}{R:List p9}{c0:Nat}{upd:List (Nat×p9)},zK base n W c0 ws R=some upd→
    ws.length≤R.length∧(∀id b,pD upd id=some b→G0 base n W ws R c0 id b)∧(∀id,id∈pE upd→∃b,pD upd id=some b)∧
    (∀(c:Nat) wh,ws[c]? =some wh→wh.id∈pE upd)∧(∀(c:Nat) b,R[c]? =some b→ws[c]? =none→base+(c0+c)∈pE upd)
  | [],[],_,upd,h=>by
    simp only[zK,aPN] at h;subst h;exact⟨Nat.le_refl _,fun _ _ h=>by simp [pD] at h,fun _ h=>by simp [pE] at h,fun _ _ h=>by simp at h,fun _ _ h=>by simp at h⟩
  | [],b::R,c0,upd,h=>by
    simp only[zK] at h;obtain⟨q,r,h1,h2,rfl⟩:=X7 h;obtain⟨k1,k2,k3,k4,k5⟩:=KD h2;have hq:=aHo h1;obtain⟨q1,q2⟩:=q;simp only at hq;subst hq;refine⟨by simp,fun id b' hg=> ?_,fun id hi=> ?_,fun c wh hw=>by simp at hw,fun c b' hb hn=> ?_⟩
    · simp only[pD] at hg
      split at hg
      · rename_i e
        obtain rfl:=aPS hg;subst e;exact .inr (.inr ⟨0,b,rfl,rfl,by simp,h1⟩)
      ·exact(k2 id b' hg).succ0
    · simp only[pD]
      by_cases e:base+c0=id
      ·rw[if_pos e];exact⟨_,rfl⟩
      · rw[if_neg e]
        simp only[pE,aP2] at hi;exact k3 id (hi.resolve_left (Ne.symm e))
    · cases c with
      |zero=>simp [pE]
      | succ c=>
        have:=k5 c b' (by simpa using hb) (by simp);simp only[pE,aP2];right;rw[show base+(c0+(c+1))=base+(c0+1+c) from by omega];exact this
  | .box i u x toks o::ws,[],c0,upd,h=>by simp [zK] at h
  | .tok k::ws,[],c0,upd,h=>by simp [zK] at h
  | .box i u x toks o::ws,b::R,c0,upd,h=>by
    simp only[zK] at h;obtain⟨q,r,h1,h2,rfl⟩:=X7 h;obtain⟨k1,k2,k3,k4,k5⟩:=KD h2;have hq:=aHq h1;obtain⟨q1,q2⟩:=q;simp only at hq;subst hq;refine⟨by simp;omega,fun id b' hg=> ?_,fun id hi=> ?_,fun c wh hw=> ?_,fun c b' hb hn=> ?_⟩
    · simp only[pD] at hg
      split at hg
      · rename_i e
        obtain rfl:=aPS hg;subst e;exact .inl ⟨0,q1,u,x,toks,o,b,rfl,rfl,rfl,h1⟩
      ·exact(k2 id b' hg).succ
    · simp only[pD]
      by_cases e:q1=id
      ·rw[if_pos e];exact⟨_,rfl⟩
      · rw[if_neg e]
        simp only[pE,aP2] at hi;exact k3 id (hi.resolve_left (Ne.symm e))
    · cases c with
      |zero=>simp only[aQi,aPN] at hw;subst hw;simp [pE,q6.id]
      |succ c=>simp only[pE,aP2];exact .inr (k4 c wh (by simpa using hw))
    · cases c with
      |zero=>simp at hn
      | succ c=>
        have:=k5 c b' (by simpa using hb) (by simpa using hn);simp only[pE,aP2];right;rw[show base+(c0+(c+1))=base+(c0+1+c) from by omega];exact this
  | .tok k::ws,b::R,c0,upd,h=>by
    simp only[zK] at h;obtain⟨q,r,h1,h2,rfl⟩:=X7 h;obtain⟨k1,k2,k3,k4,k5⟩:=KD h2;have hq:=aHp h1;obtain⟨q1,q2⟩:=q;simp only at hq;subst hq;refine⟨by simp;omega,fun id b' hg=> ?_,fun id hi=> ?_,fun c wh hw=> ?_,fun c b' hb hn=> ?_⟩
    · simp only[pD] at hg
      split at hg
      · rename_i e
        obtain rfl:=aPS hg;subst e;exact .inr (.inl ⟨0,q1,b,rfl,rfl,rfl,h1⟩)
      ·exact(k2 id b' hg).succ
    · simp only[pD]
      by_cases e:q1=id
      ·rw[if_pos e];exact⟨_,rfl⟩
      · rw[if_neg e]
        simp only[pE,aP2] at hi;exact k3 id (hi.resolve_left (Ne.symm e))
    · cases c with
      |zero=>simp only[aQi,aPN] at hw;subst hw;simp [pE,q6.id]
      |succ c=>simp only[pE,aP2];exact .inr (k4 c wh (by simpa using hw))
    · cases c with
      |zero=>simp at hn
      | succ c=>
        have:=k5 c b' (by simpa using hb) (by simpa using hn);simp only[pE,aP2];right;rw[show base+(c0+(c+1))=base+(c0+1+c) from by omega];exact this
def sE (g g':Gh) (base:Nat) (W:List q6) (ids:List Nat):Gh:=
  ⟨g'.S,fun i=>if base≤i∧i∈ids then g'.J (i-base) else match vE i W 0 with|some c=>g'.J c|none=>g.J i,
   fun i=>if base≤i∧i∈ids then g'.cur (i-base) else match vE i W 0 with|some c=>g'.cur c|none=>g.cur i⟩
theorem S3 {n c:Nat}{wh:Option q6}:JP n c wh=true↔c<n∧wh=none:=by
  cases wh with
  |none=>simp [JP]
  |some wh=>simp [JP]
theorem aHr {base n c i:Nat}{wh:Option q6}(h:yV base n c wh=some i):wh=some (.tok i)∨(wh=none∧c<n∧i=base+c):=by
  cases wh with
  | none=>
    simp only[yV] at h;split at h
    ·rename_i hc;exact .inr ⟨rfl,hc,(aPS h).symm⟩
    ·cases h
  | some wh=>
    cases wh with
    |box=>cases h
    |tok k=>simp only[yV,aPN] at h;subst h;exact .inl rfl
theorem S4 {i:Nat}: ∀{ws:List q6}{c0:Nat},(∀c:Nat,ws[c]? ≠some (.tok i))→vE i ws c0=none
  |[],_,_=>rfl
  | .tok j::r,c0,h=>by
    simp only[vE];split
    ·rename_i e;subst e;exact absurd rfl (h 0)
    ·exact S4 (fun c=>by have:=h (c+1);simpa using this)
  | .box _ _ _ _ _::r,c0,h=>by
    simp only[vE];exact S4 (fun c=>by have:=h (c+1);simpa using this)
theorem aHs {i c:Nat}{ws:List q6}(hnd:(rG ws).Nodup) (h:ws[c]? =some (.tok i)):vE i ws 0=some c:=by
  cases hc:vE i ws 0 with
  | none=>
    exfalso
    have: ∀{ws:List q6}{c0 c:Nat},ws[c]? =some (.tok i)→vE i ws c0≠none:=by
      intro ws
      induction ws with
      |nil=>intro c0 c h;simp at h
      | cons wh r ih=>
        intro c0 c h;cases c with
        | zero=>
          simp only[aQi,aPN] at h;subst h;simp [vE]
        | succ c=>
          simp only[aQw] at h;cases wh with
          |box=>exact ih h
          | tok j=>
            simp only[vE];split
            ·simp
            ·exact ih h
    exact this h hc
  | some d=>
    obtain⟨d',e1,h2⟩:=KA hc;rw[aQo] at e1;subst e1;rw[S0 hnd h h2 rfl]
theorem Fr.mono {A B:Nat→Nat→Prop}{w w':World}{S S':Nat→Nat→Prop}(h:Fr A w w' S S') (hAB: ∀b o,A b o→B b o):Fr B w w' S S':=
  ⟨h.os,h.tape,h.output,h.size,fun b hb hn=>h.blk b hb (fun o ho=>hn o (hAB b o ho)),fun b o hb hn=>h.cell b o hb (fun ho=>hn (hAB b o ho)),fun b o hs=>(h.new b o hs).imp id (Or.imp id (hAB b o)),fun b s hs=>(h.shape b s hs).imp id fun h o=>hAB b o (h o)⟩
theorem S5 {base n:Nat}{W:List q6}{o:Nat}: ∀{ts:List (Nat×Nat)}{q k:Nat},(q,k)∈BL base n W o ts→∃q' c,(q',c)∈ts∧yV base n c (yU W c)=some k∧q=o+q'
  |[],_,_,h=>by simp [BL] at h
  | (q',c)::r,q,k,h=>by
    simp only[BL] at h;cases hn:yV base n c (yU W c) with
    | none=>
      rw[hn] at h;obtain⟨a,b,h1,h2⟩:=S5 h;exact⟨a,b,aP1 _ h1,h2⟩
    | some k'=>
      rw[hn] at h;rcases aP2.1 h with h|h
      · simp only[aQh] at h
        obtain⟨rfl,rfl⟩:=h;exact⟨q',c,by simp,hn,rfl⟩
      · obtain⟨a,b,h1,h2⟩:=S5 h
        exact⟨a,b,aP1 _ h1,h2⟩
theorem vR {α:Type}{x:α}: ∀{l m:List α},x∈pS l m↔x∈l∨x∈m
  |[],m=>by simp [pS]
  |y::l,m=>by simp [pS,vR (l:=l),or_assoc]
theorem X9: ∀{toks:List (Nat×Nat)}{off n q k:Nat},(q,k)∈uI toks off n→(q,k)∈toks∧¬(off≤q∧q<off+n)
  |[],_,_,_,_,h=>by simp [uI] at h
  | (q',k')::r,off,n,q,k,h=>by
    simp only[uI] at h;split at h
    · obtain⟨h1,h2⟩:=X9 h
      exact⟨aP1 _ h1,h2⟩
    · rename_i hn
      rcases aP2.1 h with h|h
      · cases h
        exact⟨by simp,hn⟩
      · obtain⟨h1,h2⟩:=X9 h
        exact⟨aP1 _ h1,h2⟩
section
variable {g g':Gh}{w w':World}{H:rD}{W:List q6}{L:List p9}{r:pH}{v:Value}{base:Nat}{upd:List (Nat×p9)}
variable (hH:rL g w H) (hm:NI H W L) (hr:HZ (uC g W) w L r g' w' v) (hb:zK base r.H.length W 0 W r.H=some upd) (hf: ∀i,i∈pE upd→base≤i→g.J i=none∧∀n,g.cur i n=none)
include hH hm hr hb hf
theorem CS {c:Nat}{wh:q6}(hw:W[c]? =some wh):wh.id∈pE upd∧wh.id<base∧∃b,L[c]? =some b∧RX H W wh b:=by
  have hin:=(KD hb).2.2.2.1 c wh hw;have hlt:c<L.length:=hm.len▸(aP0.1 hw).1;have hok:=hm.ok c wh _ hw (aPU hlt);refine⟨hin,Nat.lt_of_not_le fun hle=> ?_,_,aPU hlt,hok⟩;have hfr:=hf _ hin hle;cases wh with
  | box i u x toks o=>
    cases hL:L[c] with
    | cells t y ts=>
      rw[hL] at hok;obtain⟨p,cs,hp,_⟩:=hH.blk i _ hok.1;rw[show (q6.box i u x toks o).id=i from rfl] at hfr;rw[hfr.1] at hp;cases hp
    |_=>rw[hL] at hok;exact hok.elim
  | tok k=>
    cases hL:L[c] with
    | grow e cc m=>
      rw[hL] at hok;obtain⟨v,xs,hv,_⟩:=hH.blk k _ hok;rw[show (q6.tok k).id=k from rfl] at hfr;rw[hfr.2] at hv;cases hv
    | map s t l=>
      rw[hL] at hok;obtain⟨p,es,cl,hp,_⟩:=hH.blk k _ hok.1;rw[show (q6.tok k).id=k from rfl] at hfr;rw[hfr.1] at hp;cases hp
    | row e t l m=>
      rw[hL] at hok;obtain⟨_,v,xs,hv,_⟩:=hH.blk k _ hok.1;rw[show (q6.tok k).id=k from rfl] at hfr;rw[hfr.2] at hv;cases hv
    |_=>rw[hL] at hok;exact hok.elim
theorem aHt {c:Nat}(hc:c<r.H.length) (hn:W[c]? =none):base+c∈pE upd:=by
  have:=(KD hb).2.2.2.2 c _ (aPU hc) hn;simpa using this
theorem KE {c:Nat}(hc:c<r.H.length) (hn:W[c]? =none):(sE g g' base W (pE upd)).J (base+c)=g'.J c∧(sE g g' base W (pE upd)).cur (base+c)=g'.cur c:=by
  have hin:=aHt hH hm hr hb hf hc hn;refine⟨?_,?_⟩
  · show (if base≤base+c∧base+c∈pE upd then _ else _)=_
    rw[if_pos ⟨by omega,hin⟩,aQE]
  · show (if base≤base+c∧base+c∈pE upd then _ else _)=_
    rw[if_pos ⟨by omega,hin⟩,aQE]
theorem a8H {i:Nat}(hi: ¬(base≤i∧i∈pE upd)) (hn:vE i W 0=none):(sE g g' base W (pE upd)).J i=g.J i∧(sE g g' base W (pE upd)).cur i=g.cur i:=by
  refine⟨?_,?_⟩
  · show (if base≤i∧i∈pE upd then _ else _)=_
    rw[if_neg hi,hn]
  · show (if base≤i∧i∈pE upd then _ else _)=_
    rw[if_neg hi,hn]
theorem a8I {c k:Nat}(hw:W[c]? =some (.tok k)):(sE g g' base W (pE upd)).J k=g'.J c∧(sE g g' base W (pE upd)).cur k=g'.cur c:=by
  have hlt:=(CS hH hm hr hb hf hw).2.1;simp only[q6.id] at hlt;have hc:=aHs hm.nodup hw;refine⟨?_,?_⟩
  · show (if base≤k∧k∈pE upd then _ else _)=_
    rw[if_neg (by omega),hc]
  · show (if base≤k∧k∈pE upd then _ else _)=_
    rw[if_neg (by omega),hc]
theorem NJ {c i:Nat}{u:Ty}{x:u.den}{toks:List (Nat×Nat)}{o:Nat}(hw:W[c]? =some (.box i u x toks o)):(sE g g' base W (pE upd)).J i=g.J i∧(sE g g' base W (pE upd)).cur i=g.cur i:=by
  have hlt:=(CS hH hm hr hb hf hw).2.1;simp only[q6.id] at hlt;refine a8H hH hm hr hb hf (by omega) (S4 fun d hd=> ?_);have:=S0 hm.nodup hw hd rfl;subst this;rw[hw] at hd;cases hd
theorem I1 {c i:Nat}(hi:yV base r.H.length c W[c]? =some i):(sE g g' base W (pE upd)).J i=g'.J c∧(sE g g' base W (pE upd)).cur i=g'.cur c:=by
  rcases aHr hi with h|⟨h1,h2,rfl⟩
  ·exact a8I hH hm hr hb hf h
  ·exact KE hH hm hr hb hf h2 h1
theorem a8J:Le g w (sE g g' base W (pE upd)) w':=by
  have len: ∀{i c:Nat},vE i W 0=some c→W[c]? =some (.tok i)∧c<L.length:=by
    intro i c h;obtain⟨d,e1,h2⟩:=KA h;rw[aQo] at e1;subst e1;exact⟨h2,hm.len▸(aP0.1 h2).1⟩
  refine⟨fun b o h=>(hr.shut b o h).1,fun b o h=>(hr.shut b o h).2,fun i p h=> ?_,fun i n u h=> ?_⟩
  · show (if base≤i∧i∈pE upd then _ else _)=_
    rw[if_neg (fun⟨h1,h2⟩=>by rw[(hf i h2 h1).1] at h;cases h)];cases hc:vE i W 0 with
    |none=>exact h
    | some c=>
      obtain⟨h1,h2⟩:=len hc;refine hr.Jt c p h2 ?_;show vA g W[c]? =_;rw[h1];exact h
  · show (if base≤i∧i∈pE upd then g'.cur (i-base) else match vE i W 0 with|some c=>g'.cur c|none=>g.cur i) n=_
    rw[if_neg (fun⟨h1,h2⟩=>by rw[(hf i h2 h1).2] at h;cases h)];cases hc:vE i W 0 with
    |none=>exact h
    | some c=>
      obtain⟨h1,h2⟩:=len hc;refine hr.cur c n u h2 ?_;show zO g W[c]? n=_;rw[h1];exact h
theorem aHu {t:Ty}{x y:t.den}{cs:List Value}(hx:Rd g' w' t x cs) (h:AD base r.H.length W t x=some y):Rd (sE g g' base W (pE upd)) w' t y cs:=by
  refine RZ (g:=g') (g':=sE g g' base W (pE upd)) rfl (AD base r.H.length W) (fun a b x=>rfl) (fun t x=>rfl) (fun _=>rfl) (fun _ _=>rfl) (fun _=>rfl) (fun _=>rfl) (fun _=>rfl) (fun _ _ x y cs h hx=> ?_) (fun x y cs h hx=> ?_) (fun x y cs h hx=> ?_) (fun x y cs h hx=> ?_) (fun _=>rfl) hx h
  · cases x with
    |none=>cases h;exact hx
    | some q=>
      obtain⟨c,n⟩:=q;simp only[AD,a67,yI] at h;obtain⟨i,hi,rfl⟩:=aP3.1 h;obtain⟨v,hv,hs⟩:=hx;exact⟨v,by rw[(I1 hH hm hr hb hf hi).2];exact hv,hs⟩
  · cases x with
    |none=>cases h;exact hx
    | some q=>
      obtain⟨c,o⟩:=q;simp only[AD,HJ] at h;obtain⟨p,hp,hv⟩:=hx;unfold HJ.back2 at h;split at h
      · rename_i i uu x toks o' hwh
        cases h;rw[yI] at hwh;obtain⟨_,hlt,b,hL,hok⟩:=CS hH hm hr hb hf hwh;cases b with
        | cells t y ts=>
          have hJ:=hr.J c t y ts hL;rw[hp] at hJ;have hJ':vA g W[c]? =some p:=hJ.symm;rw[hwh] at hJ';obtain⟨p0,hp0,rfl⟩:=aP3.1 hJ';exact⟨p0,by rw[(NJ hH hm hr hb hf hwh).1];exact hp0,by have:=hv.1;rwa [aQy] at this,hv.2.imp id fun hv=>by rw[hv];simp [aQy]⟩
        |_=>exact hok.elim
      · split at h
        · rename_i hn
          cases h;obtain⟨h1,h2⟩:=S3.1 hn;rw[yI] at h2;exact⟨p,by rw[(KE hH hm hr hb hf h1 h2).1];exact hp,hv⟩
        ·cases h
  · cases x with
    |none=>cases h;exact hx
    | some q=>
      obtain⟨c,o⟩:=q;simp only[AD,HJ] at h;obtain⟨p,hp,hv⟩:=hx;unfold HJ.back2 at h;split at h
      · rename_i i uu x toks o' hwh
        cases h;rw[yI] at hwh;obtain⟨_,hlt,b,hL,hok⟩:=CS hH hm hr hb hf hwh;cases b with
        | cells t y ts=>
          have hJ:=hr.J c t y ts hL;rw[hp] at hJ;have hJ':vA g W[c]? =some p:=hJ.symm;rw[hwh] at hJ';obtain⟨p0,hp0,rfl⟩:=aP3.1 hJ';exact⟨p0,by rw[(NJ hH hm hr hb hf hwh).1];exact hp0,by rw[hv];simp [aQy]⟩
        |_=>exact hok.elim
      · split at h
        · rename_i hn
          cases h;obtain⟨h1,h2⟩:=S3.1 hn;rw[yI] at h2;exact⟨p,by rw[(KE hH hm hr hb hf h1 h2).1];exact hp,hv⟩
        ·cases h
  · cases x with
    |none=>cases h;exact hx
    | some c=>
      simp only[AD,a66,yI] at h;obtain⟨i,hi,rfl⟩:=aP3.1 h;obtain⟨p,hp,hv⟩:=hx;exact⟨p,by rw[(I1 hH hm hr hb hf hi).1];exact hp,hv⟩
theorem a8K {t:Ty}{x y:t.den}{cs:List Value}(hx:Rd g' w' t x cs) (h:bY base r.H.length W t x y):Rd (sE g g' base W (pE upd)) w' t y cs:=by
  rcases h with⟨hp,rfl⟩ |h
  ·exact uV (g:=g') (g':=sE g g' base W (pE upd)) rfl hp hx
  ·exact aHu hH hm hr hb hf hx h
omit hH hm hr hb hf in
theorem a8L {n:Nat}{t u:Ty}{x y:t.den}{o:Nat}{l:List u.den}(h:bY base n W t x y) (hg:pW (.list u) t x o=some l):pW (.list u) t y o=some l:=by
  rcases h with⟨_,rfl⟩ |h
  ·exact hg
  ·exact X5 (AD base n W) (fun _ _ _=>rfl) (fun _ _=>rfl) h hg
theorem a8M: ∀(cs:List (Nat×Nat)) {l:List (Nat×Nat)}{vs:List Value},wR g' cs vs→JQ base r.H.length W cs=some l→wR (sE g g' base W (pE upd)) l vs
  |[],l,vs,h,e=>by cases e;exact h
  | (c,o)::cs,l,vs,⟨p,vs',hp,hv,hr'⟩,e=>by
    unfold JQ at e;cases h1:VA base r.H.length c o (yU W c) with
    |none=>rw[h1] at e;cases e
    | some q=>
      cases h2:JQ base r.H.length W cs with
      |none=>rw[h1,h2] at e;cases e
      | some l'=>
        rw[h1,h2] at e;cases e;refine(?_ : ∃p vs',_);have ih:=a8M cs hr' h2;unfold VA at h1;split at h1
        · rename_i i uu x toks o' hwh
          cases h1;rw[yI] at hwh;obtain⟨_,hlt,b,hL,hok⟩:=CS hH hm hr hb hf hwh;cases b with
          | cells t y ts=>
            have hJ:=hr.J c t y ts hL;rw[hp] at hJ;have hJ':vA g W[c]? =some p:=hJ.symm;rw[hwh] at hJ';obtain⟨p0,hp0,rfl⟩:=aP3.1 hJ';exact⟨p0,vs',by rw[(NJ hH hm hr hb hf hwh).1];exact hp0,by rw[hv];simp [aQy],ih⟩
          |_=>exact hok.elim
        · split at h1
          · rename_i hn
            cases h1;obtain⟨h3,h4⟩:=S3.1 hn;rw[yI] at h4;exact⟨p,vs',by rw[(KE hH hm hr hb hf h3 h4).1];exact hp,hv,ih⟩
          ·cases h1
theorem aHv {s:pB}{u:Value}(h:qH g' w' s u):qH (sE g g' base W (pE upd)) w' (Q9 base r.H.length W s) u:=by
  obtain⟨d,k⟩:=s
  have tokk: ∀{t:Ty}(hp:t.pure=true) {x:t.den}{k:Option Nat},qH g' w' (.val t x,k) u→qH (sE g g' base W (pE upd)) w' (.val t x,HI base r.H.length W k) u:=by
    intro t hp x k h;cases k with
    |none=>exact RV (g:=g') (g':=sE g g' base W (pE upd)) (k:=none) (k':=none) rfl hp h (fun c e=>by cases e) (fun _=>rfl)
    | some c=>
      simp only[HI,yI];cases hn:yV base r.H.length c W[c]? with
      | some i=>
        refine RV (g:=g') (g':=sE g g' base W (pE upd)) (k:=some c) (k':=some i) rfl hp h (fun c' e=> ?_) (fun e=>by cases e);cases e;refine⟨_,rfl,fun n u hu=> ?_⟩;rw[(I1 hH hm hr hb hf hn).2];exact hu
      | none=>
        exact RV (g:=g') (g':=sE g g' base W (pE upd)) (k:=none) (k':=none) rfl hp ⟨h.1,trivial⟩ (fun c e=>by cases e) (fun _=>rfl)
  unfold Q9;split
  · rename_i c m k' heq
    simp only[aQh] at heq;obtain⟨rfl,rfl⟩:=heq;simp only[HI,yI];cases hn:yV base r.H.length c W[c]? with
    | some i=>
      obtain⟨h3,h4⟩:=h.1;exact⟨⟨by rw[(I1 hH hm hr hb hf hn).2];exact h3,h4⟩,trivial⟩
    |none=>exact⟨trivial,trivial⟩
  · rename_i c o k' heq
    simp only[aQh] at heq;obtain⟨rfl,rfl⟩:=heq;obtain⟨p,hp,hv⟩:=yX h.1;unfold a65;split
    · rename_i i uu x toks o' hwh
      rw[yI] at hwh;obtain⟨_,hlt,b,hL,hok⟩:=CS hH hm hr hb hf hwh;cases b with
      | cells t y ts=>
        have hJ:=hr.J c t y ts hL;rw[hp] at hJ;have hJ':vA g W[c]? =some p:=hJ.symm;rw[hwh] at hJ';obtain⟨p0,hp0,rfl⟩:=aP3.1 hJ';refine⟨.inr ⟨rfl,p0,by rw[(NJ hH hm hr hb hf hwh).1];exact hp0,?_⟩,trivial⟩;rw[hv];simp [aQy]
      |_=>exact hok.elim
    · split
      · rename_i hn
        obtain⟨h1,h2⟩:=S3.1 hn;rw[yI] at h2;exact⟨.inr ⟨rfl,p,by rw[(KE hH hm hr hb hf h1 h2).1];exact hp,by rw[hv]⟩,trivial⟩
      ·exact⟨trivial,trivial⟩
  · rename_i k' heq
    simp only[aQh] at heq;obtain⟨rfl,rfl⟩:=heq;rcases h.1 with⟨h1,_⟩ |⟨h1,h2⟩
    ·cases h1
    ·exact⟨.inr ⟨h1,h2⟩,trivial⟩
  · rename_i c k' heq
    simp only[aQh] at heq;obtain⟨rfl,rfl⟩:=heq;simp only[HI,yI];cases hn:yV base r.H.length c W[c]? with
    | some i=>
      obtain⟨p,hp,hv⟩:K3 g' (some c) [u]:=AI rfl h.1;exact⟨.inr ⟨rfl,p,by rw[(I1 hH hm hr hb hf hn).1];exact hp,hv⟩,trivial⟩
    |none=>exact⟨trivial,trivial⟩
  · rename_i f cs k' heq
    simp only[aQh] at heq;obtain⟨rfl,rfl⟩:=heq;cases hc:JQ base r.H.length W cs with
    |none=>exact⟨trivial,trivial⟩
    | some l=>
      rcases h.1 with⟨h1,_⟩ |⟨_,vs,h2,h3⟩
      ·cases h1
      ·exact⟨.inr ⟨rfl,vs,a8M hH hm hr hb hf cs h2 hc,h3⟩,trivial⟩
  · rename_i t x k' hno hno0 hno2 hno3 heq
    simp only[aQh] at heq;obtain⟨rfl,rfl⟩:=heq;split
    · rename_i hp
      exact tokk hp (a8k h)
    ·exact⟨trivial,trivial⟩
  ·exact⟨trivial,trivial⟩
end
theorem a8N {g:Gh}{w:World}{H:rD}{W:List q6}{L:List p9}(hH:rL g w H) (hm:NI H W L) {bb oo:Nat}(h:xZ (uC g W) (pN 0 L) bb oo):
  ∃(c:Nat) (wh:q6) (b blk:p9),W[c]? =some wh/\L[c]? =some b/\rE (uC g W) c b bb oo/\pD H wh.id=some blk/\rE g wh.id blk bb oo:=by
 obtain⟨c,b,hc,ho⟩:=h;rw[wS] at hc;have hlt:c<W.length:=hm.len▸(aP0.1 hc).1;have hwh:W[c]? =some W[c]:=aPU hlt;have hw:=hm.ok c _ b hwh hc;refine⟨c,W[c],b,?_⟩;generalize W[c]=wh at hwh hw;cases wh with
 |box i u x toks off=>
  cases b with
  |cells t y ts=>
   obtain⟨h1,⟨y0,h2,h3⟩,h4⟩:=hw;obtain⟨p,hp,e1,e2,e3⟩:=ho;have hp':vA g W[c]? =some p:=hp;rw[hwh] at hp';obtain⟨p0,hp0,rfl⟩:=aP3.1 hp';obtain⟨p1,cs,hp1,hR,_⟩:=hH.blk i _ h1;obtain⟨c1,c2,c3,hcs,hl,hR2⟩:=CP hR h2;have l1:=rW hR;have l2:=rW hR2;rw[hcs] at l1;simp only[aPP] at l1;exact⟨_,hwh,hc,⟨_,hp,e1,e2,e3⟩,h1,p0,hp0,e1,by simp at e2;omega,by simp at e3;omega⟩
  |_=>exact hw.elim
 |tok k=>
  cases b with
  |grow e cc m=>
   obtain⟨v,hv,hb⟩:=ho;have hv':zO g W[c]? m=some v:=hv;rw[hwh] at hv';exact⟨_,hwh,hc,⟨v,hv,hb⟩,hw,v,hv',hb⟩
  |map s t l=>
   obtain⟨p,hp,hb⟩:=ho;have hp':vA g W[c]? =some p:=hp;rw[hwh] at hp';exact⟨_,hwh,hc,⟨p,hp,hb⟩,hw.1,p,hp',hb⟩
  |row e t l m=>
   obtain⟨v,hv,hb⟩:=ho;have hv':zO g W[c]? m=some v:=hv;rw[hwh] at hv';exact⟨_,hwh,hc,⟨v,hv,hb⟩,hw.1,v,hv',hb⟩
  |_=>exact hw.elim
section
variable {g g':Gh}{w w':World}{H:rD}{W:List q6}{L:List p9}{r:pH}{v:Value}{base:Nat}{upd:List (Nat×p9)}
variable (hH:rL g w H) (hm:NI H W L) (hr:HZ (uC g W) w L r g' w' v) (hb:zK base r.H.length W 0 W r.H=some upd) (hf: ∀i,i∈pE upd->base<=i->g.J i=none/\∀n,g.cur i n=none)
include hH hm hr hb hf
theorem XA {b o:Nat}(h:xZ (uC g W) (pN 0 L) b o):rY g H (pE upd) b o:=by
 obtain⟨c,wh,b0,blk,h1,h2,h3,h4,h5⟩:=a8N hH hm h;exact⟨wh.id,blk,(CS hH hm hr hb hf h1).1,h4,h5⟩
theorem aHw:Fr (rY g H (pE upd)) w w' g.S (sE g g' base W (pE upd)).S:=hr.fr.mono fun _ _ h=>XA hH hm hr hb hf h
theorem S6 {id:Nat}{b:p9}(hi:id∈pE upd) (hg:pD (pS upd H) id=some b):G0 base r.H.length W W r.H 0 id b:=by
 obtain⟨_,k2,k3,_⟩:=KD hb;obtain⟨b',hb'⟩:=k3 id hi;have:pD (pS upd H) id=some b':=by
  have: ∀{u:List (Nat×p9)},pD u id=some b'->pD (pS u H) id=some b':=by
   intro u
   induction u with
   |nil=>intro h;cases h
   |cons q u ih=>
    intro h;simp only[pS,pD] at h⊢;split
    ·rename_i e;rw[if_pos e] at h;exact h
    ·rename_i e;rw[if_neg e] at h;exact ih h
  exact this hb'
 rw[this] at hg;obtain rfl:=aPS hg;exact k2 id b' hb'
theorem XB {c i o:Nat}{u:Ty}{x:u.den}{toks:List (Nat×Nat)}{b0 b:p9}(hW:W[c]? =some (.box i u x toks o)) (hR:r.H[c]? =some b0) (hbb:wH base r.H.length i o W u x toks b0=some (i,b)):
  yE (sE g g' base W (pE upd)) w' i b/\(∀bb oo,rE (sE g g' base W (pE upd)) i b bb oo->rE g i (.cells u x toks) bb oo/\pD H i=some (.cells u x toks))/\
   ∀bb oo,rE (sE g g' base W (pE upd)) i b bb oo->rE g' c b0 bb oo\/(bb<w.heap.size/\¬xZ (uC g W) (pN 0 L) bb oo):=by
 obtain⟨hin,hlt,bL,hL,hok⟩:=CS hH hm hr hb hf hW;have hJi:=(NJ hH hm hr hb hf hW).1;have hle:=a8J hH hm hr hb hf;cases bL with
 |grow=>exact hok.elim
 |row=>exact hok.elim
 |map=>exact hok.elim
 |iter=>exact hok.elim
 |dead=>exact hok.elim
 |cells tL yL tsL=>
  obtain⟨h1,h2,h4⟩:=hok;obtain⟨p,cs,hp,hRd,hra,hth,hns,htk⟩:=hH.blk i _ h1;cases b0 with
  |grow=>simp [wH] at hbb
  |row=>simp [wH] at hbb
  |map=>simp [wH] at hbb
  |iter=>simp [wH] at hbb
  |dead=>
   simp only[wH,aPN,aQh,true_and] at hbb;subst hbb;exact⟨trivial,fun _ _ h=>h.elim,fun _ _ h=>h.elim⟩
  |cells t y ts=>
   have htt:=hr.ty c _ _ _ _ _ _ hL hR;subst htt;obtain⟨y2,z,hbY,hset,hq⟩:=X8 hbb
   ·simp only[aQh,true_and] at hq;subst hq;have hblk:=hr.heap.blk c _ (by rw[wS];exact hR);obtain⟨p',cs',hp',hRd',hra',hth',hns',htk'⟩:=hblk;have hJc:=hr.J c _ _ _ hL;have hpc:g'.J c=some ⟨p.1,p.2+o,p.3⟩:=by
     rw[hJc];show vA g W[c]? =_;rw[hW];simp [vA,hp]
    rw[hpc] at hp';obtain rfl:=aPS hp';have hRdx:Rd (sE g g' base W (pE upd)) w' u x cs:=wL hle hRd;have hRdy:Rd (sE g g' base W (pE upd)) w' t y2 cs':=a8K hH hm hr hb hf hRd' hbY;obtain⟨c1,c2,c3,hcs,hl1,hl2,hz⟩:=RF hRdy hRdx hset;subst hcs;subst hl1;have l0:=rW hRd;have l1:=rW hRd';simp only[aPP] at l0;have hfar: ∀q,q<u.cells->¬(c1.length<=q/\q<c1.length+t.cells)->¬xZ (uC g W) (pN 0 L) p.1 (p.2+q):=by
     intro q hq hno hown;obtain⟨c',wh',b',blk',k1,k2,k3,k4,k5⟩:=a8N hH hm hown;by_cases hcc:c'=c
     ·subst hcc;rw[hW] at k1;obtain rfl:=aPS k1;rw[hL] at k2;obtain rfl:=aPS k2;obtain⟨pp,hpp,e1,e2,e3⟩:=k3;have hpp':vA g W[c']? =some pp:=hpp;rw[hW] at hpp';simp only[vA,hp,Option.map_some,aPN] at hpp';subst hpp';simp only at e2 e3;exact hno ⟨by omega,by omega⟩
     ·have hid:wh'.id≠i:=fun e=>hcc (S0 hm.nodup k1 hW e);exact hH.dis wh'.id i blk' _ p.1 (p.2+q) hid k4 h1 k5 ⟨p,hp,rfl,by omega,by omega⟩
    have hlt': ∀q,q<u.cells->p.1<w.heap.size:=fun q hq=>N7 (hH.blk i _ h1) (b:=p.1) (o:=p.2+q) ⟨p,hp,rfl,by omega,by omega⟩;have hkeep: ∀q,q<u.cells->¬(c1.length<=q/\q<c1.length+t.cells)->w'.cell? ⟨p.1,p.2+q,none⟩=w.cell? ⟨p.1,p.2+q,none⟩/\w'.frozen? ⟨p.1,p.2+q,none⟩=w.frozen? ⟨p.1,p.2+q,none⟩:=fun q hq hno=>hr.fr.cell _ _ (hlt' q hq) (hfar q hq hno);refine⟨⟨p,c1++cs'++c3,by rw[hJi];exact hp,hz,fun q vv hv=> ?_,⟨fun q hq=> ?_,fun h0 s hs=> ?_⟩,fun q hq hs=> ?_,?_⟩,fun bb oo ho=>⟨?_,h1⟩,fun bb oo ho=> ?_⟩
    ·by_cases a1:q<c1.length
     ·rw[(hkeep q (by omega) (by omega)).1];refine hra q vv ?_;rw[aPW,aP7 a1] at hv⊢;exact hv
     ·by_cases a2:q<c1.length+t.cells
      ·rw[aPW,aPX (by omega),aP7 (by omega)] at hv;have:=hra' (q-c1.length) vv hv;rwa [show p.2+c1.length+(q-c1.length)=p.2+q from by omega] at this
      ·rw[aPW,aPX (by omega),aPX (by omega)] at hv;have hq:q<u.cells:=by
        have:=(aP0.1 hv).1;omega
       rw[(hkeep q hq (by omega)).1];refine hra q vv ?_;rw[aPW,aPX (by omega),aPX (by omega),hl2];rw[l1] at hv;exact hv
    ·by_cases a1:c1.length<=q/\q<c1.length+t.cells
     ·have:=hth'.1 (q-c1.length) (by omega);rwa [show p.2+c1.length+(q-c1.length)=p.2+q from by omega] at this
     ·rw[(hkeep q hq a1).1,(hkeep q hq a1).2];exact hth.1 q hq
    ·by_cases ht0:0<t.cells
     ·exact hth'.2 ht0 s hs
     ·exact(hr.fr.shape p.1 s (hth.2 h0 s hs)).resolve_right fun h=>hfar 0 h0 (by omega) (h (p.2+0))
    ·by_cases a1:c1.length<=q/\q<c1.length+t.cells
     ·exact hns' (q-c1.length) (by omega) (by rw[show p.2+c1.length+(q-c1.length)=p.2+q from by omega];exact hs)
     ·rcases hr.fr.new _ _ hs with k|k|k
      ·exact hns q hq k
      ·have:=hlt' q hq;omega
      ·exact hfar q hq a1 k
    ·intro q kk hmem;rcases vR.1 hmem with hmem|hmem
     ·obtain⟨q',c',k1,k2,rfl⟩:=S5 hmem;rw[yI] at k2;obtain⟨u',l,vv,g1,g2,g3⟩:=htk' q' c' k1;have hq':=a8c g1;refine⟨u',l,vv,a8b hset (a8L hbY g1) hq',?_,?_⟩
      ·rw[aPW,aPX (by omega),aQE,aP7 (by omega)];exact g2
      ·rw[(I1 hH hm hr hb hf k2).2];exact g3
     ·obtain⟨k1,k2⟩:=X9 hmem;obtain⟨u',l,vv,g1,g2,g3⟩:=htk q kk k1;refine⟨u',l,vv,a7Y hH hset g1 k2,?_,hle.cur _ _ _ g3⟩;rcases aQ8 q c1.length with a1|a1
      ·rw[aPW,aP7 a1] at g2⊢;exact g2
      ·rw[aPW,aPX (by omega),aPX (by omega)] at g2⊢;rw[l1];rw[hl2] at g2;exact g2
    ·obtain⟨pp,hpp,e1,e2,e3⟩:=ho;rw[hJi,hp] at hpp;obtain rfl:=aPS hpp;exact⟨p,hp,e1,e2,e3⟩
    ·obtain⟨pp,hpp,e1,e2,e3⟩:=ho;rw[hJi,hp] at hpp;obtain rfl:=aPS hpp;subst e1;by_cases a1:c1.length<=oo-p.2/\oo-p.2<c1.length+t.cells
     ·exact .inl ⟨_,hpc,rfl,by simp only;omega,by simp only;omega⟩
     ·right;refine⟨hlt' (oo-p.2) (by omega),?_⟩;have:=hfar (oo-p.2) (by omega) a1;rwa [show p.2+(oo-p.2)=oo from by omega] at this
theorem XC {c:Nat}{b0 b:p9}(hn:W[c]? =none) (hR:r.H[c]? =some b0) (hbn:BM base r.H.length c W b0=some (base+c,b)):
  yE (sE g g' base W (pE upd)) w' (base+c) b/\∀bb oo,rE (sE g g' base W (pE upd)) (base+c) b bb oo->rE g' c b0 bb oo:=by
 have hc:=(aP0.1 hR).1;obtain⟨hJ,hcur⟩:=KE hH hm hr hb hf hc hn;have hblk:=hr.heap.blk c _ (by rw[wS];exact hR);cases b0 with
 |dead=>
  simp only[BM,aPN,aQh,true_and] at hbn;subst hbn;exact⟨trivial,fun _ _ h=>h.elim⟩
 |grow e m k=>
  simp only[BM,aPN,aQh,true_and] at hbn;subst hbn;obtain⟨u,xs,hv,h1,h2,h3⟩:=hblk;exact⟨⟨u,xs,by rw[hcur];exact hv,h1,fun m hm'=>by rw[hcur];exact h2 m hm',h3⟩,fun bb oo ⟨v',hv',hb'⟩=>⟨v',by rw[hcur] at hv';exact hv',hb'⟩⟩
 |row e t l n=>
  simp only[BM] at hbn;split at hbn
  ·rename_i hp;simp only[aPN,aQh,true_and] at hbn;subst hbn;obtain⟨h0,u,xs,hv,h1,h4,h2,h3⟩:=hblk;exact⟨⟨h0,u,xs,by rw[hcur];exact hv,h1,B2 (fun _ _ h=>uV (g:=g') (g':=sE g g' base W (pE upd)) rfl hp h) h4,fun m hm'=>by rw[hcur];exact h2 m hm',h3⟩,fun bb oo ⟨v',hv',hb'⟩=>⟨v',by rw[hcur] at hv';exact hv',hb'⟩⟩
  ·cases hbn
 |iter s n=>simp [BM] at hbn
 |map k v l=>
  simp only[BM] at hbn;split at hbn
  ·rename_i hp;rw[aPT] at hp;simp only[aPN,aQh,true_and] at hbn;subst hbn;obtain⟨p,es,cl,hp1,hp0,hh,hM,hS⟩:=hblk;exact⟨⟨p,es,cl,by rw[hJ];exact hp1,hp0,hh,N4 (g:=g') (g':=sE g g' base W (pE upd)) rfl hp.1 hp.2 hM,hS⟩,fun bb oo ⟨pp,hpp,e⟩=>⟨pp,by rw[hJ] at hpp;exact hpp,e⟩⟩
  ·cases hbn
 |cells t y ts=>
  have vY: ∀y2,bY base r.H.length W t y y2->yE (sE g g' base W (pE upd)) w' (base+c) (.cells t y2 (BL base r.H.length W 0 ts))/\∀bb oo,rE (sE g g' base W (pE upd)) (base+c) (.cells t y2 (BL base r.H.length W 0 ts)) bb oo->rE g' c (.cells t y ts) bb oo:=by
   intro y2 hbY;obtain⟨p,cs,hp1,hR1,h1,h2,h3,h4⟩:=hblk;refine⟨⟨p,cs,by rw[hJ];exact hp1,a8K hH hm hr hb hf hR1 hbY,h1,h2,h3,fun q kk hmem=> ?_⟩,fun bb oo ⟨pp,hpp,e⟩=>⟨pp,by rw[hJ] at hpp;exact hpp,e⟩⟩;obtain⟨q',c',k1,k2,rfl⟩:=S5 hmem;rw[yI] at k2;obtain⟨u',l,vv,g1,g2,g3⟩:=h4 q' c' k1;exact⟨u',l,vv,by rw[aQo];exact a8L hbY g1,by rw[aQo];exact g2,by rw[(I1 hH hm hr hb hf k2).2];exact g3⟩
  simp only[BM] at hbn;split at hbn
  ·rename_i hp;simp only[aPN,aQh,true_and] at hbn;subst hbn;exact vY y (.inl ⟨hp,rfl⟩)
  ·obtain⟨y2,hy,hq⟩:=a8G hbn;simp only[aQh,true_and] at hq;subst hq;exact vY y2 (.inr hy)
theorem XD {c k:Nat}{b0 b:p9}(hW:W[c]? =some (.tok k)) (hR:r.H[c]? =some b0) (hbk:yB k b0=some (k,b)):
  yE (sE g g' base W (pE upd)) w' k b/\∀bb oo,rE (sE g g' base W (pE upd)) k b bb oo->rE g' c b0 bb oo:=by
 obtain⟨hJ,hcur⟩:=a8I hH hm hr hb hf hW;have hblk:=hr.heap.blk c _ (by rw[wS];exact hR);cases b0 with
 |dead=>
  simp only[yB,aPN,aQh,true_and] at hbk;subst hbk;exact⟨trivial,fun _ _ h=>h.elim⟩
 |grow e m n=>
  simp only[yB,aPN,aQh,true_and] at hbk;subst hbk;obtain⟨u,xs,hv,h1,h2,h3⟩:=hblk;exact⟨⟨u,xs,by rw[hcur];exact hv,h1,fun m hm'=>by rw[hcur];exact h2 m hm',h3⟩,fun bb oo ⟨v',hv',hb'⟩=>⟨v',by rw[hcur] at hv';exact hv',hb'⟩⟩
 |row e t l n=>
  simp only[yB] at hbk;split at hbk
  ·rename_i hp;simp only[aPN,aQh,true_and] at hbk;subst hbk;obtain⟨h0,u,xs,hv,h1,h4,h2,h3⟩:=hblk;exact⟨⟨h0,u,xs,by rw[hcur];exact hv,h1,B2 (fun _ _ h=>uV (g:=g') (g':=sE g g' base W (pE upd)) rfl hp h) h4,fun m hm'=>by rw[hcur];exact h2 m hm',h3⟩,fun bb oo ⟨v',hv',hb'⟩=>⟨v',by rw[hcur] at hv';exact hv',hb'⟩⟩
  ·cases hbk
 |iter s n=>simp [yB] at hbk
 |map s v l=>
  simp only[yB] at hbk;split at hbk
  ·rename_i hp;rw[aPT] at hp;simp only[aPN,aQh,true_and] at hbk;subst hbk;obtain⟨p,es,cl,hp1,hp0,hh,hM,hS⟩:=hblk;exact⟨⟨p,es,cl,by rw[hJ];exact hp1,hp0,hh,N4 (g:=g') (g':=sE g g' base W (pE upd)) rfl hp.1 hp.2 hM,hS⟩,fun bb oo ⟨pp,hpp,e⟩=>⟨pp,by rw[hJ] at hpp;exact hpp,e⟩⟩
  ·cases hbk
 |cells t y ts=>simp [yB] at hbk
theorem aHx {side:List Prop}{s:pB}{rds:List Nat}{vv:Value}(hs:qH (sE g g' base W (pE upd)) w' s vv):qV g w H ⟨side,s,upd,rds⟩ (sE g g' base W (pE upd)) w' vv:=by
 have le:=a8J hH hm hr hb hf;have fr:=aHw hH hm hr hb hf;have gho: ∀i,i∉pE upd->(sE g g' base W (pE upd)).J i=g.J i/\(sE g g' base W (pE upd)).cur i=g.cur i:=fun i hi=>
  a8H hH hm hr hb hf (fun h=>hi h.2) (S4 fun c hc=>hi ((CS hH hm hr hb hf hc).1))
 have perm: ∀i blk b o,i∈pE upd->pD (pS upd H) i=some blk->rE (sE g g' base W (pE upd)) i blk b o->w.heap.size<=b\/rY g H (pE upd) b o:=by
  intro i blk b o hi hg ho;rcases S6 hH hm hr hb hf hi hg with⟨c,i',u,x,toks,off,b0,h1,h2,h3,h4⟩ |⟨c,k,b0,h1,h2,h3,h4⟩ |⟨c,b0,h1,h2,h3,h4⟩
  ·subst h2;obtain⟨_,k2,_⟩:=XB hH hm hr hb hf h1 h3 h4;exact .inr ⟨i,_,hi,(k2 b o ho).2,(k2 b o ho).1⟩
  ·subst h2;obtain⟨_,k2⟩:=XD hH hm hr hb hf h1 h3 h4;exact(hr.perm c b0 b o h3 (k2 b o ho)).imp id fun h=>XA hH hm hr hb hf h
  ·rw[aQo] at h2 h4;subst h2;obtain⟨_,k2⟩:=XC hH hm hr hb hf h3 h1 h4;exact(hr.perm c b0 b o h1 (k2 b o ho)).imp id fun h=>XA hH hm hr hb hf h
 refine⟨le,hs,hH.upd le fr perm gho (fun i blk hi hg=> ?_) (fun i j bi bj b o hi hj hij hgi hgj hoi hoj=> ?_) (fun b o h=>hr.heap.sl b o h),fr,perm,gho,fun i u' y us h=> ?_⟩
 ·rcases S6 hH hm hr hb hf hi hg with⟨c,i',u,x,toks,off,b0,h1,h2,h3,h4⟩ |⟨c,k,b0,h1,h2,h3,h4⟩ |⟨c,b0,h1,h2,h3,h4⟩
  ·subst h2;exact(XB hH hm hr hb hf h1 h3 h4).1
  ·subst h2;exact(XD hH hm hr hb hf h1 h3 h4).1
  ·rw[aQo] at h2 h4;subst h2;exact(XC hH hm hr hb hf h3 h1 h4).1
 ·have cls: ∀{i:Nat}{blk:p9},i∈pE upd->pD (pS upd H) i=some blk->rE (sE g g' base W (pE upd)) i blk b o->
    (∃c u x toks off b0,W[c]? =some (.box i u x toks off)/\r.H[c]? =some b0/\rE g i (.cells u x toks) b o/\pD H i=some (.cells u x toks)/\(rE g' c b0 b o\/(b<w.heap.size/\¬xZ (uC g W) (pN 0 L) b o)))\/
    (∃c b0,yV base r.H.length c W[c]? =some i/\r.H[c]? =some b0/\rE g' c b0 b o):=by
   intro i blk hi hg ho;rcases S6 hH hm hr hb hf hi hg with⟨c,i',u,x,toks,off,b0,h1,h2,h3,h4⟩ |⟨c,k,b0,h1,h2,h3,h4⟩ |⟨c,b0,h1,h2,h3,h4⟩
   ·subst h2;obtain⟨_,k2,k3⟩:=XB hH hm hr hb hf h1 h3 h4;exact .inl ⟨c,u,x,toks,off,b0,h1,h3,(k2 b o ho).1,(k2 b o ho).2,k3 b o ho⟩
   ·subst h2;obtain⟨_,k2⟩:=XD hH hm hr hb hf h1 h3 h4;exact .inr ⟨c,b0,by rw[h1];rfl,h3,k2 b o ho⟩
   ·rw[aQo] at h2 h4;subst h2;obtain⟨_,k2⟩:=XC hH hm hr hb hf h3 h1 h4;exact .inr ⟨c,b0,by rw[h3];simp only[yV];rw[if_pos (aP0.1 h1).1],h1,k2 b o ho⟩
  have cross: ∀{c c':Nat}{b0 b1:p9},c≠c'->r.H[c]? =some b0->r.H[c']? =some b1->rE g' c b0 b o->rE g' c' b1 b o->False:=fun hne h1 h2 o1 o2=>
   hr.heap.dis _ _ _ _ b o hne (by rw[wS];exact h1) (by rw[wS];exact h2) o1 o2
  rcases cls hi hgi hoi with⟨c,u,x,toks,off,b0,h1,h2,h3,h4,h5⟩ |⟨c,b0,h1,h3,h4⟩<;>rcases cls hj hgj hoj with⟨c',u',x',toks',off',b0',k1,k2,k3,k4,k5⟩ |⟨c',b0',k1,k3,k4⟩
  ·exact hH.dis i j _ _ b o hij h4 k4 h3 k3
  ·rcases h5 with h5|⟨h5,h6⟩
   ·exact cross (fun e=>by subst e;rw[h1] at k1;cases k1) h2 k3 h5 k4
   ·rcases hr.perm c' b0' b o k3 k4 with h|h
    ·omega
    ·exact h6 h
  ·rcases k5 with k5|⟨k5,k6⟩
   ·exact cross (fun e=>by subst e;rw[k1] at h1;cases h1) h3 k2 h4 k5
   ·rcases hr.perm c b0 b o h3 h4 with h|h
    ·omega
    ·exact k6 h
  ·exact cross (fun e=>by subst e;rw[h1] at k1;exact hij (aPS k1)) h3 k3 h4 k4
 ·by_cases hi:i∈pE upd
  ·rcases S6 hH hm hr hb hf hi h with⟨c,i',u,x,toks,off,b0,h1,h2,h3,h4⟩ |⟨c,k,b0,h1,h2,h3,h4⟩ |⟨c,b0,h1,h2,h3,h4⟩
   ·subst h2;obtain⟨_,_,bL,hL,hok⟩:=CS hH hm hr hb hf h1;cases b0 with
    |cells t y0 ts=>
     obtain⟨y2,z,_,hset,hq⟩:=X8 h4;simp only[aQh,p9.cells.injEq,true_and] at hq;obtain⟨rfl,_⟩:=hq;cases bL with
     |cells=>exact .inl ⟨x,toks,hok.1⟩
     |_=>exact hok.elim
    |grow=>simp [wH] at h4
    |row=>simp [wH] at h4
    |map=>simp [wH] at h4
    |iter=>simp [wH] at h4
    |dead=>simp [wH] at h4
   ·cases b0 with
    |cells t y0 ts=>simp [yB] at h4
    |iter=>simp [yB] at h4
    |map=>simp only[yB] at h4;split at h4<;>simp at h4
    |row=>simp only[yB] at h4;split at h4<;>simp at h4
    |_=>simp [yB] at h4
   ·rw[aQo] at h2;exact .inr (hf i hi (by omega))
  ·exact .inl ⟨y,us,(AH hi).symm.trans h⟩
end
section
variable {P:Program}{g:Gh}{w:World}
def aHy (P:Program) (g:Gh) (w:World) (d:Nat) (ty:Ty) (x y:ty.den):WD->Prop
 | .ty t=> ∀vx vy,s9 g w ty x vx->s9 g w ty y vy->∃b,A8 ty x y=some b/\(Op.equalIn (d+1) t vx vy).run P w= .ok b w
 | .fs o l=> ∀px py cx cy,px.length=o->py.length=o->Rd g w ty x cx->Rd g w ty y cy->∃b,A8 ty x y=some b/\(Op.eqFields (d+1) (px++cx).toArray (py++cy).toArray l).run P w= .ok b w
 | .el e i m=> ∀px py cx cy,px.length=i*P.cellsOf e->py.length=i*P.cellsOf e->Rd g w ty x cx->Rd g w ty y cy->∃b,A8 ty x y=some b/\(Op.eqItems (d+1) e (P.cellsOf e) (px++cx).toArray (py++cy).toArray (List.range' i m)).run P w= .ok b w
theorem aHz {e:TypeId}{n:Nat}(h:(P.info? e).map (·.size)=some n):P.cellsOf e=n:=by
 obtain⟨i,h1,h2⟩:=aP3.1 h;simp [Program.cellsOf,h1,h2]
theorem x7.run {n:Nat}{ix:WD}{ty:Ty}(h:x7 P n ix ty): ∀(d:Nat),n<=d->∀x y:ty.den,aHy P g w d ty x y ix:=by
 induction h with
 |bool hu=>
  intro d _ x y vx vy hx hy;obtain rfl:=w9 hx;obtain rfl:=w9 hy;exact⟨_,rfl,run_equalIn_bool' w d _ _ _ hu⟩
 |int hu=>
  intro d _ x y vx vy hx hy;obtain rfl:=v8 hx;obtain rfl:=v8 hy;refine⟨_,rfl,(run_equalIn_int w d _ _ _ _ _ hu).trans ?_⟩;congr 1
 |str hu=>
  intro d _ x y vx vy hx hy;obtain rfl:=xF hx;obtain rfl:=xF hy;refine⟨_,rfl,(run_equalIn_string w d _ _ _ hu).trans ?_⟩;congr 1;rw[ByteArray.toList_eq,ByteArray.toList_eq];exact NA _ _
 | @struct h0 t0 fs0 ty0 hr hu hs _ ih=>
  intro d hd x y vx vy hx hy;obtain⟨cx,rfl,rx⟩:=HX hr hx;obtain⟨cy,rfl,ry⟩:=HX hr hy;obtain⟨d,rfl⟩: ∃d',d=d'+1:=⟨d-1,by omega⟩;obtain⟨b,h1,h2⟩:=ih d (by omega) x y [] [] cx cy rfl rfl rx ry;refine⟨b,h1,?_⟩;have hf:P.fieldsOf t0=fs0:=by unfold Program.fieldsOf;rw[hu]
  rw[run_equalIn_struct w _ _ _ _ (by rw[hf];exact hu) hs,hf];simpa using h2
 |arr hr hu hi _ ih=>
  intro d hd x y vx vy hx hy;obtain⟨cx,rfl,rx⟩:=HX hr hx;obtain⟨cy,rfl,ry⟩:=HX hr hy;obtain⟨d,rfl⟩: ∃d',d=d'+1:=⟨d-1,by omega⟩;obtain⟨b,h1,h2⟩:=ih d (by omega) x y [] [] cx cy (by simp) (by simp) rx ry;refine⟨b,h1,?_⟩;obtain⟨i,hi⟩:=aPO.1 hi;rw[run_equalIn_array w _ _ _ hu hi,List.range_eq_range'];simpa using h2
 |nil=>
  intro d _ x y px py cx cy _ _ _ _;exact⟨true,rfl,by simp [Op.eqFields]⟩
 |anil=>
  intro d _ x y px py cx cy _ _ _ _;exact⟨true,rfl,by simp [Op.eqItems]⟩
 | @cons h o f r a b hn ho hsz hrow _ _ iha ihb=>
  intro d hd x y px py cx cy hpx hpy ⟨x1,x2,ex,rx1,rx2⟩ ⟨y1,y2,ey,ry1,ry2⟩;subst ex;subst ey;obtain⟨vx,p1,v1⟩:=NB (P:=P) (c1:=px) (c3:=x2) hsz hrow rx1;obtain⟨vy,p2,v2⟩:=NB (P:=P) (c1:=py) (c3:=y2) hsz hrow ry1;obtain⟨b1,e1,r1⟩:=iha d hd x.1 y.1 vx vy v1 v2;obtain⟨b2,e2,r2⟩:=ihb d hd x.2 y.2 (px++x1) (py++y1) x2 y2 (by rw[aPP,hpx,rW rx1]) (by rw[aPP,hpy,rW ry1]) rx2 ry2;refine⟨b1&&b2,by simp only[A8,e1,e2,A8.eqAnd],?_⟩;rw[aPW] at p1 p2 r2;rw[aPW] at r2;rw[hpx,<-ho] at p1;rw[hpy,<-ho] at p2;simp only[Op.eqFields,if_pos hn,aP4,p1,p2,aPV,r1];cases b1
  ·simp
  ·simpa using r2
 | @acons h e i m a b hsz hrow _ _ iha ihb=>
  intro d hd x y px py cx cy hpx hpy ⟨x1,x2,ex,rx1,rx2⟩ ⟨y1,y2,ey,ry1,ry2⟩;subst ex;subst ey;have hc:=aHz hsz;obtain⟨vx,p1,v1⟩:=NB (P:=P) (c1:=px) (c3:=x2) hsz hrow rx1;obtain⟨vy,p2,v2⟩:=NB (P:=P) (c1:=py) (c3:=y2) hsz hrow ry1;obtain⟨b1,e1,r1⟩:=iha d hd x.1 y.1 vx vy v1 v2;obtain⟨b2,e2,r2⟩:=ihb d hd x.2 y.2 (px++x1) (py++y1) x2 y2 (by rw[aPP,hpx,rW rx1,hc,aQU]) (by rw[aPP,hpy,rW ry1,hc,aQU]) rx2 ry2;refine⟨b1&&b2,by simp only[A8,e1,e2,A8.eqAnd],?_⟩;rw[aPW] at p1 p2 r2;rw[aPW] at r2;rw[hpx] at p1;rw[hpy] at p2;simp only[aRz,Op.eqItems,aP4,p1,p2,aPV,r1];cases b1
  ·simp
  ·simpa using r2
variable {o:Oper}{a:Act}{H:rD}{T:rU}(hT:w8 P T) (hH:rL g w H)
include hT hH
theorem aHA {op:BinOp}{xt yt:TypeId}{x y:Operand}(ho:o.op= .binOp op xt x y yt) {sx sy:pB}(hx:qH g w sx (a.eval x)) (hy:qH g w sy (a.eval y)) {e:pM}
  (hr:zH (V5 (qK T xt) op sx sy)=some e):qB P o a g w H e:=by
 obtain⟨q,hq,rfl⟩:=HY hr;have go: ∀{u v:Value},a.eval x=u->a.eval y=v->(∃z,(do eqGuard op xt x y u v;Go.binOp op xt u v:Sem Value).run P w= .ok z w/\yD g w q.2 z)->qB P o a g w H ⟨q.1,(q.2,none),[],[]⟩:=by
  rintro u v rfl rfl ⟨z,hz,hd⟩;refine qB.pure hH (v:=z) ?_ hd;unfold execOp;rw[ho];simp only[aP4,aQd] at hz⊢;rw[hz];rfl
 replace hx:=hx.1;replace hy:=hy.1;generalize hti:qK T xt=oti at hq;unfold V5 at hq;split at hq
 ·rename_i u el by' ar ls_ t l k k';have hd:=(s7 hT hti).2;simp only[x8] at hd;obtain⟨ax,cx,ex,hle,hll⟩:=BU hx;have hnil:ax=none->l=[]:=fun h=>by
   rcases hll with h1|⟨b,o,h1,_⟩
   ·exact h1
   ·rw[h] at h1;cases h1
  have ey:a.eval y= .slice none 0 0:=hy;refine go ex ey ?_;unfold Q1 at hq;split at hq
  ·cases hq;have h1:(do eqGuard .eql xt x y (.slice ax (List.length l) cx) (.slice none 0 0);Go.binOp .eql xt (.slice ax (List.length l) cx) (.slice none 0 0):Sem Value).run P w= .ok (.bool ax.isNone) w:=by
    simp only[aP4];rw[show (eqGuard .eql xt x y (.slice ax (List.length l) cx) (.slice none 0 0)).run P w= .ok () w from by simp [eqGuard]];exact Lib.run_eql_slice_nil (P:=P) w xt _ ax (List.length l) cx 0 0 hd.1
   exact⟨_,h1,_,rfl,fun h=>hnil (by simpa using h),fun _=>trivial⟩
  ·cases hq;have h1:(do eqGuard .neq xt x y (.slice ax (List.length l) cx) (.slice none 0 0);Go.binOp .neq xt (.slice ax (List.length l) cx) (.slice none 0 0):Sem Value).run P w= .ok (.bool (!ax.isNone)) w:=by
    simp only[aP4];rw[show (eqGuard .neq xt x y (.slice ax (List.length l) cx) (.slice none 0 0)).run P w= .ok () w from by simp [eqGuard]];exact run_neq_slice_nil_any (P:=P) w xt _ ax (List.length l) cx 0 0 hd.1
   exact⟨_,h1,_,rfl,fun _=>trivial,fun h=>hnil (by simpa using h)⟩
  ·cases hq
 ·rename_i u el by' ar ls_ k t l k';have hd:=(s7 hT hti).2;simp only[x8] at hd;obtain⟨ay,cy,ey,hle,hll⟩:=BU hy;have hnil:ay=none->l=[]:=fun h=>by
   rcases hll with h1|⟨b,o,h1,_⟩
   ·exact h1
   ·rw[h] at h1;cases h1
  have ex:a.eval x= .slice none 0 0:=hx;refine go ex ey ?_;unfold Q1 at hq;split at hq
  ·cases hq;have h1:(do eqGuard .eql xt x y (.slice none 0 0) (.slice ay (List.length l) cy);Go.binOp .eql xt (.slice none 0 0) (.slice ay (List.length l) cy):Sem Value).run P w= .ok (.bool ay.isNone) w:=by
    simp only[aP4];rw[show (eqGuard .eql xt x y (.slice none 0 0) (.slice ay (List.length l) cy)).run P w= .ok () w from by simp [eqGuard]];exact run_eql_nil_slice (P:=P) w xt _ ay (List.length l) cy 0 0 hd.1
   exact⟨_,h1,_,rfl,fun h=>hnil (by simpa using h),fun _=>trivial⟩
  ·cases hq;have h1:(do eqGuard .neq xt x y (.slice none 0 0) (.slice ay (List.length l) cy);Go.binOp .neq xt (.slice none 0 0) (.slice ay (List.length l) cy):Sem Value).run P w= .ok (.bool (!ay.isNone)) w:=by
    simp only[aP4];rw[show (eqGuard .neq xt x y (.slice none 0 0) (.slice ay (List.length l) cy)).run P w= .ok () w from by simp [eqGuard]];exact run_neq_nil_slice (P:=P) w xt _ ay (List.length l) cy 0 0 hd.1
   exact⟨_,h1,_,rfl,fun _=>trivial,fun h=>hnil (by simpa using h)⟩
  ·cases hq
 ·rename_i u el b ar ls_ t x' k t' y' k';unfold a6Z at hq;split at hq
  ·rename_i htt;subst htt;split at hq
   ·rename_i hc;obtain⟨rfl,hc⟩:=hc;simp only[sZ] at hq;obtain⟨r,hr1,hr2⟩: ∃r,A8 t' x' y'=some r/\((op= .eql/\q=([],.val .bool r))\/(op= .neq/\q=([],.val .bool (!r)))):=by
     generalize hgen:A8 t' x' y'=od at hq;unfold a6Y at hq;split at hq
     ·rename_i r;cases hq;exact⟨r,rfl,.inl ⟨rfl,rfl⟩⟩
     ·rename_i r;cases hq;exact⟨r,rfl,.inr ⟨rfl,rfl⟩⟩
     ·cases hq
    have hti':=s7 hT hti;rcases hc with rfl|⟨hrow,rfl⟩
    ·have hd:=hti'.2;simp only[x8] at hd;obtain hbx:=w9 hx;obtain hby:=w9 hy;refine go hbx hby ?_;have hrr:r=(x'==y'):=(aPS hr1).symm;subst hrr;have hrun:=run_equalIn_bool' (P:=P) w 9999 xt x' y' hd;rcases hr2 with⟨rfl,rfl⟩ |⟨rfl,rfl⟩
     ·refine⟨.bool (x'==y'),?_,vL _ _ _⟩;simp only[aP4];rw[show (eqGuard .eql xt x y (.bool x') (.bool y')).run P w= .ok () w from by simp [eqGuard]];simp only[aPV,Go.binOp,Op.equal,Op.maxDepth,aP4,hrun,aQd]
     ·refine⟨.bool (!(x'==y')),?_,vL _ _ _⟩;simp only[aP4];rw[show (eqGuard .neq xt x y (.bool x') (.bool y')).run P w= .ok () w from by simp [eqGuard]];simp only[aPV,Go.binOp,Op.equal,Op.maxDepth,aP4,hrun,aQd]
    ·have h2:=hti'.2;have heq:P.eqGuardType P.depth xt=false/\∃h,h<9000/\x7 P h (.ty xt) t':=by
      unfold x8 at h2;cases t'<;>simp only[Ty.isRow,aQG] at hrow
      all_goals exact h2.2 rfl
     obtain⟨hg1,hh,hlt,hE⟩:=heq;obtain⟨cx,ex,rx⟩:=HX hrow hx;obtain⟨cy,ey,ry⟩:=HX hrow hy;obtain⟨b',hb1,hb2⟩:=hE.run (g:=g) (w:=w) 9999 (by omega) x' y' _ _ hx hy;rw[hr1] at hb1;obtain rfl:=aPS hb1;rw[ex,ey] at hb2;refine go ex ey ?_;rcases hr2 with⟨rfl,rfl⟩ |⟨rfl,rfl⟩
     ·refine⟨.bool r,?_,vL _ _ _⟩;simp only[aP4];rw[run_eqGuard_agg w _ _ _ _ _ _ hg1];simp only[aPV];rw[run_eql_struct,hb2];rfl
     ·refine⟨.bool (!r),?_,vL _ _ _⟩;simp only[aP4];rw[run_eqGuard_agg w _ _ _ _ _ _ hg1];simp only[aPV];rw[run_neq_struct,hb2];rfl
   ·cases hq
  ·cases hq
 ·cases hq
end
end Go.Proofs.YtbbpilohihldiaaGreatDoor.Vc
namespace Go.Proofs.YtbbpilohihldiaaGreatDoor.Vc
open Go.RowKit
theorem aHB (s:List UInt8):Lib.strCells ⟨s.toArray⟩=s.map fun b=>Value.int .u8 b.toNat:=by
 simp [Lib.strCells]
theorem aHC {P:Program}(w:World) (t u ty e:TypeId) (i:TypeInfo) (ht:P.underlying t=some (.slice e)) (hu:P.underlying u=some .string) (hi:P.info? e=some i) (hz:i.zero=some (.int .u8 0))
  (hsize:i.size=1) (hby:i.bytes=1) (v:Value) (n:Nat) (xs:List Value) (hown:w.ownsRow 0 e 1 v n xs) (s:ByteArray) (hm:0<s.size)
  (h63:n+s.size<=maxLen) (hbytes:n+s.size<=140737488355328):
  ∃q cap w',(Builtin.append_ #[t,u] ty #[v,.string s]).run P w= .ok (.slice (some ⟨q,0,none⟩) (n+s.size) cap) w'/\w'.ownsRow 0 e 1 (.slice (some ⟨q,0,none⟩) (n+s.size) cap) (n+s.size) (xs++Lib.strCells s)/\
   (q=w.heap.size\/v.ownBlock=some q)/\w.grownBy w' v.ownBlock/\n+s.size<=cap/\
   ∀b o,b<w.heap.size->(v.ownBlock=some b->o<n*1)->w'.cell? ⟨b,o,none⟩=w.cell? ⟨b,o,none⟩:=by
 have hsmall:n+s.size<=9223372036854775807:=by simp only[maxLen] at h63;omega
 have hxl:xs.length=n:=by simpa using hown.1
 have hlen:(xs++Lib.strCells s).length=(n+s.size)*1:=by rw[aPP,hxl,Lib.strCells_length,aRX]
 have grown: ∀(old:Nat),old<n+s.size->∀(row:Option Nat),
   (w.drew.alloc (.cells (xs.toArray++(Lib.strCells s).toArray++Builtin.zeroCells (Value.int .u8 0).cells (grownCap w (n+s.size) old e- (n+s.size))) e)).ownsRow 0 e 1
    (.slice (some ⟨w.heap.size,0,none⟩) (n+s.size) (grownCap w (n+s.size) old e)) (n+s.size) (xs++Lib.strCells s)/\
   w.grownBy (w.drew.alloc (.cells (xs.toArray++(Lib.strCells s).toArray++Builtin.zeroCells (Value.int .u8 0).cells (grownCap w (n+s.size) old e- (n+s.size))) e)) row/\n+s.size<=grownCap w (n+s.size) old e/\
   ∀b o,b<w.heap.size->(w.drew.alloc (.cells (xs.toArray++(Lib.strCells s).toArray++Builtin.zeroCells (Value.int .u8 0).cells (grownCap w (n+s.size) old e- (n+s.size))) e)).cell? ⟨b,o,none⟩=w.cell? ⟨b,o,none⟩:=by
  intro old ho row;have hge:=grownCap_ge w (n+s.size) old e;have hcm:grownCap w (n+s.size) old e<=maxLen:=grownCap_le_maxLen w (n+s.size) old e h63;refine⟨⟨hlen,.inr ⟨w.heap.size,_,_,rfl,aQI _,aRZ w.drew _,hge,hcm,?_,?_⟩⟩,⟨rfl,rfl,rfl,by simp,fun k hk _=>aQg w.drew _ k hk⟩,hge,fun b o hb=>aQb (w:=w) (a:=⟨b,o,none⟩) (aQg w.drew _ b hb)⟩
  ·have hz1:(Value.int IntKind.u8 0).cells.size=1:=rfl;simp only[aRY,aQA,size_zeroCells,hz1,hxl,Lib.strCells_length];omega
  ·simp only[Array.toList_append,aPW];rw[<-aPW,<-hlen];exact aRd
 rcases hown.2 with⟨rfl,rfl⟩ |⟨g,cap,cur,rfl,hbg,hg,hnc,hcm,hcs,htake⟩
 ·have hx:xs=[]:=aQj hxl;subst hx;have hr:=run_append_nil_string (P:=P) w t u ty e i (.int .u8 0) ht hu hi hz s (by omega) (by omega) (by rw[hby];omega);have hgr:=grown 0 (by omega) (Value.ownBlock (.slice none 0 0));simp only[aQo,List.nil_append,Array.empty_append] at hgr⊢;have e1:(s.data.map fun b=>Value.int .u8 b.toNat)=(Lib.strCells s).toArray:=by
   apply Array.ext';simp [Lib.strCells]
  rw[e1] at hr;exact⟨_,_,_,hr,hgr.1,.inl rfl,hgr.2.1,hgr.2.2.1,fun b o hb _=>hgr.2.2.2 b o hb⟩
 ·by_cases hroom:n+s.size<=cap
  ·have hcs':cur.size=cap:=by simpa using hcs
   have hr:=Lib.run_append_room_string (P:=P) w t u ty e i ht hu hi hsize g n cap cur hg s hroom (by omega);refine⟨_,_,_,hr,⟨hlen,.inr ⟨g,cap,_,rfl,hbg,aRP w g cur _ e _ hg,hroom,hcm,?_,?_⟩⟩,.inr rfl,⟨rfl,rfl,rfl,by simp,fun k _ hk=>aRn w g k _ (fun e=>hk (by simp [Value.ownBlock,e]))⟩,hroom,fun b o hb hso=> ?_⟩
   ·simp only[aQA,aPP,aQc,aP5,aQl,Lib.strCells_length];omega
   ·have ht':cur.toList.take n=xs:=by simpa using htake
    rw[ht',<-hlen];exact aRd
   ·by_cases hbg':b=g
    ·subst hbg';have ho:=hso rfl;rw[cell_setRow_same w b o cur _ e _ hg,cell_of_row w b o cur e (0,0) hg];have hlt:o<(cur.toList.take n).length:=by rw[aQc,aQl];omega
     have hlt2:o<cur.size:=by rw[aQc,aQl] at hlt;omega
     simp only[List.getElem?_toArray,aPW];rw[aP7 hlt,aRD,if_pos (by omega)];simp
    ·exact aQb (a:=⟨b,o,none⟩) (aRn w g b _ hbg')
  ·have holds: ∀j u,xs[j]? =some u->w.cell? ((⟨g,0,none⟩:Addr).add j)=some u:=hown.cells (g:=g) rfl;have hr:=Lib.run_append_grow_string (P:=P) w t u ty e i (.int .u8 0) ht hu hi hz ⟨g,0,none⟩ n cap xs (by rw[hsize];simpa using hxl) holds s (by omega) (by omega) (by rw[hby];exact growslice_fits (by omega) (by omega));have hgr:=grown cap (by omega) (Value.ownBlock (.slice (some ⟨g,0,none⟩) n cap));exact⟨_,_,_,hr,hgr.1,.inl rfl,hgr.2.1,hgr.2.2.1,fun b o hb _=>hgr.2.2.2 b o hb⟩
theorem aHD {P:Program}(w:World) (t u ty e:TypeId) (i:TypeInfo) (ht:P.underlying t=some (.slice e)) (hu:P.underlying u=some .string) (hi:P.info? e=some i) (hsize:i.size=1) (ad:Option Addr) (n c:Nat) (hle:n<=c):
  (Builtin.append_ #[t,u] ty #[.slice ad n c,.string ⟨#[]⟩]).run P w= .ok (.slice ad n c) w:=by
 have hf:=Lib.run_firstCells_string (P:=P) w 1 ⟨#[]⟩;have hm:(⟨#[]⟩:ByteArray).size=0:=rfl;rw[hm] at hf;cases ad<;>simp [Builtin.append_,aP6 ht,aP6 hu,sizeOf,typeInfo,hi,hsize,Builtin.lenOf,hm,hf,hle,Lib.strCells,storeCells]
theorem a8O (g:Gh) (w:World): ∀s:List UInt8,sB (Rd g w (.int .u8)) 1 (rK s) (s.map fun b=>Value.int .u8 b.toNat)
 |[]=>rfl
 |b::s=>⟨[.int .u8 b.toNat],_,rfl,rfl,rfl,a8O g w s⟩
section
variable {P:Program}{o:Oper}{a:Act}{g:Gh}{w:World}{H:rD}{T:rU}(hT:w8 P T) (hH:rL g w H)
include hT hH
theorem aHE {t t':TypeId}{x:Operand}(ho:o.op= .convert t t' x) {sx:pB}(hx:qH g w sx (a.eval x)) {e:pM}
  (hr:zH (V7 T (qK T t) (qK T t') sx)=some e):qB P o a g w H e:=by
 obtain⟨q,hq,rfl⟩:=HY hr;replace hx:=hx.1;generalize h1:qK T t=o1 at hq;generalize h2:qK T t'=o2 at hq;unfold V7 at hq;split at hq
 ·rename_i e b1 a1 l1 e2 b2 a2 l2 l k;generalize h3:qK T e=o3 at hq;unfold a61 at hq;split at hq
  ·cases hq;have d1:=(s7 hT h1).2;have d2:=(s7 hT h2).2;have d3:=(s7 hT h3).2;simp only[x8] at d1 d2 d3;obtain⟨ad,cap,hv,hle,hl⟩:=BU hx;refine qB.pure hH (v:= .string ⟨(rV l).toArray⟩) ?_ (CR _ _ _);simp only[execOp,ho,hv,aP4];have run:(convert t t' (.slice ad (List.length l) cap)).run P w= .ok (.string ⟨(rV l).toArray⟩) w:=by
    rcases hl with rfl|⟨b,off,rfl,hL⟩
    ·rw[run_convert_bytes_string w t t' e ad _ cap d1.1 d3 d2];cases ad with
     |none=>simp [Conv.bytesToString,rV];rfl
     |some ad=>simp [Conv.bytesToString,loadCells,loadCellsFrom,rV];rfl
    ·have:=run_convert_bytes_arg (P:=P) w t e d1.1 d3 b off (List.length l) cap l rfl (fun i hi=>by
      obtain⟨cs,_,c2,_,c4⟩:=RJ hL (aPU hi);have c5:cs=[.int .u8 (l[i]:Int)]:=c4;subst c5;have:=c2 0 _ rfl;have hcell:Ty.cells (.int .u8)=1:=rfl;rw[hcell,aRX,aRg] at this;rw[this,aQe,aPU hi];rfl) t' d2
     exact this
   rw[run];rfl
  ·cases hq
 ·cases hq
theorem aHF {args:Array Operand}{tys:Array TypeId}(ho:o.op= .call ⟨.builtin .append,args,tys⟩) {ρ:Operand->pB}(hρ: ∀x∈args.toList,qH g w (ρ x) (a.eval x)) {e:pM}
  (hr:R0 T H (uJ ρ args.toList) tys.toList=some e) (hs: ∀p∈e.side,p):qB P o a g w H e:=by
 unfold R0 at hr;split at hr
 ·rename_i t u htu;have htys:tys= #[t,u]:=by apply aQY.1;rw[htu]
  split at hr
  ·rename_i e1;subst e1;exact aG1 hT hH ho hρ htys hr hs
  ·clear htu;subst htys;generalize hst:qK T t=ot at hr;generalize hsu:qK T u=ou at hr;generalize hss:uJ ρ args.toList=ss at hr;unfold VX at hr;split at hr
   ·rename_i el ar ls_ e2 b2 a2 ls2 l k s k2;generalize hk:pD H k=ob at hr;unfold QZ at hr;split at hr
    ·rename_i e' c n;split at hr
     ·rename_i hec;obtain⟨rfl,rfl⟩:=hec;cases hr;rw[aPP];have hsl:List.length (rK s)=List.length s:=by simp [rK]
      rw[hsl];have hln:=hs _ (by simp:(List.length l=n)∈_);have hby:=hs _ (by simp:(List.length l+List.length s<=140737488355328)∈_);obtain⟨v,vr,hv,hs1,hs2⟩:=RM hT hH hρ hss;obtain⟨h2,h3,_⟩:=(s7 hT hst).2;have hu:=(s7 hT hsu).2;simp only[x8] at hu;obtain⟨ei,hei,hz⟩:=aP3.1 h3;simp only[aQh] at hz;obtain⟨cs,hx⟩:=E3 (a:=a) hT hH ho;obtain⟨v0,xs,hv0,hown,hnone,hseal⟩:=hH.blk k _ hk;have hcur:g.cur k (List.length l)=some v:=hs1.2;rw[hln,hv0] at hcur;obtain rfl:=aPS hcur;obtain⟨adl,capl,hvl,hlel,hll⟩:=BU hs1.1;have hvr:=xF hs2.1;have hsz:(⟨List.toArray s⟩:ByteArray).size=List.length s:=by simp [ByteArray.size]
      by_cases hm:List.length s=0
      ·obtain rfl:s=[]:=aQj hm;have hget: ∀i,pD (pS [(k,p9.grow e' 1 (List.length l+List.length ([]:List UInt8)))] H) i=pD H i:=by
        intro i;simp only[pS,pD];by_cases hi:k=i
        ·subst hi;rw[if_pos rfl,hk,hln];rfl
        ·rw[if_neg hi]
       have hkeep:qV g w H ⟨[List.length l=n,List.length l+List.length ([]:List UInt8)<=140737488355328],(.val (.list (.int .u8)) (l++rK []),some k),[(k,.grow e' 1 (List.length l+List.length ([]:List UInt8)))],[k]⟩ g w v0:=by
        refine⟨.refl _ _,?_,⟨fun i b h=>hH.blk i b ((hget i).symm.trans h),fun i j bi bj b o' hij h1 h2=>hH.dis i j bi bj b o' hij ((hget i).symm.trans h1) ((hget j).symm.trans h2),hH.sl,hH.tab.1,fun i blk b o' h ho'=>hH.tab.2 i blk b o' ((hget i).symm.trans h) ho'⟩,.refl _ _ _,fun i blk b o' hi hg ho'=> .inr ⟨i,blk,hi,(hget i).symm.trans hg,ho'⟩,fun _ _=>⟨rfl,rfl⟩,fun i u' y us h=> .inl ⟨y,us,(hget i).symm.trans h⟩⟩;rw[show l++rK []=l from by simp [rK]];exact hs1
       refine qB.value (v:=v0) (w':=w) ?_ hkeep;rw[hx,hv,hvr,hvl];have:=aHD (P:=P) w t u o.type e' ei h2 hu hei (by rw[hz.1];rfl) adl (List.length l) capl hlel;simp only[builtin,aP4];rw[this];simp only[aPV,aQd]
      ·have hxs:sB (Rd g w (.int .u8)) 1 l xs:=by
        by_cases h0:List.length l=0
        ·obtain rfl:l=[]:=aQj h0;have:xs=[]:=aQj (by rw[hown.1,<-hln];simp);exact this
        ·rcases hll with rfl|⟨b0,off0,rfl,hL0⟩
         ·exact absurd rfl h0
         ·obtain⟨ls,hF0,hra0,_⟩:=K7 hL0;rcases hown.2 with⟨e1,e2⟩ |⟨q,cap,cur,e1,e2⟩
          ·exact absurd (hln.trans e2) h0
          ·rw[hvl] at e1;simp only[aRW,aPN,Addr.mk.injEq] at e1;obtain⟨⟨rfl,rfl,_⟩,_,rfl⟩:=e1;have hvn:v0= .slice (some ⟨b0,0,none⟩) n capl:=by rw[hvl,hln]
           have hrx:=WS (hvn▸hown);have:ls=xs:=by
            have hl1:=FX hF0;have hl2:=hown.1;have hc1:Ty.cells (.int .u8)=1:=rfl;rw[hc1] at hl1;apply List.ext_getElem?;intro j;by_cases hj:j<ls.length
            ·have h1:=hra0 j ls[j] (aPU hj);have hj':j<xs.length:=by rw[hl2,<-hln,<-hl1];exact hj
             have h2:=hrx j xs[j] (aPU hj');rw[h1] at h2;rw[aPU hj,aPU hj',aPS h2]
            ·rw[aRh (by omega),aRh (by rw[hl2,<-hln,<-hl1];omega)]
           rw[<-this];exact hF0
       obtain⟨q,cap,w',hrun,hown',hq,hg,hcap,hcell⟩:=aHC (P:=P) w t u o.type e' ei h2 hu hei hz.2.2 hz.1 hz.2.1 v0 n xs hown ⟨List.toArray s⟩ (by rw[hsz];omega) (by rw[hsz];unfold maxLen;omega) (by rw[hsz];omega);rw[hsz] at hrun hown' hcap;rw[aHB] at hown';refine qB.value (v:= .slice (some ⟨q,0,none⟩) (n+List.length s) cap) (w':=w') ?_ (by
        have:=qV.append (side:=[List.length l=n,List.length l+List.length s<=140737488355328]) (rds:=[k]) (u:= .int .u8) (r:=rK s) hH hk (show (1:Nat)=Ty.cells (.int .u8) from rfl) hln hv0 hown hnone hseal hxs (a8O g w s) (by rw[hsl];omega) (by rw[hsl];exact hown') hq hg (by rw[hsl];exact hcap) hcell;rw[hsl] at this;rw[hln];rw[hln] at this;exact this)
       rw[hx,hv,hvr];simp only[builtin,aP4,hrun,aPV,aQd]
     ·cases hr
    ·cases hr
   ·cases hr
 ·cases hr
end
theorem aHG {g g':Gh}{w:World}{f:pB→pB}(hf: ∀s u,qH g w s u→qH g' w (f s) u): ∀{l:List pB}{v:Value}{s:pB},NH g w l v→JR (l.map f)=some s→qH g' w s v:=by
  have un: ∀{l:List pB}{vs:List Value}{q},uL g w l vs→HK (l.map f)=some q→K4 g' w q vs:=by
    intro l
    induction l with
    | nil=>
      intro vs q h hq;simp only[List.map_nil,HK,aPN] at hq;subst hq;exact h
    | cons s l ih=>
      rintro vs q ⟨v,vs',rfl,h1,h2⟩ hq;have h1':=hf s v h1;simp only[aQO] at hq;generalize f s=fs at hq h1';obtain⟨d,k⟩:=fs;cases d with
      | val t x=>
        simp only[HK] at hq;obtain⟨q',hq',rfl⟩:=aP3.1 hq;refine⟨v,vs',rfl,h1'.1,?_,ih h2 hq'⟩;cases k with
        |none=>trivial
        |some k=>exact h1'.2
      |_=>simp [HK] at hq
  intro l v s h hs
  match l,h,hs with
  | [],⟨vs,e,h⟩,hs=>
    simp only[List.map_nil,JR,aPN] at hs;subst hs;rw[show vs=[] from h] at e;exact⟨⟨[],e,rfl⟩,trivial⟩
  | [x],h,hs=>
    simp only[aQO,List.map_nil,JR,aPN] at hs;subst hs;exact hf x v h
  | x::y::l,⟨vs,e,h⟩,hs=>
    simp only[aQO,JR,aPN] at hs;subst hs;cases hq:HK (f x::f y::l.map f) with
    |none=>exact⟨trivial,trivial⟩
    |some q=>exact⟨⟨vs,e,un (l:=x::y::l) h (by simpa using hq)⟩,trivial⟩
theorem a8P {base n:Nat}{W:List q6}: ∀l:List pB,MM base n W l=l.map (Q9 base n W)
  |[]=>rfl
  |s::l=>by simp [MM,a8P l]
theorem a8Q {P:Program}{f:FuncId}{sg:pX}(hcon:yH P f sg.C) {g:Gh}{w:World}{H:rD}(hH:rL g w H) {args:List pB}{vals:List Value}(hargs:uL g w args vals) {base:Nat}{e:pM}
    (hr:DS H base args (some sg)=some e) (hs: ∀p∈e.side,p) (hfr:yF g base e):Calls P f vals.toArray w (fun en w'=> ∃v g',en= .returned v∧qV g w H e g' w' v):=by
  simp only[DS] at hr;cases hp0:wG H sg.ps args (some ⟨[],[],[],0⟩) with
  |none=>rw[hp0] at hr;cases hgs:sg.gs<;>(rw[hgs] at hr;simp [MN,zJ] at hr)
  |some q0=>
   rw[hp0] at hr;cases hp:zJ H sg.gs (some q0) with
   |none=>rw[hp] at hr;simp [MN] at hr
   |some q=>
    rw[hp] at hr;simp only[MN,a8F,List.append_nil] at hr;have hpo0:=a8A hH (zP.nil g w H) hargs hp0;rw[List.nil_append] at hpo0;have hpo:=a8C hH hpo0 hp;cases hcl:FO q.ws.reverse q.H.reverse with
    |none=>rw[hcl] at hr;simp [QC] at hr
    |some L=>
    rw[hcl] at hr;simp only[QC] at hr;have hm:=hpo.m.ren hcl;cases hc:sg.C q.args.reverse L with
    |none=>rw[hc] at hr;simp [QB] at hr
    | some r=>
      rw[hc] at hr;simp only[QB,a8E] at hr;cases hbh:zK base r.H.length q.ws.reverse 0 q.ws.reverse r.H with
      |none=>rw[hbh] at hr;simp [ML] at hr
      | some upd=>
        rw[hbh] at hr;cases hrs:JR (MM base r.H.length q.ws.reverse r.ret) with
        |none=>rw[hrs] at hr;simp [ML] at hr
        | some s=>
          rw[hrs] at hr;simp only[ML,aPN] at hr;subst hr;refine(hcon.2 (uC g q.ws.reverse) w q.args.reverse _ L r (aHh hH hm) hpo.args hc hs).mono ?_;rintro en w' ⟨v,g',rfl,hret⟩;refine⟨v,_,rfl,aHx hH hm hret hbh hfr ?_⟩;rw[a8P] at hrs;exact aHG (fun s u h=>aHv hH hm hret hbh hfr h) hret.ret hrs
theorem NK {g g':Gh}{w w':World}: ∀{t:Ty}{x:t.den}{cs:List Value},FP t=true→Rd g w t x cs→Rd g' w' t x cs
  | .bool,_,_,_,r=>r
  | .int _,_,_,_,r=>r
  | .str,_,_,_,r=>r
  | .unit,_,_,_,r=>r
  | .fn,_,_,_,r=>r
  | .pair a b,_,_,h,⟨c1,c2,e,r1,r2⟩=>by
    simp only[FP,aPT] at h;exact⟨c1,c2,e,NK h.1 r1,NK h.2 r2⟩
  | .list _,_,_,h,_=>by cases h
  | .ref,_,_,h,_=>by cases h
  | .clo,_,_,h,_=>by cases h
  | .mp,_,_,h,_=>by cases h
  | .rl _ _,_,_,h,_=>by cases h
  | .mref,_,_,h,_=>by cases h
theorem a8R {g g':Gh}{w:World}{k n:Nat}{t:Ty}{l:List t.den}(le:Le g w g' w) (hk: ∀u,g.cur k n=some u→((u= .slice none 0 0∧n=0)∨∃b cap,u= .slice (some ⟨b,0,none⟩) n cap∧n≤cap)→s9 g' w (.list t) l u):
    ∀{args:List pB}{vals:List Value},uL g w args vals→(∀p∈HL k n args,p)→uL g' w (MP k t l args) vals
  |[],_,h,_=>h
  | s::ss,_,⟨v,vs,rfl,h1,h2⟩,hp=>by
    refine⟨v,vs,rfl,?_,a8R le hk h2 (fun p hp'=>hp p ?_)⟩
    · obtain⟨d,x⟩:=s
      cases d with
      | own j m=>
        simp only[a7a];split
        · rename_i e
          subst e;have hm:m=n:=hp (j=j→m=n) (by simp only[HL];exact aP8) rfl;subst hm;exact⟨hk _ h1.1.1 h1.1.2,trivial⟩
        ·exact zM le h1
      |_=>exact zM le h1
    · obtain⟨d,x⟩:=s
      cases d with
      |own j m=>simp only[HL];exact aP1 _ hp'
      |_=>exact hp'
theorem aHH {P:Program}{f:FuncId}{sg:pX}(hcon:yH P f sg.C) {g:Gh}{w:World}{H:rD}(hH:rL g w H) {args:List pB}{vals:List Value}(hargs:uL g w args vals) {base:Nat}{e:pM}{k:Nat}
    (hr:MQ H base args sg k (pD H k)=some e) (hs: ∀p∈e.side,p) (hfr:yF g base e):Calls P f vals.toArray w (fun en w'=> ∃v g',en= .returned v∧qV g w H e g' w' v):=by
  cases hk:pD H k with
  |none=>rw[hk] at hr;cases hr
  | some b=>
    rw[hk] at hr;cases b with
    | row e0 t l m=>
      simp only[MQ] at hr;cases hi:DS ((k,.dead)::H) base (MP k t l args) (some sg) with
      |none=>rw[hi] at hr;cases hr
      | some e1=>
        rw[hi] at hr;unfold VC at hr;split at hr
        · rename_i side t' x kk U rds heq
          simp only[aPN] at heq;subst heq;split at hr
          · rename_i hnl
            simp only[aPT,aQf] at hnl;obtain⟨⟨hnl,hU⟩,hkU⟩:=hnl;have hkU':k∉pE U:=fun h=>by rw[I0.2 h] at hkU;cases hkU
            cases hr;obtain⟨hl,v,xs,hv,hown,hF,hnone,hseal⟩:=hH.blk k _ hk
            let g':Gh:={g with S:=fun b o=>g.S b o∨(v.ownBlock=some b∧o<m*t.cells)}
            have le:Le g w g' w:=⟨fun _ _ h=> .inl h,fun _ _ _=>rfl,fun _ _ h=>h,fun _ _ _ h=>h⟩;have hown2: ∀b,v.ownBlock=some b→∀o,rE g k (.row e0 t l m) b o:=fun b hb o=>⟨v,hv,hb⟩
            have hlist: ∀u,g.cur k m=some u→((u= .slice none 0 0∧m=0)∨∃b cap,u= .slice (some ⟨b,0,none⟩) m cap∧m≤cap)→s9 g' w (.list t) l u:=by
              intro u hu hshape;rw[hv] at hu;obtain rfl:=aPS hu;rcases hshape with⟨rfl,h0⟩ |⟨b,cap,rfl,hcap⟩
              · have:l=[]:=aQj (by rw[hl,h0])
                subst this;exact .inr ⟨rfl,none,0,rfl,Nat.le_refl _,.inl rfl⟩
              · refine .inr ⟨rfl,some ⟨b,0,none⟩,cap,by rw[hl],by rw[hl];exact hcap,.inr ⟨b,0,rfl,K8 (B2 (fun _ _ h=>wL le h) hF) (fun j u hu=> ?_) (fun j hj=> ?_)⟩⟩
                · have:=hown.cells (g:=b) rfl j u hu
                  rwa [aQ4] at this
                · right
                  exact⟨rfl,by rw[hl] at hj;omega⟩
            have hget: ∀i b,pD ((k,p9.dead)::H) i=some b→(i=k∧b= .dead)∨(i≠k∧pD H i=some b):=by
              intro i b hb;simp only[pD] at hb;split at hb
              ·rename_i e1;exact .inl ⟨e1.symm,(aPS hb).symm⟩
              ·rename_i e1;exact .inr ⟨Ne.symm e1,hb⟩
            have hH':rL g' w ((k,p9.dead)::H):=by
              refine⟨fun i b hb=> ?_,fun i j bi bj b o hij h1 h2 o1 o2=> ?_,fun b o hS=> ?_,hH.tab.1,fun i b bb oo hb ho=> ?_⟩
              · rcases hget i b hb with⟨rfl,rfl⟩ |⟨hne,h1⟩
                ·trivial
                ·exact K5 (hH.blk i b h1) le rfl rfl (fun _ _ _=>⟨rfl,rfl⟩) (fun _ _=>rfl) (fun bb o ho hS=>by
                    rcases hS with hS|hS
                    ·exact hS
                    ·exact absurd (hown2 bb hS.1 o) (fun h5=>hH.dis i k b _ bb o hne h1 hk ho h5)) (fun _ _ _ _ h=>h)
              · rcases hget i bi h1 with⟨_,rfl⟩ |⟨_,h1⟩
                ·exact o1.elim
                · rcases hget j bj h2 with⟨_,rfl⟩ |⟨_,h2⟩
                  ·exact o2.elim
                  ·exact hH.dis i j bi bj b o hij h1 h2 ((xY (g':=g') (g:=g) rfl rfl).1 o1) ((xY (g':=g') (g:=g) rfl rfl).1 o2)
              · rcases hS with hS|hS
                ·exact hH.sl b o hS
                ·exact N6 hown hS.1
              · rcases hget i b hb with⟨_,rfl⟩ |⟨_,h1⟩
                ·exact ho.elim
                ·exact hH.tab.2 i b bb oo h1 ((xY (g':=g') (g:=g) rfl rfl).1 ho)
            have hsp: ∀p,p∈HL k m args∨p∈side→p:=fun p hp=>hs p (NF.2 hp)
            have hget2: ∀i,i≠k→pD ((k,p9.dead)::H) i=pD H i:=fun i hi=>by
              simp only[pD];rw[if_neg (Ne.symm hi)]
            have hin: ∀{i},i∈pE U→i≠k:=fun h e=>hkU' (e▸h)
            have hup: ∀{i blk},i∈pE U→pD (pS U H) i=some blk→pD (pS U ((k,p9.dead)::H)) i=some blk:=by
              intro i blk hi h
              have: ∀{U:List (Nat×p9)},i∈pE U→pD (pS U ((k,p9.dead)::H)) i=pD (pS U H) i:=by
                intro U
                induction U with
                |nil=>intro h;cases h
                | cons q U ih=>
                  intro h;obtain⟨j,b⟩:=q;simp only[pS,pD];split
                  ·rfl
                  · rename_i hne
                    simp only[pE,aP2] at h;exact ih (h.resolve_left (fun e=>hne e.symm))
              rw[this hi];exact h
            have hcells: ∀{i blk},i∈pE U→pD (pS U H) i=some blk→∃t y,blk= .cells t y []∧FP t=true:=by
              intro i blk hi h
              have: ∀{U:List (Nat×p9)},JS U=true→i∈pE U→pD (pS U H) i=some blk→∃t y,blk= .cells t y []∧FP t=true:=by
                intro U
                induction U with
                |nil=>intro _ h;cases h
                | cons q U ih=>
                  intro hU hi h;obtain⟨j,b⟩:=q;cases b with
                  | cells t y ts=>
                    cases ts with
                    |cons _ _=>simp [JS] at hU
                    | nil=>
                      simp only[JS,aPT] at hU;simp only[pS,pD] at h;split at h
                      · obtain rfl:=aPS h
                        exact⟨t,y,rfl,hU.1⟩
                      · rename_i hne
                        simp only[pE,aP2] at hi;exact ih hU.2 (hi.resolve_left (fun e=>hne e.symm)) h
                  |_=>simp [JS] at hU
              exact this hU hi h
            have hownI: ∀b o,rY g' ((k,p9.dead)::H) (pE U) b o→rY g H (pE U) b o:=fun b o ⟨i,blk,hi,h1,h2⟩=>⟨i,blk,hi,(hget2 i (hin hi)).symm.trans h1,(xY (g':=g') (g:=g) rfl rfl).1 h2⟩;refine(a8Q hcon hH' (a8R le hlist hargs (fun p hp=>hsp p (.inl hp))) hi (fun p hp=>hsp p (.inr hp)) (fun i hi' hb=>hfr i hi' hb)).mono ?_;rintro en w' ⟨v1,g1,rfl,hE⟩
            let g2:Gh:={g1 with S:=g.S}
            have hle:Le g w g2 w':=⟨fun _ _ h=>h,fun b o h=>hE.le.cell b o (.inl h),fun i p h=>hE.le.J i p h,fun i n u h=>hE.le.cur i n u h⟩
            have hfr2:Fr (rY g H (pE U)) w w' g.S g2.S:=
              ⟨hE.fr.os,hE.fr.tape,hE.fr.output,hE.fr.size,fun b hb hno=>hE.fr.blk b hb (fun o h=>hno o (hownI b o h)),fun b o hb hno=>hE.fr.cell b o hb (fun h=>hno (hownI b o h)),fun _ _ h=> .inl h,fun b s h=>(hE.fr.shape b s h).imp id fun h o=>hownI b o (h o)⟩
            have hgho: ∀i,i∉pE U→g2.J i=g.J i∧g2.cur i=g.cur i:=fun i hi=>hE.gho i hi
            have hperm: ∀i blk b o,i∈pE U→pD (pS U H) i=some blk→rE g2 i blk b o→w.heap.size≤b∨rY g H (pE U) b o:=fun i blk b o hi hg ho=>
              (hE.perm i blk b o hi (hup hi hg) ((xY (g':=g2) (g:=g1) rfl rfl).1 ho)).imp id (hownI b o)
            refine⟨v1,g2,rfl,hle,⟨?_,trivial⟩,hH.upd hle hfr2 hperm hgho (fun i blk hi hg=> ?_) (fun i j bi bj b o hi hj hij hgi hgj hoi hoj=> ?_) (fun b o h=>aQs (hH.sl b o h) hE.fr.size),hfr2,hperm,hgho,fun i u y us h=> ?_⟩
            ·exact hE.slot.1.imp (fun⟨a,cs,e,q⟩=>⟨a,cs,e,NK hnl q⟩) (fun⟨a,q⟩=>⟨a,NK hnl q⟩)
            · obtain⟨t2,y2,rfl,hn2⟩:=hcells hi hg
              obtain⟨p,cs,q1,q2,q3,q4,q5,_⟩:=hE.heap.blk i _ (hup hi hg);exact⟨p,cs,q1,NK hn2 q2,q3,q4,fun j hj hS=>q5 j hj (hE.le.S _ _ (.inl hS)),fun _ _ hm=>by cases hm⟩
            ·exact hE.heap.dis i j bi bj b o hij (hup hi hgi) (hup hj hgj) ((xY (g':=g2) (g:=g1) rfl rfl).1 hoi) ((xY (g':=g2) (g:=g1) rfl rfl).1 hoj)
            · by_cases hiU:i∈pE U
              · rcases hE.ty i u y us (hup hiU h) with⟨x',ts',q⟩ |q
                ·exact .inl ⟨x',ts',(hget2 i (hin hiU)).symm.trans q⟩
                ·exact .inr q
              ·exact .inl ⟨y,us,(AH hiU).symm.trans h⟩
          ·cases hr
        ·cases hr
    |_=>cases hr
theorem aHI {P:Program}{f:FuncId}{F:(t:Ty)→List t.den→Option (List t.den)}(hF:RU P f F) {g:Gh}{w:World}{H:rD}(hH:rL g w H) {args:List pB}{vals:List Value}(hargs:uL g w args vals) {e:pM}
    (hr:QD H F args=some e) (hs: ∀p∈e.side,p):Calls P f vals.toArray w (fun en w'=> ∃v g',en= .returned v∧qV g w H e g' w' v):=by
  unfold QD at hr;split at hr
  · rename_i k n x
    obtain⟨v,vs,rfl,ha,hv⟩:=hargs;rw[show vs=[] from hv];cases hk:pD H k with
    |none=>rw[hk] at hr;cases hr
    | some b=>
      rw[hk] at hr;cases b with
      | row e0 t l m=>
        simp only[VD] at hr;cases hf:F t l with
        |none=>rw[hf] at hr;cases hr
        | some l'=>
          rw[hf] at hr;cases hr;have hnm:n=m:=hs _ aP8;subst hnm;obtain⟨hl,v0,xs,hv0,hown,hFx,hnone,hseal⟩:=hH.blk k _ hk;have h1:=ha.1.1;rw[hv0] at h1;obtain rfl:=aPS h1;refine(hF g w e0 t l l' v0 n xs hH.tab.1 hown hFx hl (hs _ (by simp)) hf).mono ?_;rintro en w' ⟨rfl,hl',xs',k1,k2,k3⟩;have hownk: ∀b,v0.ownBlock=some b→∀o,rY g H [k] b o:=fun b hb o=>⟨k,_,by simp,hk,v0,hv0,hb⟩;refine⟨_,_,rfl,qV.row (v:=v0) (xs:=xs') hH hl' k1 k2 hnone (fun u hu=>by rw[hv0] at hu;exact(aPS hu).symm) (.inr ⟨v0.ownBlock,k3,hownk⟩) (fun b o hS=> ?_) hseal (fun b hb=> .inr (hownk b hb)) ⟨⟨[],rfl,rfl⟩,trivial⟩⟩;have hne:v0.ownBlock≠some b:=fun e=>hseal b e o hS;exact aQb (a:=⟨b,o,none⟩) (k3.block b (hH.sl b o hS) (fun e=>hne e.symm))
      |_=>cases hr
  ·cases hr
section
variable {P:Program}{o:Oper}{a:Act}{g:Gh}{w:World}{H:rD}{T:rU}{Γ:tO}(hT:w8 P T) (hΓ:BW P Γ) (hH:rL g w H)
include hT hΓ hH
theorem a8S {f:FuncId}{args:List pB}{vals:List Value}(hargs:uL g w args vals) {base:Nat}{e:pM}(hr:HP H base args (Γ f)=some e) (hs: ∀p∈e.side,p) (hfr:yF g base e):
    (∀args w,(callFunc f args).run P w= .ok (.enter f args) w)∧Calls P f vals.toArray w (fun en w'=> ∃v g',en= .returned v∧qV g w H e g' w' v):=by
  cases hg:Γ f with
  |none=>rw[hg] at hr;cases hr
  | some sg=>
    rw[hg] at hr;obtain⟨hcon,hrow⟩:=hΓ f sg hg;refine⟨hcon.1,?_⟩;simp only[HP] at hr;cases hF:sg.row with
    | some F=>
      rw[hF] at hr;exact aHI (hrow F hF) hH hargs hr hs
    | none=>
      rw[hF] at hr;simp only[QX] at hr;cases hn:MO sg.ps args with
      | some k=>
        rw[hn] at hr;exact aHH hcon hH hargs hr hs hfr
      | none=>
        rw[hn] at hr;exact a8Q hcon hH hargs hr hs hfr
theorem aHJ {fop:Operand}{args:Array Operand}{tys:Array TypeId}(ho:o.op= .call ⟨.value fop,args,tys⟩) {ρ:Operand→pB}(hf:qH g w (ρ fop) (a.eval fop)) (hρ: ∀x∈args.toList,qH g w (ρ x) (a.eval x)) {base:Nat}{e:pM}
    (hr:JV Γ H base (DU T ρ args.toList tys.toList) (ρ fop)=some e) (hs: ∀p∈e.side,p) (hfr:yF g base e) (hlen:args.size=tys.size):qB P o a g w H e:=by
  have hargs:=a8l (a:=a) (ρ:=ρ) hT hΓ hH (xs:=args.toList) (ts:=tys.toList) (by simpa using hlen) hρ;unfold JV at hr;split at hr
  · rename_i f caps k heq
    rw[heq] at hf
    obtain⟨vs,hcv,hfv⟩: ∃vs,wR g caps vs∧a.eval fop= .func (.func f) #[] vs.toArray:=by
      rcases hf.1 with⟨h1,_⟩ |⟨_,vs,h2,h3⟩
      ·cases h1
      · simp only[aQH,and_true] at h3
        exact⟨vs,h2,h3⟩
    obtain⟨hen,hc⟩:=a8S hT hΓ hH (aHa hT hΓ hH hargs (a8m hT hΓ hH hcv)) hr hs hfr;intro K Q hK;refine a8n ho hfv hen (hc.mono ?_);rintro en w' ⟨v,g',rfl,hE⟩;exact⟨v,rfl,hK _ w' v hE⟩
  · rename_i f k heq
    rw[heq] at hf
    have hfv:a.eval fop= .func (.func f) #[] ([]:List Value).toArray:=by
      rcases hf.1 with⟨h1,_⟩ |⟨_,h2⟩
      ·cases h1
      ·simpa[Rd,a7A] using h2
    obtain⟨hen,hc⟩:=a8S hT hΓ hH hargs hr hs hfr;intro K Q hK;refine a8n ho hfv hen ?_;rw[List.append_nil];refine hc.mono ?_;rintro en w' ⟨v,g',rfl,hE⟩;exact⟨v,rfl,hK _ w' v hE⟩
  ·cases hr
theorem a8T: ∀{xs:List Operand}{ts:List TypeId},HR xs ts=true→xs.length=ts.length
  |[],[],_=>rfl
  |_::xs,_::ts,h=>by simp only[HR] at h;simp [a8T h]
  |[],_::_,h=>by cases h
  |_::_,[],h=>by cases h
theorem XE {op:Op}(ho:o.op=op) {ρ:Operand→pB}(hρ: ∀x∈rM op,qH g w (ρ x) (a.eval x)) {base:Nat}{e:pM}(hr:t6 T Γ o.type ρ base H op=some e) (hs: ∀p∈e.side,p) (hf:yF g base e):qB P o a g w H e:=by
  unfold t6 at hr;split at hr
  · rename_i x
    exact a7Z hT hH (.inl ho) (hρ x (by simp [rM])) hr hf
  · rename_i x
    exact a7Z hT hH (.inr ho) (hρ x (by simp [rM])) hr hf
  ·exact aGV hT hH ho hr hf
  · rename_i t x
    exact aGU hT hH ho (X2 hT hΓ hH (hρ x (by simp [rM]))) hr hf
  · rename_i t ps
    exact aGD hT hH ho (ρ:=ρ) (fun q hq=>hρ q.2 (by
      simp only[rM];generalize ps.toList=l at hq
      induction l with
      |nil=>cases hq
      |cons p l ih=>rcases aP2.1 hq with rfl|h<;>simp_all [rM.parts])) hr
  · rename_i t n ps
    exact aG0 hT hH ho (ρ:=ρ) (fun q hq=>hρ q.2 (by
      simp only[rM];generalize ps.toList=l at hq
      induction l with
      |nil=>cases hq
      |cons p l ih=>rcases aP2.1 hq with rfl|h<;>simp_all [rM.parts])) hr hf
  · rename_i t x
    exact aGN hT hH ho (hρ x (by simp [rM])) hr hs
  · rename_i t x y
    exact aGZ hT hH ho (hρ x (by simp [rM])) (X2 hT hΓ hH (hρ y (by simp [rM]))) hr hs hf
  · rename_i x
    exact aGx hT hH ho (hρ x (by simp [rM])) hr
  · rename_i op t x y t'
    cases hb:Q0 op (ρ x) (ρ y) with
    | some r=>
      rw[hb] at hr;exact aGo hH ho (hρ x (by simp [rM])) (hρ y (by simp [rM])) (by rw[hb];exact hr) hs
    | none=>
      rw[hb] at hr;exact aHA hT hH ho (hρ x (by simp [rM])) (hρ y (by simp [rM])) hr
  · rename_i op t x
    exact aGp hH ho (hρ x (by simp [rM])) hr hs
  · rename_i t t' x
    cases hb:Q2 (qK T t) (qK T t') (ρ x) with
    | some r=>
      rw[hb] at hr;exact aGq hT hH ho (hρ x (by simp [rM])) (by rw[hb];exact hr)
    | none=>
      rw[hb] at hr;exact aHE hT hH ho (hρ x (by simp [rM])) hr
  · rename_i f first caps
    have hfi:first= #[]:=by
      cases hl:first.toList with
      |nil=>apply aQY.1;simpa using hl
      |cons x l=>rw[hl] at hr;cases hr
    subst hfi;exact aGH hT hH ho (ρ:=ρ) (fun x hx=>hρ x (by simpa[rM] using hx)) hr
  · rename_i t x lo hi
    refine aGO hT hH ho (ρ:=ρ) (hρ x (by simp [rM])) (fun y hy=>hρ y ?_) (fun y hy=>hρ y ?_) hr hs
    · cases lo with
      |none=>simp at hy
      |some l=>simp at hy;subst hy;simp [rM,rM.opt,pS]
    · cases hi with
      |none=>simp at hy
      |some l=>simp at hy;subst hy;cases lo<;>simp [rM,rM.opt,pS]
  · rename_i t x f
    exact aGv hT hH ho (hρ x (by simp [rM])) hr
  · rename_i t x f
    exact aGu hT hH ho (hρ x (by simp [rM])) hr
  · rename_i t x ix
    exact aGz hT hH ho (hρ x (by simp [rM])) (hρ ix (by simp [rM])) hr hs
  · rename_i t x ix
    exact aGy hT hH ho (hρ x (by simp [rM])) (hρ ix (by simp [rM])) hr hs
  · rename_i x i
    exact aGw hT hH ho (hρ x (by simp [rM])) hr hs
  · rename_i t r
    exact aG3 hT hH ho hr hf
  · rename_i t x
    exact aG8 hT hH ho (hρ x (by simp [rM])) hr hf
  · rename_i x b
    exact aG9 hT hH ho (hρ x (by simp [rM])) hr
  · rename_i t x i ok
    exact aG5 hT hH ho (hρ x (by simp [rM])) (hρ i (by simp [rM])) hr
  · rename_i t m k x
    exact a8i hT hH (.inl ho) (hρ m (by simp [rM])) (hρ k (by simp [rM])) (a8h (hρ x (by simp [rM]))) hr
  · rename_i t m k x
    exact a8i hT hH (.inr ho) (hρ m (by simp [rM])) (hρ k (by simp [rM])) (a8h (hρ x (by simp [rM]))) hr
  · rename_i c
    obtain⟨cal,args,tys⟩:=c;simp only at hr;unfold HS at hr;split at hr
    ·exact aGG hT hH ho (ρ:=ρ) (fun x hx=>hρ x (by simpa[rM] using hx)) hr
    ·exact aHF hT hH ho (ρ:=ρ) (fun x hx=>hρ x (by simpa[rM] using hx)) hr hs
    ·exact a7Q (mx:=true) hT hH ho (ρ:=ρ) (fun x hx=>hρ x (by simpa[rM] using hx)) hr
    ·exact a7Q (mx:=false) hT hH ho (ρ:=ρ) (fun x hx=>hρ x (by simpa[rM] using hx)) hr
    · rename_i f
      cases hsl:HR args.toList tys.toList with
      |false=>rw[hsl] at hr;cases hr
      | true=>
        rw[hsl] at hr;simp only[VY] at hr;exact aHJ hT hΓ hH ho (hρ f (by simp [rM])) (fun x hx=>hρ x (by simp [rM];right;simpa using hx)) hr hs hf (by simpa using a8T hT hΓ hH hsl)
    ·cases hr
  ·cases hr
end
def zQ (g:Gh) (w:World) (env:List (Nat×pB)) (tmps:Array Value):Prop:= ∀t,qH g w (lk env t) (tmps.getD t undef)
def y3 (B:Nat) (w:World) (ds:List Deferred):Prop:=ds.Nodup/\∀d∈ds,∃D,d={target:= .collected D,args:= #[]}/\B<=D/\NG<=D/\w.heap[D]? =some (.deferred (some []))
theorem a8U (B:Nat) (w:World):y3 B w []:=⟨List.nodup_nil,fun d hd=>by cases hd⟩
theorem y3.same {B:Nat}{w w':World}{ds:List Deferred}(h:y3 B w ds) (hb: ∀D:Nat,w.heap[D]? =some (Obj.deferred (some []))->w'.heap[D]? =some (Obj.deferred (some []))):y3 B w' ds:=
 ⟨h.1,fun d hd=>by obtain⟨D,h1,h2,h0,h3⟩:=h.2 d hd;exact⟨D,h1,h2,h0,hb D h3⟩⟩
def E5:Obj->Bool
 | .deferred _=>true
 | .loop _=>true
 |_=>false
theorem XF {w:World}{b:Nat}{ob:Obj}(hd:w.heap[b]? =some ob) (hm:E5 ob=true) (o:Nat):w.cell? ⟨b,o,none⟩=none:=by
 unfold World.cell?;simp only[hd];cases ob<;>first|rfl|cases hm
theorem S7 {g:Gh}{w:World}{i:Nat}{blk:p9}(h:yE g w i blk) {b o:Nat}(ho:rE g i blk b o) {ob:Obj}(hd:w.heap[b]? =some ob) (hm:E5 ob=true):False:=by
 have hrow: ∀{e:TypeId}{c n:Nat}{v:Value}{xs:List Value},w.ownsRow 0 e c v n xs->v.ownBlock=some b->False:=by
  intro e c n v xs hr hb;rcases hr.2 with⟨rfl,_⟩ |⟨g',cap,cur,rfl,_,h3,_⟩
  ·cases hb
  ·simp only[Value.ownBlock,aPN] at hb;subst hb;rw[hd] at h3;cases h3;cases hm
 cases blk with
 |cells t x toks=>
  obtain⟨p,cs,hp,_,_,ht,_⟩:=h;obtain⟨q,hq,rfl,h1,h2⟩:=ho;rw[hp] at hq;obtain rfl:=aPS hq;have:=(ht.1 (o-p.2) (by omega)).1;rw[XF hd hm] at this;cases this
 |grow e c n=>
  obtain⟨v,xs,hv,hr,_⟩:=h;obtain⟨v',hv',hb⟩:=ho;rw[hv] at hv';obtain rfl:=aPS hv';exact hrow hr hb
 |row e t l n=>
  obtain⟨_,v,xs,hv,hr,_⟩:=h;obtain⟨v',hv',hb⟩:=ho;rw[hv] at hv';obtain rfl:=aPS hv';exact hrow hr hb
 |map k v l=>
  obtain⟨p,es,cl,hp,h0,h2,_⟩:=h;obtain⟨q,hq,h1⟩:=ho;rw[hp] at hq;obtain rfl:=aPS hq;rw[show b=p.1 from h1] at hd;rw[h2] at hd;cases hd;cases hm
 |iter s n=>
  obtain⟨p,hp,h0,h2,_⟩:=h;obtain⟨q,hq,h1⟩:=ho;rw[hp] at hq;obtain rfl:=aPS hq;rw[show b=p.1 from h1] at hd;rw[h2] at hd;cases hd;cases hm
 |dead=>exact ho.elim
theorem y3.eff {B:Nat}{g g':Gh}{w w':World}{H:rD}{e:pM}{v:Value}{ds:List Deferred}(h:y3 B w ds) (hH:rL g w H) (k:qV g w H e g' w' v):y3 B w' ds:=
 h.same fun D hD=>by
  rw[k.fr.blk D (aP9.1 hD).1 (fun o ⟨i,blk,_,h1,h2⟩=>S7 (hH.blk i blk h1) h2 hD rfl)];exact hD
structure tY (B:Nat) (g:Gh) (w:World) (s:St) (a:Act):Prop where
 env:zQ g w s.env a.tmps
 heap:rL g w s.H
 size:a.tmps.size=s.N
 nb: ∀i,s.nb<=i->g.J i=none/\∀n,g.cur i n=none
 def_:y3 B w a.defers
 np:s.np<=s.nb
theorem aHK (g:Gh) (w:World) (v:Value):yD g w (V1 v) v:=by
 unfold V1;split
 ·exact vL _ _ _
 ·exact vP _ _ _ _
 ·rename_i s;have:=CR g w s.data.toList;rw[aRm] at this;exact this
 ·exact rfl
 ·exact .inr ⟨rfl,rfl⟩
 ·exact .inr ⟨rfl,rfl⟩
 ·exact .inr ⟨rfl,rfl⟩
 ·exact trivial
theorem yJ {g:Gh}{w:World}{env:List (Nat×pB)}{a:Act}(h:zQ g w env a.tmps) (x:Operand):qH g w (sO env x) (a.eval x):=by
 cases x with
 |tmp t=>exact h t
 |const v=>exact⟨aHK g w v,trivial⟩
 |func f=>exact⟨.inr ⟨rfl,[],rfl,rfl⟩,trivial⟩
 |global i=>exact⟨trivial,trivial⟩
theorem KF {g:Gh}{w:World}{G:Bool}(hG:G=true): ∀{ss:List pB}{s:pB}{v:Value},s∈ss->(∀p∈xE G ss,p)->qH g w s v->qH g w (wI s) v
 |x::ss,s,v,hm,hn,hs=>by
  have hcase: ∀{s:pB},(∀p∈xE G [s],p)->qH g w s v->qH g w (wI s) v:=by
   intro s hn hs;obtain⟨d,k⟩:=s;cases d with
   |cond p d=>
    refine⟨hs.1.1 (hn (G=true->p=true) (by simp [xE]) hG),?_⟩;simp only[wI]
   |_=>exact hs
  have hsplit: ∀p,p∈xE G [x]->p∈xE G (x::ss):=by
   intro p hp;unfold xE at hp⊢;split at hp
   ·cases hp
   ·rename_i heq;simp only[aQH] at heq;obtain⟨rfl,rfl⟩:=heq;rcases aP2.1 hp with h|h
    ·exact h▸aP8
    ·cases h
   ·rename_i h0 heq;simp only[aQH] at heq;obtain⟨_,rfl⟩:=heq;cases hp
  have hsplit2: ∀p,p∈xE G ss->p∈xE G (x::ss):=by
   intro p hp;generalize hL:xE G ss=L at hp;unfold xE;split
   ·rename_i h;cases h
   ·rename_i heq;simp only[aQH] at heq;obtain⟨_,rfl⟩:=heq;rw[hL];exact aP1 _ hp
   ·rename_i heq;simp only[aQH] at heq;obtain⟨_,rfl⟩:=heq;rw[hL];exact hp
  rcases aP2.1 hm with rfl|hm
  ·exact hcase (fun p hp=>hn p (hsplit p hp)) hs
  ·exact KF hG hm (fun p hp=>hn p (hsplit2 p hp)) hs
theorem S8 {env:List (Nat×pB)}: ∀{xs:List Operand}{x:Operand},x∈xs->sO env x∈AF env xs
 |y::xs,x,h=>by
  simp only[AF];rcases aP2.1 h with rfl|h
  ·exact aP8
  ·exact aP1 _ (S8 h)
theorem XG: ∀(ops:List Oper) (j:Nat),BO ops j=(ops[j]?).bind (·.dst)
 |[],j=>by simp [BO]
 |o::_,0=>rfl
 |_::r,j+1=>by simpa[BO] using XG r j
section
variable {P:Program}{g:Gh}{w:World}{T:rU}{Γ:tO}(hT:w8 P T) (hΓ:BW P Γ)
include hT hΓ
theorem aHL {ops:List Oper}{o:Oper}{a:Act}{env:List (Nat×pB)}(henv:zQ g w env a.tmps) {j:Nat}{b:Bool}(hg:o.guard=some (j,b)) {G:Bool}(h:DX env b (BO ops j)=some G):Region.wanted o (yielded ops.toArray a.tmps)=G:=by
 rw[XG] at h;unfold Region.wanted;rw[hg];simp only;cases hd:(ops[j]?).bind (·.dst) with
 |none=>rw[hd] at h;cases h
 |some t=>
  rw[hd] at h;simp only[DX] at h;have hy:yielded ops.toArray a.tmps j=match a.tmps[t]? with|some (.bool b)=>some b|_=>none:=by
   unfold yielded;have:(ops.toArray[j]?).bind (·.dst)=some t:=by simpa using hd
   rw[this];rfl
  have hv:=henv t;generalize hl:lk env t=s at h hv;unfold a7q at h;have hb: ∀c,a.tmps.getD t undef= .bool c->a.tmps[t]? =some (.bool c):=by
   intro c hc;rw[aQm] at hc;cases hq:a.tmps[t]? with
   |none=>rw[hq] at hc;simp [undef] at hc
   |some v=>rw[hq] at hc;simp at hc;rw[hc]
  split at h
  ·rename_i c k;simp only[aPN] at h;have:=hb _ (w9 hv.1);rw[hy,this,<-h];cases c<;>cases b<;>rfl
  ·rename_i p c k;simp only[aPN] at h;subst h;cases p with
   |true=>
    have:=hb _ (w9 (hv.1.1 rfl));rw[hy,this];cases c<;>cases b<;>rfl
   |false=>
    have hu:=hv.1.2 rfl;have: ∀c,a.tmps[t]? ≠some (.bool c):=by
     intro c hc;rw[aQm,hc] at hu;simp [undef] at hu
    rw[hy];cases hq:a.tmps[t]? with
    |none=>cases b<;>rfl
    |some v=>cases v<;>first|(exact absurd hq (this _)) |(cases b<;>rfl)
  ·cases h
theorem NL {G:Bool}{p:Prop}: ∀{l:List Prop},p∈l->(G=true->p)∈MV G l
 |q::l,h=>by
  simp only[MV];rcases aP2.1 h with rfl|h
  ·exact aP8
  ·exact aP1 _ (NL h)
theorem XH {o:Oper}{a:Act}{H:rD}(hH:rL g w H) {c x y:Operand}(hop:o.op= .pick c x y) {sc sx sy:pB}(hc:qH g w sc (a.eval c)) (hx:qH g w sx (a.eval x)) (hy:qH g w sy (a.eval y)) {e:pM}(hr:MU sc sx sy=some e) (hs: ∀p∈e.side,p):qB P o a g w H e:=by
 intro K Q hK;unfold MU at hr;split at hr
 ·rename_i z k;have hz:=w9 hc.1;have run:(execOp a.eval o).run P w= .ok (.value (if z then a.eval x else a.eval y)) w:=by
   unfold execOp;rw[hop];simp [hz,asBool]
  have vY: ∀{v:Bool}{side:List Prop},(if z then a.eval x else a.eval y)= .bool v->e=⟨side,(.val .bool v,none),[],[]⟩->o.wp P a w K Q:=by
   intro v side hv he;subst he;refine qB.value (v:= .bool v) (g':=g) (w':=w) (H:=H) (by rw[run,hv]) (.pure hH (s:=(.val .bool v,none)) ⟨(vL g w v:yD g w (.val .bool v) (.bool v)),trivial⟩) K Q hK
  unfold a7r at hr;split at hr
  ·rename_i m1 _ m2 _;simp only[aPN] at hr;refine vY (v:=cond z m1 m2) ?_ hr.symm;cases z
   ·exact w9 hy.1
   ·exact w9 hx.1
  ·rename_i p m1 _ m2 _;simp only[aPN] at hr;refine vY (v:=cond z m1 m2) ?_ hr.symm;cases z
   ·exact w9 hy.1
   ·exact w9 (hx.1.1 (hs (true=true->p=true) (by rw[<-hr];simp) rfl))
  ·rename_i m1 _ p m2 _;simp only[aPN] at hr;refine vY (v:=cond z m1 m2) ?_ hr.symm;cases z
   ·exact w9 (hy.1.1 (hs (false=false->p=true) (by rw[<-hr];simp) rfl))
   ·exact w9 hx.1
  ·rename_i q m1 _ p m2 _;simp only[aPN] at hr;refine vY (v:=cond z m1 m2) ?_ hr.symm;cases z
   ·exact w9 (hy.1.1 (hs (false=false->p=true) (by rw[<-hr];simp) rfl))
   ·exact w9 (hx.1.1 (hs (true=true->q=true) (by rw[<-hr];simp) rfl))
  ·cases hr
 ·cases hr
theorem a8V {ops:List Oper}{o:Oper}{a:Act}{s:St}{e:pM}(henv:zQ g w s.env a.tmps) (hH:rL g w s.H) (hr:AZ T Γ ops o s=some e) (hs: ∀p∈e.side,p) (hf:yF g s.nb e) {K:Act->World->Prop}{Q:Exit->Act->World->Prop}
  (hK: ∀g' w' v,qV g w s.H e g' w' v->K (a.put o.dst v) w'):
  if Region.wanted o (yielded ops.toArray a.tmps) then o.wp P a w K Q else K (a.put o.dst undef) w:=by
 unfold AZ at hr;cases hgd:o.guard with
 |none=>
  rw[hgd] at hr;simp only at hr;have hw:Region.wanted o (yielded ops.toArray a.tmps)=true:=by unfold Region.wanted;rw[hgd]
  rw[if_pos hw];cases hop:o.op with
  |pick c x y=>
   rw[hop] at hr;simp only[K0] at hr;exact XH hT hΓ hH hop (yJ henv c) (yJ henv x) (yJ henv y) hr hs K Q hK
  |_=>
   rw[hop] at hr;simp only[K0] at hr;rw[<-hop] at hr;generalize hpl:t6 T Γ o.type (fun x=>wI (sO s.env x)) s.nb s.H o.op=op at hr;cases op with
   |none=>cases hr
   |some e0=>
    simp only[JY,aPN] at hr;subst hr;refine XE hT hΓ hH rfl (ρ:=fun x=>wI (sO s.env x)) (fun x hx=> ?_) hpl (fun p hp=>hs p (vR.2 (.inr hp))) hf K Q (fun g' w' v h=>hK g' w' v ⟨h.le,h.slot,h.heap,h.fr,h.perm,h.gho,h.ty⟩);exact KF rfl (S8 hx) (fun p hp=>hs p (vR.2 (.inl hp))) (yJ henv x)
 |some jb=>
  obtain⟨j,b⟩:=jb;rw[hgd] at hr;simp only at hr;generalize hG:DX s.env b (BO ops j)=oG at hr;cases oG with
  |none=>cases hr
  |some G=>
   have hw:=aHL hT hΓ henv hgd hG;rw[hw];by_cases hpk: ∃c x y,o.op= .pick c x y
   ·obtain⟨c,x,y,hop⟩:=hpk;rw[hop] at hr;simp only[JZ] at hr;generalize hpl:MU (wI (sO s.env c)) (sO s.env x) (sO s.env y)=op at hr;cases op with
    |none=>cases hr
    |some e0=>
     unfold FS at hr;split at hr
     ·rename_i side d k rds heq;simp only[aPN] at hr heq;subst hr;subst heq;by_cases hGt:G=true
      ·rw[if_pos hGt];refine XH hT hΓ hH hop (KF hGt (ss:=[sO s.env c]) (by simp) (fun p hp=>hs p (vR.2 (.inl hp))) (yJ henv c)) (yJ henv x) (yJ henv y) hpl (fun p hp=>hs (G=true->p) (vR.2 (.inr (NL hT hΓ hp))) hGt) K Q (fun g' w' v h=>hK g' w' v ⟨h.le,⟨⟨fun _=>h.slot.1,fun hc=>by rw[hGt] at hc;cases hc⟩,trivial⟩,h.heap,h.fr,h.perm,h.gho,h.ty⟩)
      ·rw[if_neg hGt];exact hK g w undef (.pure hH ⟨⟨fun hc=>absurd hc hGt,fun _=>rfl⟩,trivial⟩)
     ·rename_i side sl u us rds heq;simp only[aPN] at hr heq;subst hr;subst heq;have hGt:G=true:=hs _ aP8;rw[if_pos hGt];exact XH hT hΓ hH hop (KF hGt (ss:=[sO s.env c]) (by simp) (fun p hp=>hs p (aP1 _ (vR.2 (.inl hp)))) (yJ henv c)) (yJ henv x) (yJ henv y) hpl (fun p hp=>hs (G=true->p) (aP1 _ (vR.2 (.inr (NL hT hΓ hp)))) hGt) K Q (fun g' w' v h=>hK g' w' v ⟨h.le,h.slot,h.heap,h.fr,h.perm,h.gho,h.ty⟩)
     ·cases hr
   ·have e1:JZ T Γ o s (some G) o.op=FS G (xE G (AF s.env (rM o.op))) (t6 T Γ o.type (fun x=>wI (sO s.env x)) s.nb s.H o.op):=by
     cases ho:o.op<;>first|rfl|(exact absurd ⟨_,_,_,ho⟩ hpk)
    rw[e1] at hr;generalize hpl:t6 T Γ o.type (fun x=>wI (sO s.env x)) s.nb s.H o.op=op at hr;cases op with
    |none=>cases hr
    |some e0=>
     unfold FS at hr;split at hr
     ·rename_i side d k rds heq;simp only[aPN] at hr heq;subst hr;subst heq;by_cases hGt:G=true
      ·rw[if_pos hGt];refine XE hT hΓ hH rfl (ρ:=fun x=>wI (sO s.env x)) (fun x hx=> ?_) hpl (fun p hp=>hs (G=true->p) (vR.2 (.inr (NL hT hΓ hp))) hGt) (fun i hi=>by cases hi) K Q (fun g' w' v h=>hK g' w' v ⟨h.le,⟨⟨fun _=>h.slot.1,fun hc=>by rw[hGt] at hc;cases hc⟩,trivial⟩,h.heap,h.fr,h.perm,h.gho,h.ty⟩);exact KF hGt (S8 hx) (fun p hp=>hs p (vR.2 (.inl hp))) (yJ henv x)
      ·rw[if_neg hGt];exact hK g w undef (.pure hH ⟨⟨fun hc=>absurd hc hGt,fun _=>rfl⟩,trivial⟩)
     ·rename_i side sl u us rds heq;simp only[aPN] at hr heq;subst hr;subst heq;have hGt:G=true:=hs _ aP8;rw[if_pos hGt];refine XE hT hΓ hH rfl (ρ:=fun x=>wI (sO s.env x)) (fun x hx=> ?_) hpl (fun p hp=>hs (G=true->p) (aP1 _ (vR.2 (.inr (NL hT hΓ hp)))) hGt) hf K Q (fun g' w' v h=>hK g' w' v ⟨h.le,h.slot,h.heap,h.fr,h.perm,h.gho,h.ty⟩);exact KF hGt (S8 hx) (fun p hp=>hs p (aP1 _ (vR.2 (.inl hp)))) (yJ henv x)
     ·cases hr
end
structure s8 (A:Nat->Nat->Prop) (L:List p9) (g0:Gh) (w0:World) (g:Gh) (w:World) (H:rD):Prop where
 shut: ∀b o,g0.S b o->g.S b o/\w.cell? ⟨b,o,none⟩=w0.cell? ⟨b,o,none⟩
 fr:Fr A w0 w g0.S g.S
 perm: ∀i blk b o,pD H i=some blk->rE g i blk b o->w0.heap.size<=b\/A b o
 J: ∀i p,i<L.length->g0.J i=some p->g.J i=some p
 live: ∀i,i<L.length->(∃p,g.J i=some p)\/(∃n v,g.cur i n=some v)
 ty: ∀i u y us,i<L.length->pD H i=some (.cells u y us)->∃x ts,L[i]? =some (.cells u x ts)
 cur: ∀i n v,i<L.length->g0.cur i n=some v->g.cur i n=some v
theorem s8.eff {A:Nat->Nat->Prop}{L:List p9}{g0 g g':Gh}{w0 w w':World}{H:rD}{e:pM}{v:Value}(h:s8 A L g0 w0 g w H) (k:qV g w H e g' w' v):s8 A L g0 w0 g' w' (pS e.upd H):=by
 have hown: ∀b o,rY g H (pE e.upd) b o->w0.heap.size<=b\/A b o:=fun b o ⟨i,blk,_,h2,h3⟩=>h.perm i blk b o h2 h3;refine⟨fun b o hs=> ?_,h.fr.trans k.fr hown,fun i blk b o hg ho=> ?_,fun i p hi hp=>k.le.J _ _ (h.J i p hi hp),fun i hi=> ?_,fun i u y us hi hg=> ?_,fun i n u hi hu=>k.le.cur _ _ _ (h.cur i n u hi hu)⟩
 ·obtain⟨h1,h2⟩:=h.shut b o hs;exact⟨k.le.S b o h1,(k.le.cell b o h1).trans h2⟩
 ·by_cases hi:i∈pE e.upd
  ·rcases k.perm i blk b o hi hg ho with h1|h1
   ·exact .inl (aQK h.fr.size h1)
   ·exact hown b o h1
  ·exact h.perm i blk b o ((AH hi).symm.trans hg) ((xY (k.gho i hi).1 (k.gho i hi).2).1 ho)
 ·rcases h.live i hi with⟨p,hp⟩ |⟨n,u,hu⟩
  ·exact .inl ⟨p,k.le.J _ _ hp⟩
  ·exact .inr ⟨n,u,k.le.cur _ _ _ hu⟩
 ·rcases k.ty i u y us hg with⟨x,ts,h1⟩ |⟨h1,h2⟩
  ·exact h.ty i u x ts hi h1
  ·rcases h.live i hi with⟨p,hp⟩ |⟨n,u,hu⟩
   ·rw[h1] at hp;cases hp
   ·rw[h2] at hu;cases hu
def y4:List (Nat×Nat)->Nat->Option Nat
 |[],_=>none
 |(n,o)::r,k=>if n=k then some o else y4 r k
def tC (g:Gh) (np:Nat) (m:List (Nat×Nat)):Gh:=
 ⟨g.S,fun i=>if i<np then g.J i else(y4 m i).bind g.J,fun i n=>if i<np then g.cur i n else(y4 m i).bind fun o=>g.cur o n⟩
theorem S9 {n o:Nat}: ∀{m:List (Nat×Nat)},K2 n o m=false->∀n' o',(n',o')∈m->n'≠n/\o'≠o
 |[],_,_,_,h=>by cases h
 |(a,b)::m,h,n',o',hm=>by
  simp only[K2,aQZ,aQq] at h;rcases aP2.1 hm with h1|h1
  ·cases h1;exact h.1
  ·exact S9 h.2 n' o' h1
theorem XI {np:Nat}: ∀{m:List (Nat×Nat)},wJ np m=true->∀{n o:Nat},(n,o)∈m->y4 m n=some o/\(n<np->o=n)
 |[],_,_,_,h=>by cases h
 |(a,b)::m,hk,n,o,h=>by
  simp only[wJ,aPT,aQf,aQT,aPQ] at hk;obtain⟨⟨h1,h2⟩,h3⟩:=hk;simp only[y4];rcases aP2.1 h with h4|h4
  ·cases h4;rw[if_pos rfl];exact⟨rfl,fun h5=>by rcases h1 with h1|h1<;>omega⟩
  ·have h5:=S9 h2 n o h4;rw[if_neg (Ne.symm h5.1)];exact XI h3 h4
theorem B3: ∀{m:List (Nat×Nat)}{k j:Nat},vO m k=some j->(j,k)∈m
 |[],_,_,h=>by cases h
 |(a,b)::m,k,j,h=>by
  simp only[vO] at h;split at h
  ·rename_i e;subst e;simp only[aPN] at h;subst h;exact aP8
  ·exact aP1 _ (B3 h)
theorem yY {g:Gh}{np:Nat}{m:List (Nat×Nat)}(hk:wJ np m=true) {n o:Nat}(h:(n,o)∈m):(tC g np m).J n=g.J o/\(tC g np m).cur n=g.cur o:=by
 obtain⟨h1,h2⟩:=XI hk h;refine⟨?_,?_⟩
 ·show (if n<np then g.J n else(y4 m n).bind g.J)=_;by_cases hn:n<np
  ·rw[if_pos hn,h2 hn]
  ·rw[if_neg hn,h1];rfl
 ·funext q;show (if n<np then g.cur n q else(y4 m n).bind fun o=>g.cur o q)=_;by_cases hn:n<np
  ·rw[if_pos hn,h2 hn]
  ·rw[if_neg hn,h1];rfl
theorem XJ {g:Gh}{np:Nat}{m:List (Nat×Nat)}(hk:wJ np m=true): ∀(l l':List (Nat×Nat)) (vs:List Value),wR g l vs->AG m l=some l'->wR (tC g np m) l' vs
 |[],l',vs,h,hr=>by simp only[AG,aPN] at hr;subst hr;exact h
 |(i,o)::l,l',vs,⟨p,vs',h1,h2,h3⟩,hr=>by
  simp only[AG] at hr;cases hi:vO m i with
  |none=>rw[hi] at hr;cases hr2:AG m l<;>rw[hr2] at hr<;>cases hr
  |some j=>
   rw[hi] at hr;cases hr2:AG m l with
   |none=>rw[hr2] at hr;cases hr
   |some l2=>
    rw[hr2] at hr;simp only[AG.renCons,aPN] at hr;subst hr;exact⟨p,vs',by rw[(yY hk (B3 hi)).1];exact h1,h2,XJ hk l l2 vs' h3 hr2⟩
theorem aHM {m:List (Nat×Nat)}{u t:Ty}{x y:t.den}{o:Nat}{l:List u.den}(h:xX m t x=some y) (hg:pW (.list u) t x o=some l):pW (.list u) t y o=some l:=
 X5 (xX m) (fun _ _ _=>rfl) (fun _ _=>rfl) h hg
theorem NM {g:Gh}{w:World}{np:Nat}{m:List (Nat×Nat)}(hk:wJ np m=true): ∀{t:Ty}{x y:t.den}{cs:List Value},Rd g w t x cs->xX m t x=some y->Rd (tC g np m) w t y cs
 | .bool,_,_,_,r,h=>by cases h;exact r
 | .int _,_,_,_,r,h=>by cases h;exact r
 | .str,_,_,_,r,h=>by cases h;exact r
 | .unit,_,_,_,r,h=>by cases h;exact r
 | .list t,x,y,_,r,h=>by
  simp only[xX] at h;split at h
  ·rename_i hp;cases h;exact uV (g:=g) (g':=tC g np m) rfl (t:= .list t) (by simpa[Ty.pure] using hp) r
  ·cases h
 | .ref,none,y,_,r,h=>by cases h;exact r
 | .ref,some (i,o),y,_,⟨p,h1,h2⟩,h=>by
  simp only[xX,RA] at h;cases hi:vO m i with
  |none=>rw[hi] at h;cases h
  |some j=>
   rw[hi] at h;cases h;exact⟨p,by rw[(yY hk (B3 hi)).1];exact h1,h2⟩
 | .clo,none,y,_,r,h=>by cases h;exact r
 | .clo,some (f,l),y,_,⟨vs,h1,h2⟩,h=>by
  simp only[xX,a7v] at h;cases hi:AG m l with
  |none=>rw[hi] at h;cases h
  |some l'=>
   rw[hi] at h;cases h;exact⟨vs,XJ hk l l' vs h1 hi,h2⟩
 | .fn,_,_,_,r,h=>by cases h;exact r
 | .rl _ _,none,y,_,r,h=>by cases h;exact r
 | .rl _ _,some (k,n),y,_,⟨v,h1,h2⟩,h=>by
  simp only[xX,a7x] at h;cases hi:vO m k with
  |none=>rw[hi] at h;cases h
  |some j=>
   rw[hi] at h;cases h;exact⟨v,by rw[(yY hk (B3 hi)).2];exact h1,h2⟩
 | .mref,none,y,_,r,h=>by cases h;exact r
 | .mref,some (i,o),y,_,⟨p,h1,h2⟩,h=>by
  simp only[xX,RA] at h;cases hi:vO m i with
  |none=>rw[hi] at h;cases h
  |some j=>
   rw[hi] at h;cases h;exact⟨p,by rw[(yY hk (B3 hi)).1];exact h1,h2⟩
 | .mp,none,y,_,r,h=>by cases h;exact r
 | .mp,some i,y,_,⟨p,h1,h2⟩,h=>by
  simp only[xX,a7w] at h;cases hi:vO m i with
  |none=>rw[hi] at h;cases h
  |some j=>
   rw[hi] at h;cases h;exact⟨p,by rw[(yY hk (B3 hi)).1];exact h1,h2⟩
 | .pair a b,x,y,_,⟨c1,c2,e,r1,r2⟩,h=>by
  simp only[xX] at h;obtain⟨h1,h2⟩:=X4 h;refine⟨c1,c2,e,?_,?_⟩
  ·split at h1
   ·rename_i hp;exact(aPS h1)▸uV (g:=g) (g':=tC g np m) rfl hp r1
   ·exact NM hk r1 h1
  ·split at h2
   ·rename_i hp;exact(aPS h2)▸uV (g:=g) (g':=tC g np m) rfl hp r2
   ·exact NM hk r2 h2
theorem SA {g:Gh}{w:World}{np:Nat}{m:List (Nat×Nat)}(hk:wJ np m=true) {s:pB}{v:Value}(h:qH g w s v):qH (tC g np m) w (yC m s) v:=by
 have caps: ∀(l l':List (Nat×Nat)) (vs:List Value),wR g l vs->AG m l=some l'->wR (tC g np m) l' vs:=XJ hk;unfold yC;split
 ·rename_i k n k';cases hi:vO m k with
  |none=>exact⟨trivial,trivial⟩
  |some j=>
   obtain⟨h1,h2⟩:=h.1;exact⟨⟨by rw[(yY hk (B3 hi)).2];exact h1,h2⟩,trivial⟩
 ·obtain h1:=h.1;refine⟨?_,trivial⟩;rcases h1 with⟨h1,_⟩ |⟨_,h2⟩
  ·cases h1
  ·exact .inr ⟨rfl,h2⟩
 ·rename_i p k;obtain⟨i,o⟩:=p;simp only[a7t];cases hi:vO m i with
  |none=>exact⟨trivial,trivial⟩
  |some j=>
   simp only[Option.map_some,yC.refSlot];obtain⟨q,hq,hv⟩:=yX h.1;exact⟨.inr ⟨rfl,q,by rw[(yY hk (B3 hi)).1];exact hq,by rw[hv]⟩,trivial⟩
 ·rename_i f l k;cases hl:AG m l with
  |none=>exact⟨trivial,trivial⟩
  |some l'=>
   simp only[yC.cloSlot];rcases h.1 with⟨h1,_⟩ |⟨_,vs,h2,h3⟩
   ·cases h1
   ·exact⟨.inr ⟨rfl,vs,caps l l' vs h2 hl,h3⟩,trivial⟩
 ·rename_i i k;cases hi:vO m i with
  |none=>exact⟨trivial,trivial⟩
  |some j=>
   simp only[yC.mpSlot];rcases h.1 with⟨h1,_⟩ |⟨_,p,h2,h3⟩
   ·cases h1
   ·exact⟨.inr ⟨rfl,p,by rw[(yY hk (B3 hi)).1];exact h2,h3⟩,trivial⟩
 ·rename_i t x k _ _ _ _;split
  ·rename_i hp;have hv:s9 (tC g np m) w t x v:=h.1.imp (fun⟨a,cs,e,q⟩=>⟨a,cs,e,uV (g:=g) (g':=tC g np m) rfl hp q⟩) (fun⟨a,q⟩=>⟨a,uV (g:=g) (g':=tC g np m) rfl hp q⟩);refine⟨hv,?_⟩;replace h:=a8k h;generalize htk:DP t k=k' at h⊢;cases k' with
   |none=>trivial
   |some k=>
    simp only[a7u];cases hj:vO m k with
    |none=>trivial
    |some j=>
     have h2:=h.2;cases t with
     |list u=>
      show (tC g np m).cur j _=_;rw[(yY hk (B3 hj)).2];exact h2
     |pair a b=>exact h2
     |_=>exact h2.elim
  ·cases hy:xX m t x with
   |none=>exact⟨trivial,trivial⟩
   |some y=>
    simp only[yC.valSlot];exact⟨h.1.imp (fun⟨a,cs,e,q⟩=>⟨a,cs,e,NM hk q hy⟩) (fun⟨a,q⟩=>⟨a,NM hk q hy⟩),trivial⟩
 ·rename_i t x k;split
  ·rename_i hp;obtain⟨b,o,cs,h1,h2,h3,h4⟩:=h.1;exact⟨⟨b,o,cs,h1,h2,h3,uV (g:=g) (g':=tC g np m) rfl hp h4⟩,trivial⟩
  ·exact⟨trivial,trivial⟩
 ·exact⟨trivial,trivial⟩
theorem a8W {q j:Nat}{x:Nat×Nat}: ∀{r:List (Nat×Nat)},x∈RB q j r->x=(q,j)\/x∈r
 |[],h=> .inl (aPY.1 h)
 |(a,b)::r,h=>by
  simp only[RB] at h;split at h
  ·exact aP2.1 h
  ·rcases aP2.1 h with h|h
   ·exact .inr (by rw[h];exact aP8)
   ·exact(a8W h).imp id (aP1 _)
theorem SB {m:List (Nat×Nat)}: ∀{ts:List (Nat×Nat)}{q j:Nat},(q,j)∈HV m ts->∃k,(q,k)∈ts/\vO m k=some j
 |[],_,_,h=>by cases h
 |(a,b)::ts,q,j,h=>by
  simp only[HV] at h;cases hb:vO m b with
  |none=>
   rw[hb] at h;obtain⟨k,h1,h2⟩:=SB h;exact⟨k,aP1 _ h1,h2⟩
  |some j'=>
   rw[hb] at h;simp only[HV.renTok1] at h;rcases a8W h with h1|h1
   ·cases h1;exact⟨b,aP8,hb⟩
   ·obtain⟨k,h1,h2⟩:=SB h1;exact⟨k,aP1 _ h1,h2⟩
theorem I2 {g:Gh}{w:World}{np:Nat}{m:List (Nat×Nat)}(hk:wJ np m=true) {n o:Nat}(hm:(n,o)∈m) {b:Option p9}(h: ∀c,b=some c->yE g w o c):
  yE (tC g np m) w n (FV m b)/\∀bb oo,rE (tC g np m) n (FV m b) bb oo->∃c,b=some c/\rE g o c bb oo:=by
 obtain⟨hJ,hcur⟩:=yY (g:=g) hk hm;unfold FV;split
 ·rename_i t x toks;split
  ·rename_i hp;obtain⟨p,cs,h1,h2,h3,h4,h5,h6⟩:=h _ rfl;refine⟨⟨p,cs,by rw[hJ];exact h1,uV (g:=g) (g':=tC g np m) rfl hp h2,h3,h4,h5,fun q j hmem=> ?_⟩,fun bb oo ⟨pp,e1,e2⟩=>⟨_,rfl,pp,by rw[hJ] at e1;exact e1,e2⟩⟩;obtain⟨k,k1,k2⟩:=SB hmem;obtain⟨u,l,v,g1,g2,g3⟩:=h6 q k k1;exact⟨u,l,v,g1,g2,by rw[(yY hk (B3 k2)).2];exact g3⟩
  ·cases hy:xX m t x with
   |none=>exact⟨trivial,fun _ _ h=>h.elim⟩
   |some y=>
    obtain⟨p,cs,h1,h2,h3,h4,h5,h6⟩:=h _ rfl;simp only[W8];refine⟨⟨p,cs,by rw[hJ];exact h1,NM hk h2 hy,h3,h4,h5,fun q j hmem=> ?_⟩,fun bb oo ⟨pp,e1,e2⟩=>⟨_,rfl,pp,by rw[hJ] at e1;exact e1,e2⟩⟩;obtain⟨k,k1,k2⟩:=SB hmem;obtain⟨u,l,v,g1,g2,g3⟩:=h6 q k k1;exact⟨u,l,v,aHM hy g1,g2,by rw[(yY hk (B3 k2)).2];exact g3⟩
 ·rename_i e c k;obtain⟨v,xs,h1,h2,h3,h4⟩:=h _ rfl;exact⟨⟨v,xs,by rw[hcur];exact h1,h2,fun q hq=>by rw[hcur];exact h3 q hq,h4⟩,fun bb oo ⟨v',e1,e2⟩=>⟨_,rfl,v',by rw[hcur] at e1;exact e1,e2⟩⟩
 ·rename_i e t l n;split
  ·rename_i hp;obtain⟨h0,v,xs,h1,h2,h5,h3,h4⟩:=h _ rfl;exact⟨⟨h0,v,xs,by rw[hcur];exact h1,h2,B2 (fun _ _ h=>uV (g:=g) (g':=tC g np m) rfl hp h) h5,fun q hq=>by rw[hcur];exact h3 q hq,h4⟩,fun bb oo ⟨v',e1,e2⟩=>⟨_,rfl,v',by rw[hcur] at e1;exact e1,e2⟩⟩
  ·exact⟨trivial,fun _ _ h=>h.elim⟩
 ·rename_i k v l;split
  ·rename_i hp;rw[aPT] at hp;obtain⟨p,es,cl,h1,h0,h2,h3,h4⟩:=h _ rfl;exact⟨⟨p,es,cl,by rw[hJ];exact h1,h0,h2,N4 (g:=g) (g':=tC g np m) rfl hp.1 hp.2 h3,h4⟩,fun bb oo ⟨pp,e1,e2⟩=>⟨_,rfl,pp,by rw[hJ] at e1;exact e1,e2⟩⟩
  ·exact⟨trivial,fun _ _ h=>h.elim⟩
 ·obtain⟨p,h1,h0,h2,h4⟩:=h _ rfl;exact⟨⟨p,by rw[hJ];exact h1,h0,h2,h4⟩,fun bb oo ⟨pp,e1,e2⟩=>⟨_,rfl,pp,by rw[hJ] at e1;exact e1,e2⟩⟩
 ·exact⟨trivial,fun _ _ h=>h.elim⟩
theorem G1 {m:List (Nat×Nat)}{H:rD}: ∀{l:List (Nat×Nat)}{n:Nat}{b:p9},pD (RC m H l) n=some b->∃o,(n,o)∈l/\b=FV m (pD H o)
 |[],_,_,h=>by cases h
 |(a,c)::l,n,b,h=>by
  simp only[RC,pD] at h;split at h
  ·rename_i e;subst e;exact⟨c,aP8,(aPS h).symm⟩
  ·obtain⟨o,h1,h2⟩:=G1 h;exact⟨o,aP1 _ h1,h2⟩
theorem a8X {m:List (Nat×Nat)}{env:List (Nat×pB)}: ∀(l:List Nat) (t:Nat),lk (MY m env l) t=(.any,none)\/lk (MY m env l) t=yC m (lk env t)
 |[],_=> .inl rfl
 |a::l,t=>by
  simp only[MY,lk];split
  ·rename_i e;subst e;exact .inr rfl
  ·exact a8X l t
theorem a8Y: ∀{m:List (Nat×Nat)}{n o:Nat},(n,o)∈m->n<RD m
 |(a,b)::m,n,o,h=>by
  simp only[RD];rcases aP2.1 h with h1|h1
  ·cases h1;omega
  ·have:=a8Y h1;omega
theorem XK: ∀{m:List (Nat×Nat)}{n o:Nat},y4 m n=some o->(n,o)∈m
 |[],_,_,h=>by cases h
 |(a,b)::m,n,o,h=>by
  simp only[y4] at h;split at h
  ·rename_i e;subst e;simp only[aPN] at h;subst h;exact aP8
  ·exact aP1 _ (XK h)
theorem XL {B:Nat}{A:Nat->Nat->Prop}{L:List p9}{g0 g:Gh}{w0 w:World}{s:St}{a:Act}(h:tY B g w s a) (hg:s8 A L g0 w0 g w s.H) (hnp:s.np=L.length) (k:v7) (hk:wJ s.np k.ids=true):
  tY B (tC g s.np k.ids) w (s.keep k) a/\s8 A L g0 w0 (tC g s.np k.ids) w (s.keep k).H/\(s.keep k).np=L.length/\(s.keep k).N=s.N:=by
 unfold St.keep;rw[hk];refine⟨⟨fun t=> ?_,⟨fun i b hb=> ?_,fun i j bi bj b o hij h1 h2 o1 o2=> ?_,h.heap.sl,h.heap.tab.1,fun i b bb oo hb ho=>by
   obtain⟨o,h1,rfl⟩:=G1 hb;obtain⟨c1,e1,o1'⟩:=(I2 hk h1 fun c hc=>h.heap.blk o c hc).2 bb oo ho;exact h.heap.tab.2 o c1 bb oo e1 o1'⟩,h.size,fun i hi=> ?_,h.def_,Nat.le_max_left _ _⟩,⟨hg.shut,hg.fr,fun i blk b o hb ho=> ?_,fun i p hi hp=> ?_,fun i hi=> ?_,fun i u y us hi hb=> ?_,fun i n u hi hu=>(by
   show (if i<s.np then g.cur i n else _)=_;rw[if_pos (by omega)];exact hg.cur i n u hi hu)⟩,hnp,rfl⟩
 ·rcases a8X (m:=k.ids) (env:=s.env) k.slots t with e|e
  ·exact⟨by rw[show lk (MZ s k true).env t=_ from e];trivial,by rw[show lk (MZ s k true).env t=_ from e];trivial⟩
  ·have:=SA hk (h.env t);rw[show lk (MZ s k true).env t=_ from e];exact this
 ·obtain⟨o,h1,rfl⟩:=G1 hb;exact(I2 hk h1 fun c hc=>h.heap.blk o c hc).1
 ·obtain⟨p,k1,rfl⟩:=G1 h1;obtain⟨q,k2,rfl⟩:=G1 h2;obtain⟨c1,e1,o1'⟩:=(I2 hk k1 fun c hc=>h.heap.blk p c hc).2 b o o1;obtain⟨c2,e2,o2'⟩:=(I2 hk k2 fun c hc=>h.heap.blk q c hc).2 b o o2;refine h.heap.dis p q c1 c2 b o (fun e=> ?_) e1 e2 o1' o2';subst e;have inj: ∀{m:List (Nat×Nat)},wJ s.np m=true->∀{i j o:Nat},(i,o)∈m->(j,o)∈m->i=j:=by
   intro m
   induction m with
   |nil=>intro _ _ _ _ h;cases h
   |cons z m ih=>
    obtain⟨z1,z2⟩:=z;intro hk i j o h1 h2;simp only[wJ,aPT,aQf] at hk;rcases aP2.1 h1 with h1|h1<;>rcases aP2.1 h2 with h2|h2
    ·cases h1;cases h2;rfl
    ·cases h1;exact absurd rfl (S9 hk.1.2 _ _ h2).2
    ·cases h2;exact absurd rfl (S9 hk.1.2 _ _ h1).2
    ·exact ih hk.2 h1 h2
  exact hij (inj hk k1 k2)
 ·have hi': ¬i<s.np:=by have:=aQK (Nat.le_max_left _ _) hi;omega
  have hold:y4 k.ids i=none:=by
   cases ho:y4 k.ids i with
   |none=>rfl
   |some o=>
    have:=a8Y (XK ho);have:=aQK (Nat.le_max_right _ _) hi;omega
  refine⟨?_,fun n=> ?_⟩
  ·show (if i<s.np then g.J i else(y4 k.ids i).bind g.J)=none;rw[if_neg hi',hold];rfl
  ·show (if i<s.np then g.cur i n else(y4 k.ids i).bind fun o=>g.cur o n)=none;rw[if_neg hi',hold];rfl
 ·obtain⟨p,h1,rfl⟩:=G1 hb;obtain⟨c,e1,e2⟩:=(I2 hk h1 fun c hc=>h.heap.blk p c hc).2 b o ho;exact hg.perm p c b o e1 e2
 ·show (if i<s.np then g.J i else _)=_;rw[if_pos (by omega)];exact hg.J i p hi hp
 ·rcases hg.live i hi with⟨p,hp⟩ |⟨n,v,hv⟩
  ·left;refine⟨p,?_⟩;show (if i<s.np then g.J i else _)=_;rw[if_pos (by omega)];exact hp
  ·right;refine⟨n,v,?_⟩;show (if i<s.np then g.cur i n else _)=_;rw[if_pos (by omega)];exact hv
 ·obtain⟨o,h1,h2⟩:=G1 hb;have ho:=(XI hk h1).2 (by omega);subst ho;unfold FV at h2;split at h2
  ·rename_i t x toks heq;split at h2
   ·simp only[p9.cells.injEq] at h2;obtain⟨rfl,_⟩:=h2;exact hg.ty o u x toks hi heq
   ·cases hy:xX k.ids t x with
    |none=>rw[hy] at h2;cases h2
    |some y=>
     rw[hy] at h2;simp only[W8,p9.cells.injEq] at h2;obtain⟨rfl,_⟩:=h2;exact hg.ty o u x toks hi heq
  ·cases h2
  ·split at h2<;>cases h2
  ·split at h2<;>cases h2
  ·cases h2
  ·cases h2
theorem E6 {B:Nat}{A:Nat->Nat->Prop}{L:List p9}{g0 g:Gh}{w0 w:World}{s:St}{a:Act}(h:tY B g w s a) (hg:s8 A L g0 w0 g w s.H) (hnp:s.np=L.length) (k:v7):
  ∃g',tY B g' w (s.keep k) a/\s8 A L g0 w0 g' w (s.keep k).H/\(s.keep k).np=L.length/\(s.keep k).N=s.N:=by
 unfold St.keep;cases hk:wJ s.np k.ids with
 |false=>
  refine⟨g,⟨fun t=>⟨trivial,trivial⟩,⟨(fun i b h=>by cases h),(fun i j bi bj b o _ h=>by cases h),h.heap.sl,h.heap.tab.1,(fun i b bb oo h=>by cases h)⟩,h.size,h.nb,h.def_,h.np⟩,⟨hg.shut,hg.fr,(fun i blk b o h=>by cases h),hg.J,hg.live,(fun i u y us _ h=>by cases h),hg.cur⟩,hnp,rfl⟩
 |true=>
  have:=XL h hg hnp k hk;unfold St.keep at this;rw[hk] at this;exact⟨_,this⟩
theorem XM {g g':Gh}{w w':World}{env:List (Nat×pB)}{a:Act}{o:Oper}{sl:pB}{v:Value}(h:zQ g w env a.tmps) (le:Le g w g' w') (hs:qH g' w' sl v) {N:Nat}(hN:a.tmps.size=N) (hd:FT N o.dst=true):zQ g' w' (sF o.dst sl env) (a.put o.dst v).tmps:=by
  intro t;cases ho:o.dst with
  |none=>exact zM le (h t)
  | some d=>
    rw[ho] at hd;simp only[FT,aPQ] at hd;simp only[sF,lk,Act.put];by_cases hdt:d=t
    · subst hdt
      rw[if_pos rfl];have hlt:d<a.tmps.size:=by rw[hN];exact hd
      have:(a.tmps.setIfInBounds d v).getD d undef=v:=by
        rw[aQm,Array.getElem?_setIfInBounds_self_of_lt hlt];rfl
      rw[this];exact hs
    · rw[if_neg hdt]
      have:(a.tmps.setIfInBounds d v).getD t undef=a.tmps.getD t undef:=by
        rw[aQm,aRc hdt,←aQm]
      rw[this];exact zM le (h t)
theorem NN {n:Nat}: ∀{u:List (Nat×p9)},FU n u=true→∀{i:Nat},i∈pE u→i<n
  | (k,b)::u,h,i,hi=>by
    simp only[FU,aPT,aPQ] at h;simp only[pE,aP2] at hi;rcases hi with rfl|hi
    ·exact h.1
    ·exact NN h.2 hi
theorem a8Z (a:Act) (d:Option Tmp) (v:Value):(a.put d v).tmps.size=a.tmps.size:=by
  cases d<;>simp [Act.put]
theorem a80 (a:Act) (d:Option Tmp) (v:Value):(a.put d v).defers=a.defers:=by
  cases d<;>simp [Act.put]
theorem tY.step {B:Nat}{g g':Gh}{w w':World}{s:St}{a:Act}{o:Oper}{e:pM}{v:Value}(h:tY B g w s a) (k:qV g w s.H e g' w' v) (hd:FT s.N o.dst=true) (hi:FU (s.nb+32) e.upd=true):
    tY B g' w' ⟨sF o.dst e.slot s.env,pS e.upd s.H,s.nb+32,s.N,s.np⟩ (a.put o.dst v):=by
  refine⟨XM h.env k.le k.slot h.size hd,k.heap,(a8Z _ _ _).trans h.size,fun i hn=> ?_,by rw[a80];exact h.def_.eff h.heap k,aQK h.np (Nat.le_add_right _ _)⟩;have:i∉pE e.upd:=fun hm=>by have:=NN hi hm;simp only at hn;omega
  have hk:=k.gho i this;have hb:=h.nb i (by simp only at hn;omega);exact⟨hk.1.trans hb.1,fun n=>by rw[hk.2];exact hb.2 n⟩
theorem a81 {T:rU}{Γ:tO}{ops:List Oper}: ∀(l:List Oper),vG T Γ ops l none=none
  |[]=>rfl
  |_::_=>rfl
theorem XN {T:rU}{Γ:tO}{ops:List Oper}{o:Oper}{l:List Oper}{x y:vF}(h:vG T Γ ops (o::l) (some x)=some y):
    ∃ e,AZ T Γ ops o x.s=some e∧FT x.s.N o.dst=true∧FU (x.s.nb+32) e.upd=true∧
      vG T Γ ops l (some ⟨⟨sF o.dst e.slot x.s.env,pS e.upd x.s.H,x.s.nb+32,x.s.N,x.s.np⟩,pS x.side (pS (HT x.s.H e.upd e.rds e.upd) e.side),e::x.es⟩)=some y:=by
  simp only[vG] at h;cases he:AZ T Γ ops o x.s with
  |none=>rw[he] at h;simp only[W7] at h;rw[a81] at h;cases h
  | some e=>
    rw[he] at h;simp only[W7] at h;by_cases hc:(FT x.s.N o.dst&&FU (x.s.nb+32) e.upd)=true
    · rw[if_pos hc] at h
      simp only[aPT] at hc;exact⟨e,rfl,hc.1,hc.2,h⟩
    ·rw[if_neg hc,a81] at h;cases h
theorem I3 {T:rU}{Γ:tO}{ops:List Oper}: ∀{l:List Oper}{x y:vF},vG T Γ ops l (some x)=some y→(∀p∈x.side,p∈y.side)∧y.s.N=x.s.N∧y.s.np=x.s.np
  | [],x,y,h=>by
    simp only[vG,aPN] at h;subst h;exact⟨fun _ h=>h,rfl,rfl⟩
  | o::l,x,y,h=>by
    obtain⟨e,_,_,_,h4⟩:=XN h;obtain⟨h5,h6,h7⟩:=I3 h4;exact⟨fun p hp=>h5 p (vR.2 (.inl hp)),h6,h7⟩
def CT (ro:Option Nat):Fence:={Fence.wide with round:=ro}
theorem a82 {ro:Option Nat}{n:Nat}{P:Program}{f:FuncId}{args:Array Value}{w:World}{R:Ending→World→Prop}(h:Calls P f args w R):CallsIn (CT ro) n P f args w R:=callsIn_wide.2 h
section
variable {B:Nat}{P:Program}{T:rU}{Γ:tO}(hT:w8 P T) (hΓ:BW P Γ) {A:Nat→Nat→Prop}{L:List p9}{g0:Gh}{w0:World}{Q:Exit→Act→World→Prop}
include hT hΓ
theorem aHN {g:Gh}{w:World}{s:St}{a:Act}(h:tY B g w s a) (e:pM):yF g s.nb e:=fun i _ hb=>h.nb i hb
omit hT hΓ in
theorem a83 {ops:List Oper}{o:Oper}{s:St}{e:pM}(h:AZ T Γ ops o s=some e): ∀c,o.op≠.defer c:=by
  intro c hc;unfold AZ at h;cases hg:o.guard with
  |none=>rw[hg,hc] at h;simp [K0,t6,JY] at h
  |some jb=>rw[hg,hc] at h;simp only at h;cases hG:DX s.env jb.2 (BO ops jb.1)<;>rw[hG] at h<;>simp [JZ,t6,FS] at h
omit hT hΓ in
theorem a84 {ro:Option Nat}{o:Oper}{a:Act}{w:World}{K:Act→World→Prop}(hd: ∀c,o.op≠.defer c) (h:o.wp P a w K Q):o.wpIn (CT ro) 0 P a w K Q:=by
  refine⟨fun _ _=>trivial,?_⟩;rw[Oper.semAt_eq _ _ _ hd];unfold Oper.wp at h;generalize (execOp a.eval o).run P w=r at h⊢;unfold Oper.upon at h;unfold Oper.uponIn;split at h
  ·exact h
  ·exact h
  ·exact h
  ·exact⟨fun h0=>(by cases h0),a82 h⟩
  ·exact⟨fun h0=>(by cases h0),fun c cs _=>let ⟨v,w',r,s⟩:=h c cs;⟨v,w',r,stepsIn_wide.2 s⟩⟩
  ·exact h
  ·exact h.elim
theorem a85 {ro:Option Nat}{ops:Array Oper}: ∀{l:List Oper}{x y:vF}{a:Act}{w:World}{g:Gh},vG T Γ ops.toList l (some x)=some y→(∀p∈y.side,p)→tY B g w x.s a→s8 A L g0 w0 g w x.s.H→
    (∀g' a' w',tY B g' w' y.s a'→s8 A L g0 w0 g' w' y.s.H→Q .normal a' w')→wpListIn (CT ro) 0 P ops Q l a w
  | [],x,y,a,w,g,h,hs,hr,hg,hQ=>by
    simp only[vG,aPN] at h;subst h;exact hQ g a w hr hg
  | o::l,x,y,a,w,g,h,hs,hr,hg,hQ=>by
    obtain⟨e,h1,h2,h3,h4⟩:=XN h;have hside: ∀p∈e.side,p:=fun p hp=>hs p ((I3 h4).1 p (vR.2 (.inr (vR.2 (.inr hp)))));have key:=a8V hT hΓ (ops:=ops.toList) (o:=o) (a:=a) (K:=wpListIn (CT ro) 0 P ops Q l) (Q:=Q) hr.env hr.heap h1 hside (aHN hT hΓ hr e) (fun g' w' v k=>a85 h4 hs (hr.step k h2 h3) (hg.eff k) hQ);simp only[aRm] at key;unfold wpListIn;split at key
    ·rename_i hw;rw[if_pos hw];exact a84 (a83 h1) key
    ·rename_i hw;rw[if_neg hw];exact⟨fun _ _=>trivial,key⟩
theorem aHO {ro:Option Nat}{id:Nat}{ops:Array Oper}{s:St}{y:vF}{a:Act}{w:World}{g:Gh}(h:vG T Γ ops.toList ops.toList (some ⟨s,[],[]⟩)=some y) (hs: ∀p∈y.side,p) (hr:tY B g w s a) (hg:s8 A L g0 w0 g w s.H)
    (hQ: ∀g' a' w',tY B g' w' y.s a'→s8 A L g0 w0 g' w' y.s.H→Q .normal a' w'):(Code.region id ops false).wpIn (CT ro) 0 P Q a w:=
  wpIn_region_list (a85 hT hΓ h hs hr hg hQ)
end
theorem XO {ρ ρ':Operand→pB}: ∀{xs:List Operand},(∀x∈xs,ρ' x=ρ x)→uJ ρ' xs=uJ ρ xs
  |[],_=>rfl
  |x::xs,h=>by simp only[uJ,h x (by simp),XO (fun y hy=>h y (aP1 _ hy))]
theorem XP {ρ ρ':Operand→pB}: ∀{xs:List (Nat×Operand)},(∀x∈xs,ρ' x.2=ρ x.2)→t8 ρ' xs=t8 ρ xs
  |[],_=>rfl
  |(i,x)::xs,h=>by simp only[t8,h (i,x) (by simp),XP (fun y hy=>h y (aP1 _ hy))]
theorem a86 {T:rU}{ρ ρ':Operand→pB}: ∀{xs:List Operand}{ts:List TypeId},(∀x∈xs,ρ' x=ρ x)→DU T ρ' xs ts=DU T ρ xs ts
  |[],_,_=>by simp [DU]
  |_::_,[],_=>by simp [DU]
  |x::xs,t::ts,h=>by simp only[DU,h x (by simp),a86 (fun y hy=>h y (aP1 _ hy))]
theorem aHP {T:rU}{Γ:tO}{ty:TypeId}{ρ ρ':Operand→pB}{base:Nat}{H:List (Nat×p9)}(op:Op) (h: ∀x∈op.operands,ρ' x=ρ x):t6 T Γ ty ρ' base H op=t6 T Γ ty ρ base H op:=by
  cases op
  case slice t x lo hi mx=>
    cases mx with
    |some m=>rfl
    | none=>
      have h1:=h x (by simp [Op.operands])
      have h2:xW ρ' lo=xW ρ lo:=by
        cases lo with
        |none=>rfl
        |some l=>simp only[xW,h l (by simp [Op.operands])]
      have h3:xW ρ' hi=xW ρ hi:=by
        cases hi with
        |none=>rfl
        |some l=>simp only[xW,h l (by simp [Op.operands])]
      simp only[t6,h1,h2,h3]
  case call c=>
    obtain⟨callee,args,tys⟩:=c
    have ha: ∀x∈args.toList,ρ' x=ρ x:=fun x hx=>h x (by
      have:x∈args:=by simpa using hx
      simp only[Op.operands,Call.operands];split<;>simp [this])
    cases callee with
    |builtin b=>cases b<;>simp only[t6,HS,XO ha]
    | value f=>
      have hf:=h f (by simp [Op.operands,Call.operands]);simp only[t6,HS,hf];cases HR args.toList tys.toList with
      |false=>rfl
      |true=>simp only[VY,a86 ha]
    |_=>rfl
  case build t ps=>simp only[t6,XP (fun x hx=>h x.2 (by simp only[Op.operands,aRO];exact List.mem_map_of_mem hx))]
  case buildSlice t n ps=>simp only[t6,XP (fun x hx=>h x.2 (by simp only[Op.operands,aRO];exact List.mem_map_of_mem hx))]
  case makeFunc f first caps=>
    cases f with
    | func f=>
      have hc: ∀x∈caps.toList,ρ' x=ρ x:=fun x hx=>h x (by
        have:x∈caps:=by simpa using hx
        simp [Op.operands,this])
      simp only[t6,XO hc]
    |_=>rfl
  all_goals first
    |rfl
    |(simp only[Op.operands,aRO,aP2,aRN,or_false,forall_eq,forall_eq_or_imp] at h;simp only[t6,h])
    |(simp [Op.operands] at h;simp only[t6,h])
theorem XQ: ∀{l acc:List q6}{i:Nat},i∈rG (xU l acc)↔i∈rG l∨i∈rG acc
  |[],_,_=>by simp [xU,rG]
  | w::l,acc,i=>by
    simp only[xU,XQ,rG,aP2];constructor
    · rintro(h|h|h)
      ·exact .inl (.inr h)
      ·exact .inl (.inl h)
      ·exact .inr h
    · rintro((h|h) |h)
      ·exact .inr (.inl h)
      ·exact .inl h
      ·exact .inr (.inr h)
section
variable {H H':List (Nat×p9)}
theorem aHQ {k:Option Nat}{a b:rX}(h:xV H k (some a)=some b):(∀i,i∈rG a.ws→i∈rG b.ws)∧((∀i,i∈rG b.ws→pD H' i=pD H i)→xV H' k (some a)=some b):=by
  cases k with
  | none=>
    have h:none=some b:=h;cases h
  | some k=>
    simp only[xV] at h⊢
    have:(∃e c m,pD H k=some (.grow e c m)):=by
      cases hg:pD H k with
      |none=>rw[hg] at h;cases h
      | some bl=>cases bl with
        |grow e c m=>exact⟨_,_,_,rfl⟩
        |_=>rw[hg] at h;cases h
    obtain⟨e,c,m,hg⟩:=this;rw[hg] at h;simp only[A9] at h;split at h
    ·cases h
    · rename_i hm
      simp only[aPN] at h;subst h;refine⟨fun i hi=>by simp only[rG,aP2];exact .inr hi,fun hl=> ?_⟩;rw[hl k (by simp [rG,q6.id]),hg];simp only[A9];rw[if_neg hm]
theorem aHR (H:List (Nat×p9)) (k:Option Nat):xV H k none=none:=by
  cases k with
  |none=>rfl
  | some k=>
    simp only[xV];cases pD H k with
    |none=>rfl
    |some bl=>cases bl<;>rfl
theorem a87 (H:List (Nat×p9)) (toks:List (Nat×Nat)) (o:Nat): ∀(qs:List Nat),x5 H toks o qs none=none
  |[]=>rfl
  |q::qs=>by simp only[x5,aHR,a87 H toks o qs]
theorem a88 {H H':List (Nat×p9)}{toks:List (Nat×Nat)}{o:Nat}: ∀{qs:List Nat}{a b:rX},x5 H toks o qs (some a)=some b→(∀i,i∈rG a.ws→i∈rG b.ws)∧((∀i,i∈rG b.ws→pD H' i=pD H i)→x5 H' toks o qs (some a)=some b)
  |[],a,b,h=>by simp only[x5,aPN] at h;subst h;exact⟨fun _ h=>h,fun _=>rfl⟩
  | q::qs,a,b,h=>by
    simp only[x5] at h⊢;cases hm:xV H (w5 toks (o+q)) (some a) with
    |none=>rw[hm,a87] at h;cases h
    | some m=>
      rw[hm] at h;obtain⟨h1,h2⟩:=aHQ (H':=H') hm;obtain⟨h3,h4⟩:=a88 (H':=H') h;exact⟨fun i hi=>h3 i (h1 i hi),fun hl=>by rw[h2 (fun i hi=>hl i (h3 i hi))];exact h4 hl⟩
theorem aHS (H H':List (Nat×p9)) (a:rX) (s:pB):wQ H' a .v s=wQ H a .v s:=by
  obtain⟨d,k⟩:=s;cases d with
  | val t x=>
    cases t with
    | clo=>
      cases x with
      |none=>rfl
      |some q=>obtain⟨f,l⟩:=q;cases l<;>rfl
    |_=>rfl
  |_=>rfl
theorem a89 {H H':List (Nat×p9)}{t:Ty}{os:List Nat}{i o:Nat}{a b:rX}(h:uU H t os i o a (pD H i)=some b):(∀i,i∈rG a.ws→i∈rG b.ws)∧((∀i,i∈rG b.ws→pD H' i=pD H i)→uU H' t os i o a (pD H' i)=some b):=by
  cases hg:pD H i with
  |none=>rw[hg] at h;simp [uU] at h
  | some bl=>
    rw[hg] at h;cases bl with
    | cells u x toks=>
      simp only[uU] at h;cases hy:pW t u x o with
      |none=>rw[hy] at h;simp [CI] at h
      | some y=>
        rw[hy] at h;simp only[CI] at h;split at h
        · rename_i hc
          obtain⟨h3,h4⟩:=a88 (H':=H') h;refine⟨fun j hj=>h3 j (by simp only[rG,aP2];exact .inr hj),fun hl=> ?_⟩;rw[hl i (h3 i (by simp [rG,q6.id])),hg];simp only[uU,hy,CI];rw[if_pos hc];exact h4 hl
        ·cases h
    |_=>simp [uU] at h
theorem aHT (H:List (Nat×p9)) (f:FuncId) (args:List pB) (ks:List (Ty×List Nat)) (cs ids:List (Nat×Nat)):wF H f args ks cs ids none=none:=by cases ks<;>cases cs<;>rfl
theorem a9a {H H':List (Nat×p9)}{f:FuncId}{args:List pB}: ∀{ks:List (Ty×List Nat)}{cs ids:List (Nat×Nat)}{a b:rX},wF H f args ks cs ids (some a)=some b→(∀i,i∈rG a.ws→i∈rG b.ws)∧((∀i,i∈rG b.ws→pD H' i=pD H i)→wF H' f args ks cs ids (some a)=some b)
  | [],[],ids,a,b,h=>by
    simp only[wF,aPN] at h⊢;subst h;exact⟨fun _ h=>h,fun _=>rfl⟩
  |[],_::_,_,_,_,h=>by simp [wF] at h
  |_::_,[],_,_,_,h=>by simp [wF] at h
  | (t,os)::ks,(i,o)::cs,ids,a,b,h=>by
    simp only[wF] at h⊢;cases hb:uU H t os i o a (pD H i) with
    |none=>rw[hb,aHT] at h;cases h
    | some m=>
      rw[hb] at h;obtain⟨h1,h2⟩:=a89 (H':=H') hb;obtain⟨h3,h4⟩:=a9a (H':=H') h;exact⟨fun i hi=>h3 i (h1 i hi),fun hl=>by rw[h2 (fun i hi=>hl i (h3 i hi))];exact h4 hl⟩
theorem a9b {p:PK}{s:pB}{a b:rX}(h:wQ H a p s=some b):(∀i,i∈rG a.ws→i∈rG b.ws)∧((∀i,i∈rG b.ws→pD H' i=pD H i)→wQ H' a p s=some b):=by
  by_cases hpv:p= .v
  · subst hpv
    refine⟨?_,fun _=>by rw[aHS H H'];exact h⟩;unfold wQ at h;split at h
    ·simp only[Q6,aPN] at h;subst h;exact fun _ h=>h
    · simp only[Q5] at h
      split at h
      ·simp only[aPN] at h;subst h;exact fun _ h=>h
      ·cases h
    ·rename_i h1;cases h1
    ·rename_i h1;cases h1
    ·rename_i h1;cases h1
    ·rename_i h1;cases h1
    ·rename_i h1;cases h1
    ·cases h
  unfold wQ at h;split at h
  ·exact absurd rfl hpv
  ·exact absurd rfl hpv
  · rename_i t x k
    simp only[wQ];cases hg:pD H k with
    |none=>rw[hg] at h;simp [AA] at h
    | some bl=>
      rw[hg] at h;cases bl with
      | grow e c m=>
        simp only[AA] at h;split at h
        · rename_i hc
          simp only[aPN] at h;subst h;refine⟨fun i hi=>by simp only[rG,aP2];exact .inr hi,fun hl=> ?_⟩;rw[hl k (by simp [rG,q6.id]),hg];simp only[AA];rw[if_pos hc]
        ·cases h
      |_=>simp [AA] at h
  · rename_i t os i o k
    simp only[wQ];exact a89 h
  · rename_i i k
    simp only[wQ];cases hg:pD H i with
    |none=>rw[hg] at h;simp [AB] at h
    | some bl=>
      rw[hg] at h;cases bl with
      | map s t l=>
        simp only[AB] at h;split at h
        · rename_i hc
          simp only[aPN] at h;subst h;refine⟨fun j hj=>by simp only[rG,aP2];exact .inr hj,fun hl=> ?_⟩;rw[hl i (by simp [rG,q6.id]),hg];simp only[AB];rw[if_pos hc]
        ·cases h
      |_=>simp [AB] at h
  · rename_i k n k'
    simp only[wQ];cases hg:pD H k with
    |none=>rw[hg] at h;simp [AC] at h
    | some bl=>
      rw[hg] at h;cases bl with
      | row e t l m=>
        simp only[AC] at h;split at h
        · rename_i hc
          simp only[aPN] at h;subst h;refine⟨fun j hj=>by simp only[rG,aP2];exact .inr hj,fun hl=> ?_⟩;rw[hl k (by simp [rG,q6.id]),hg];simp only[AC];rw[if_pos hc]
        ·cases h
      |_=>simp [AC] at h
  · simp only[wQ]
    exact a9a h
  ·cases h
theorem a9c (H:List (Nat×p9)) (gs:List (Nat×Nat×PK)):zJ H gs none=none:=by cases gs<;>rfl
theorem a9d {H H':List (Nat×p9)}: ∀{gs:List (Nat×Nat×PK)}{a b:rX},zJ H gs (some a)=some b→(∀i,i∈rG a.ws→i∈rG b.ws)∧((∀i,i∈rG b.ws→pD H' i=pD H i)→zJ H' gs (some a)=some b)
  |[],a,b,h=>by simp only[zJ,aPN] at h;subst h;exact⟨fun _ h=>h,fun _=>rfl⟩
  | (c,q,pk)::gs,a,b,h=>by
    simp only[zJ] at h⊢;cases hm:wQ H a pk (HG q pk (FN a.H (a.n-1-c))) with
    |none=>rw[hm] at h;simp only[JO,a9c] at h;cases h
    | some m=>
      rw[hm] at h;simp only[JO] at h;obtain⟨h1,h2⟩:=a9b (H':=H') hm;obtain⟨h3,h4⟩:=a9d (H':=H') h;exact⟨fun i hi=>h3 i (h1 i hi),fun hl=>by rw[h2 (fun i hi=>hl i (h3 i hi))];simp only[JO];exact h4 hl⟩
theorem aHU (H:List (Nat×p9)): ∀(ps:List PK) (ss:List pB),wG H ps ss none=none
  |[],[]=>rfl
  |[],_::_=>rfl
  |_::_,[]=>rfl
  |_::_,_::_=>rfl
theorem a9e {H H':List (Nat×p9)}: ∀{ps:List PK}{ss:List pB}{a b:rX},wG H ps ss (some a)=some b→(∀i,i∈rG a.ws→i∈rG b.ws)∧((∀i,i∈rG b.ws→pD H' i=pD H i)→wG H' ps ss (some a)=some b)
  |[],[],a,b,h=>by simp only[wG,aPN] at h;subst h;exact⟨fun _ h=>h,fun _=>rfl⟩
  |[],_::_,a,b,h=>by simp [wG] at h
  |_::_,[],a,b,h=>by simp [wG] at h
  | p::ps,s::ss,a,b,h=>by
    simp only[wG] at h⊢;cases hm:wQ H a p s with
    |none=>rw[hm,aHU] at h;cases h
    | some m=>
      rw[hm] at h;obtain⟨h1,h2⟩:=a9b (H':=H') hm;obtain⟨h3,h4⟩:=a9e (H':=H') h;exact⟨fun i hi=>h3 i (h1 i hi),fun hl=>by rw[h2 (fun i hi=>hl i (h3 i hi))];exact h4 hl⟩
theorem a9f {H H':List (Nat×p9)}{base:Nat}{args:List pB}{s:pX}{e:pM}(h:DS H base args (some s)=some e) (hl: ∀i∈e.rds,pD H' i=pD H i):DS H' base args (some s)=some e:=by
  simp only[DS] at h⊢;cases hp0:wG H s.ps args (some ⟨[],[],[],0⟩) with
  |none=>rw[hp0,a9c] at h;cases h
  |some a0=>
   rw[hp0] at h;cases hp:zJ H s.gs (some a0) with
   |none=>rw[hp] at h;cases h
   |some a=>
    rw[hp] at h
    have hrd: ∀i,i∈rG (xU a.ws [])→i∈e.rds:=by
      simp only[MN] at h;cases hcl:FO (xU a.ws []) (xU a.H []) with
      |none=>rw[hcl] at h;cases h
      |some L=>
      rw[hcl] at h;simp only[QC] at h;cases hc:s.C (xU a.args []) L with
      |none=>rw[hc] at h;cases h
      | some r=>
        rw[hc] at h;simp only[QB] at h;unfold ML at h;split at h
        · simp only[aPN] at h
          rw[←h];exact fun i hi=>vR.2 (.inl hi)
        ·cases h
    obtain⟨g1,g2⟩:=a9d (H':=H') hp;rw[(a9e (H':=H') hp0).2 (fun i hi=>hl i (hrd i (XQ.2 (.inl (g1 i hi))))),g2 (fun i hi=>hl i (hrd i (XQ.2 (.inl hi))))];exact h
theorem a9g {H H':List (Nat×p9)}{base:Nat}{args:List pB}{s:Option pX}{e:pM}(h:HP H base args s=some e) (hl: ∀i∈e.rds,pD H' i=pD H i):HP H' base args s=some e:=by
  cases s with
  |none=>cases h
  | some s=>
    simp only[HP] at h⊢;cases hr:s.row with
    | some F=>
      rw[hr] at h;simp only[QX] at h⊢;unfold QD at h⊢;split at h
      · rename_i k n x
        cases hg:pD H k with
        |none=>rw[hg] at h;cases h
        | some b=>
          have hk:k∈e.rds:=by
            rw[hg] at h;cases b with
            | row e0 t l m=>
              simp only[VD] at h;unfold a7c at h;split at h
              ·simp only[aPN] at h;rw[←h];simp
              ·cases h
            |_=>cases h
          rw[hl k hk];exact h
      ·cases h
    | none=>
      rw[hr] at h;simp only[QX] at h⊢;cases hn:MO s.ps args with
      |none=>rw[hn] at h;exact a9f h hl
      | some k=>
        rw[hn] at h;simp only[a7b] at h⊢;cases hg:pD H k with
        |none=>rw[hg] at h;cases h
        | some b=>
          rw[hg] at h;cases b with
          | row e0 t l m=>
            simp only[MQ] at h;cases hi:DS ((k,.dead)::H) base (MP k t l args) (some s) with
            |none=>rw[hi] at h;cases h
            | some e1=>
              rw[hi] at h
              have hk:k∈e.rds∧∀i∈e1.rds,i∈e.rds:=by
                unfold VC at h;split at h
                · rename_i heq
                  simp only[aPN] at heq;subst heq;split at h
                  · simp only[aPN] at h
                    rw[←h];exact⟨by simp,fun i hi=>aP1 _ hi⟩
                  ·cases h
                ·cases h
              rw[hl k hk.1,hg];simp only[MQ]
              rw[a9f hi (fun i hi'=>by
                simp only[pD];split
                ·rfl
                ·exact hl i (hk.2 i hi'))]
              exact h
          |_=>cases h
theorem aHV {Γ:tO}{base:Nat}{args:List pB}{f:pB}{e:pM}(h:JV Γ H base args f=some e) (hl: ∀i∈e.rds,pD H' i=pD H i):JV Γ H' base args f=some e:=by
  unfold JV at h⊢;split at h
  ·exact a9g h hl
  ·exact a9g h hl
  ·cases h
theorem aHW {T:rU}{Γ:tO}{ty:TypeId}{ρ:Operand→pB}{base:Nat}{op:Op}{e:pM}(h:t6 T Γ ty ρ base H op=some e) (hl: ∀i∈e.rds,pD H' i=pD H i):t6 T Γ ty ρ base H' op=some e:=by
  cases op
  case load t x=>
    simp only[t6] at h⊢;unfold QI at h⊢;split at h
    · rename_i ti k n c i o' _ e1 e2
      unfold MT at h;split at h
      · rename_i e' t' l m hg
        split at h
        · rename_i hc
          have:e.rds=[k]:=by
            unfold a7i at h;split at h
            ·simp only[aPN] at h;rw[←h]
            ·cases h
          rw[hl k (by rw[this];simp),hg];simp only[MT];rw[if_pos hc];exact h
        ·cases h
      ·cases h
    ·exact h
    · rename_i ti i off k e1 e2
      have hi:i∈e.rds:=by
        rcases a7U h with h|h
        · unfold MS at h
          split at h
          · unfold a7h at h;split at h
            ·simp only[aPN] at h;rw[←h];simp
            ·cases h
          ·cases h
        · unfold QH at h
          split at h
          · unfold VN at h;split at h
            ·simp only[aPN] at h;rw[←h];simp
            ·cases h
          ·cases h
      rw[hl i hi];exact h
    ·cases h
  case store t x y=>
    simp only[t6] at h⊢;unfold QO at h⊢;split at h
    · rename_i ti i off k kk n k' e1 e2 e3
      have hi:i∈e.rds:=by
        unfold VO at h;split at h
        · unfold QJ at h;split at h
          ·simp only[aPN] at h;rw[←h];simp
          ·cases h
        ·cases h
      rw[hl i hi];exact h
    · rename_i ti k n c i o' _ t y k' e1 e2 e3
      split at h
      · rename_i ht
        rw[if_pos ht];unfold QN at h;split at h
        · rename_i e' t' l m hg
          split at h
          · rename_i hc
            have:e.rds=[k]:=by
              unfold a7k at h;split at h
              ·simp only[aPN] at h;rw[←h]
              ·cases h
            rw[hl k (by rw[this];simp),hg];simp only[QN];rw[if_pos hc];exact h
          ·cases h
        ·cases h
      ·cases h
    · rename_i ti i off k t y k' e1 e2 e3
      split at h
      · rename_i ht
        have hi:e.rds=[i]:=by
          unfold QM at h;split at h
          · unfold QL at h
            split at h
            · unfold a7j at h;split at h
              ·simp only[aPN] at h;rw[←h]
              ·cases h
            ·cases h
          · unfold QK at h
            split at h
            · unfold QJ at h;split at h
              ·simp only[aPN] at h;rw[←h]
              ·cases h
            ·cases h
        rw[hl i (by rw[hi];simp)];simp only[if_pos ht];exact h
      ·cases h
    ·cases h
  case call c=>
    obtain⟨callee,args,tys⟩:=c;cases callee with
    | builtin b=>
      cases b
      case append=>
        simp only[t6,HS] at h⊢;unfold R0 at h⊢;split at h
        · split at h
          · rename_i hu
            rw[if_pos hu];unfold QV at h⊢;split at h
            · split at h
              · rename_i hbu
                rw[if_pos hbu];unfold QU at h;split at h
                · rename_i hg
                  split at h
                  · rename_i hbt
                    split at h
                    · rename_i hc
                      simp only[aPN] at h;subst h;rw[hl _ (aP8),hg];simp only[QU];rw[aR0 hbt,if_pos hc]
                    ·cases h
                  ·cases h
                ·cases h
              ·cases h
            · split at h
              · rename_i hba
                rw[aR0 hba];unfold QT at h;split at h
                · rename_i hg
                  split at h
                  · rename_i hc
                    simp only[aPN] at h;subst h;rw[hl _ (aP8),hg];simp only[QT];rw[if_pos hc]
                  ·cases h
                ·cases h
              ·cases h
            ·cases h
          · rename_i hu
            rw[if_neg hu];unfold VX at h⊢;split at h
            · unfold QZ at h
              split at h
              · rename_i hg
                split at h
                · rename_i hc
                  simp only[aPN] at h;subst h;rw[hl _ (aP8),hg];simp only[QZ];rw[if_pos hc]
                ·cases h
              ·cases h
            ·cases h
        ·cases h
      case len=>
        simp only[t6,HS] at h⊢;unfold QY at h⊢;split at h
        · unfold VV at h⊢
          split at h
          · unfold QS at h
            split at h
            · rename_i hg
              simp only[aPN] at h;subst h;rw[hl _ (aP8),hg];simp only[QS]
            ·cases h
          all_goals exact h
        ·cases h
      all_goals exact h
    | value f=>
      simp only[t6,HS] at h⊢;cases hsl:HR args.toList tys.toList with
      |false=>rw[hsl] at h;cases h
      |true=>rw[hsl] at h;exact aHV h hl
    |_=>exact h
  case makeFunc f first caps=>
    cases f with
    |func f=>exact h
    |_=>exact h
  case slice t x lo hi mx=>
    cases mx with
    |none=>exact h
    |some m=>exact h
  case next x b=>
    simp only[t6] at h⊢;unfold R5 at h⊢;split at h
    · rename_i i k e1
      unfold W6 at h;split at h
      · rename_i hg
        have:e.rds=[i]:=by
          simp only[aPN] at h;rw[←h]
        rw[hl i (by rw[this];simp),hg];exact h
      ·cases h
    ·cases h
  case lookup xt x ix ok=>
    simp only[t6] at h⊢;unfold R2 at h⊢;split at h
    · rename_i el fl ar ls_ i kk e1 e2
      unfold W3 at h⊢;split at h
      · rename_i kt vt k a _
        split at h
        · rename_i hk
          rw[if_pos hk];unfold R1 at h;split at h
          · rename_i hg
            split at h
            · rename_i hkv
              split at h
              · rename_i hkey
                have:e.rds=[i]:=by
                  cases ok<;>(simp only[aPN] at h;rw[←h])
                rw[hl i (by rw[this];simp),hg];simp only[R1];rw[aR0 hkv,if_pos hkey];exact h
              ·cases h
            ·cases h
          ·cases h
        ·cases h
      ·cases h
    ·cases h
  case mapUpdate mt m x y=>
    simp only[t6] at h⊢;unfold JX at h⊢;split at h
    · rename_i el fl ar ls_ i kk e1 e2
      unfold R3 at h⊢;split at h
      · rename_i kt k a _ u b _
        split at h
        · rename_i hk
          rw[if_pos hk];unfold JW at h;split at h
          · rename_i hg
            split at h
            · rename_i hkv
              split at h
              · rename_i hkey
                have:e.rds=[i]:=by
                  simp only[aPN] at h;rw[←h]
                rw[hl i (by rw[this];simp),hg];simp only[JW];rw[aR0 hkv,if_pos hkey];exact h
              ·cases h
            ·cases h
          ·cases h
        ·cases h
      ·cases h
    ·cases h
  case insert mt m x y=>
    simp only[t6] at h⊢;unfold JX at h⊢;split at h
    · rename_i el fl ar ls_ i kk e1 e2
      unfold R3 at h⊢;split at h
      · rename_i kt k a _ u b _
        split at h
        · rename_i hk
          rw[if_pos hk];unfold JW at h;split at h
          · rename_i hg
            split at h
            · rename_i hkv
              split at h
              · rename_i hkey
                have:e.rds=[i]:=by
                  simp only[aPN] at h;rw[←h]
                rw[hl i (by rw[this];simp),hg];simp only[JW];rw[aR0 hkv,if_pos hkey];exact h
              ·cases h
            ·cases h
          ·cases h
        ·cases h
      ·cases h
    ·cases h
  all_goals exact h
end
theorem aHX {T:rU}{Γ:tO}{ops:Array Oper}{o:Oper}{s s':St}{e:pM}(h:AZ T Γ ops.toList o s=some e) (ht: ∀t∈o.looksAt ops,lk s'.env t=lk s.env t) (hH: ∀i∈e.rds,pD s'.H i=pD s.H i) (hn:s'.nb=s.nb):AZ T Γ ops.toList o s'=some e:=by
 have hop: ∀x∈o.op.operands,sO s'.env x=sO s.env x:=fun x hx=>by
  cases x with
  |tmp t=>exact ht t (by simp only[Oper.looksAt,aQn,List.mem_filterMap];exact .inl ⟨.tmp t,by simpa using hx,rfl⟩)
  |_=>rfl
 have hops:AF s'.env (rM o.op)=AF s.env (rM o.op):=by
  have hsub: ∀x∈rM o.op,x∈o.op.operands:=by
   have hp: ∀(l:List (Nat×Operand)) x,x∈rM.parts l->x∈l.map (·.2):=by
    intro l
    induction l with
    |nil=>intro x h;exact h
    |cons q l ih=>
     intro x h;obtain⟨i,y⟩:=q;simp only[rM.parts,aP2] at h;rcases h with rfl|h
     ·simp
     ·simp only[aQO,aP2];exact .inr (ih x h)
   have ho: ∀(y:Option Operand) x,x∈rM.opt y->y=some x:=by
    intro y x h;cases y with
    |none=>cases h
    |some y=>simp only[rM.opt,aPY] at h;rw[h]
   intro x hx;cases hop:o.op
   case call c=>
    rw[hop] at hx;obtain⟨callee,args,tys⟩:=c;cases callee<;>simp_all [rM,Op.operands,Call.operands]
   case slice t y lo hi mx=>
    rw[hop] at hx;simp only[rM,aP2,vR] at hx;simp only[Op.operands,Array.mem_append];rcases hx with rfl|hx|hx
    ·simp
    ·have:=ho _ _ hx;subst this;simp
    ·have:=ho _ _ hx;subst this;simp
   case build t ps=>rw[hop] at hx;simp only[Op.operands,aRO];exact hp _ _ hx
   case buildSlice t n ps=>rw[hop] at hx;simp only[Op.operands,aRO];exact hp _ _ hx
   all_goals (rw[hop] at hx;simp_all [rM,Op.operands])
  have: ∀(l:List Operand),(∀x∈l,x∈o.op.operands)->AF s'.env l=AF s.env l:=by
   intro l
   induction l with
   |nil=>intro _;rfl
   |cons x l ih=>intro h;simp only[AF,hop x (h x (by simp)),ih (fun y hy=>h y (aP1 _ hy))]
  exact this _ hsub
 have hpl: ∀{e0:pM},t6 T Γ o.type (fun x=>wI (sO s.env x)) s.nb s.H o.op=some e0->e0.rds=e.rds->t6 T Γ o.type (fun x=>wI (sO s'.env x)) s'.nb s'.H o.op=some e0:=by
  intro e0 h1 h2;rw[aHP (ρ:=fun x=>wI (sO s.env x)) (ρ':=fun x=>wI (sO s'.env x)) o.op (fun x hx=>by simp only[hop x hx]),hn];exact aHW h1 (by rw[h2];exact hH)
 unfold AZ at h⊢;cases hg:o.guard with
 |none=>
  rw[hg] at h;simp only at h⊢;by_cases hpk: ∃c x y,o.op= .pick c x y
  ·obtain⟨c,x,y,hp⟩:=hpk;rw[hp] at h⊢;simp only[K0] at h⊢;rw[hop c (by rw[hp];simp [Op.operands]),hop x (by rw[hp];simp [Op.operands]),hop y (by rw[hp];simp [Op.operands])];exact h
  ·have e1: ∀s,K0 T Γ o s o.op=JY (xE true (AF s.env (rM o.op))) (t6 T Γ o.type (fun x=>wI (sO s.env x)) s.nb s.H o.op):=by
    intro s;cases ho:o.op<;>first|rfl|(exact absurd ⟨_,_,_,ho⟩ hpk)
   rw[e1] at h⊢;rw[hops];cases hp0:t6 T Γ o.type (fun x=>wI (sO s.env x)) s.nb s.H o.op with
   |none=>rw[hp0] at h;cases h
   |some e0=>
    rw[hp0] at h;simp only[JY,aPN] at h;rw[hpl hp0 (by rw[<-h])];simp only[JY,h]
 |some jb=>
  obtain⟨j,b⟩:=jb;rw[hg] at h;simp only at h⊢;have hgu:DX s'.env b (BO ops.toList j)=DX s.env b (BO ops.toList j):=by
   rw[XG];cases hd:(ops.toList[j]?).bind (·.dst) with
   |none=>rfl
   |some t=>
    simp only[DX];rw[ht t (by
     simp only[Oper.looksAt,hg,aQn];right;have:(ops[j]?).bind (·.dst)=some t:=by simpa using hd
     rw[this];simp)]
  rw[hgu];cases hG:DX s.env b (BO ops.toList j) with
  |none=>rw[hG] at h;cases h
  |some G=>
   rw[hG] at h;by_cases hpk: ∃c x y,o.op= .pick c x y
   ·obtain⟨c,x,y,hp⟩:=hpk;rw[hp] at h⊢;simp only[JZ] at h⊢;rw[hop c (by rw[hp];simp [Op.operands]),hop x (by rw[hp];simp [Op.operands]),hop y (by rw[hp];simp [Op.operands])];exact h
   have e1: ∀s,JZ T Γ o s (some G) o.op=FS G (xE G (AF s.env (rM o.op))) (t6 T Γ o.type (fun x=>wI (sO s.env x)) s.nb s.H o.op):=by
    intro s;cases ho:o.op<;>first|rfl|(exact absurd ⟨_,_,_,ho⟩ hpk)
   rw[e1] at h⊢;rw[hops];cases hp0:t6 T Γ o.type (fun x=>wI (sO s.env x)) s.nb s.H o.op with
   |none=>rw[hp0] at h;cases h
   |some e0=>
    rw[hp0] at h;have hrd:e0.rds=e.rds:=by
     unfold FS at h;split at h
     ·rename_i heq;simp only[aPN] at h heq;subst heq;rw[<-h]
     ·rename_i heq;simp only[aPN] at h heq;subst heq;rw[<-h]
     ·cases h
    rw[hpl hp0 hrd];exact h
def uM {α:Type}(p:Nat->Bool) (wr:Nat->Option α) (b:α):Nat->α
 |0=>b
 |k+1=>if p k=true then(wr k).getD (uM p wr b k) else uM p wr b k
theorem KG {α:Type}{p q:Nat->Bool}{wr:Nat->Option α}{b:α}: ∀{n:Nat},(∀j,j<n->wr j≠none->p j=q j)->uM p wr b n=uM q wr b n
 |0,_=>rfl
 |n+1,h=>by
  simp only[uM];have ih:=KG (p:=p) (q:=q) (wr:=wr) (b:=b) (n:=n) (fun j hj=>h j (by omega));cases hw:wr n with
  |none=>simp [ih]
  |some v=>rw[h n (by omega) (by rw[hw];simp),ih]
theorem a9h {α:Type}{wr:Nat->Option α}{b:α}{i:Nat}: ∀{n:Nat},i<=n->uM (fun j=>decide (j<i)) wr b n=uM (fun _=>true) wr b i
 |0,h=>by
  have:i=0:=by omega
  subst this;rfl
 |n+1,h=>by
  by_cases hi:i=n+1
  ·subst hi;exact KG (fun j hj _=>by simp [hj])
  ·have: ¬n<i:=by omega
   simp only[uM];rw[if_neg (by simp [this])];exact a9h (by omega)
theorem XR {α:Type}{p q:Nat->Bool}{wr:Nat->Option α}{b:α}{i:Nat}(hi:p i=false) (hq: ∀j,q j=if j=i then true else p j): ∀{n:Nat},i<n->(∀j,i<j->j<n->p j=true->wr j=none\/wr i=none)->uM q wr b n=(wr i).getD (uM p wr b n)
 |0,h,_=>by omega
 |n+1,h,hd=>by
  simp only[uM];by_cases hn:n=i
  ·subst hn;rw[if_pos (by rw[hq];simp),if_neg (by simp [hi])];rw[KG (p:=q) (q:=p) (fun j hj _=>by rw[hq,if_neg (by omega)])]
  ·have ih:=XR (b:=b) hi hq (n:=n) (by omega) (fun j h1 h2=>hd j h1 (by omega));rw[hq,if_neg hn,ih];by_cases hp:p n=true
   ·rw[if_pos hp,if_pos hp];rcases hd n (by omega) (by omega) hp with h1|h1
    ·rw[h1];rfl
    ·rw[h1];rfl
   ·rw[if_neg hp,if_neg hp]
theorem XS {α:Type}{p:Nat->Bool}{wr:Nat->Option α}{b:α}: ∀(k:Nat),uM p wr b (k+1)=uM (fun j=>p (j+1)) (fun j=>wr (j+1)) (if p 0=true then(wr 0).getD b else b) k
 |0=>rfl
 |k+1=>by
  rw[uM,XS k];rfl
theorem XT {rds:List Nat}{i:Nat}: ∀{u:List (Nat×p9)},i∈pE (K1 rds u)↔i∈pE u/\BP i rds=false
 |[]=>by simp [K1,pE]
 |(j,b)::u=>by
  simp only[K1];cases h:BP j rds with
  |true=>
   rw[if_pos rfl,XT (u:=u)];simp only[pE,aP2];constructor
   ·rintro⟨h1,h2⟩;exact⟨.inr h1,h2⟩
   ·rintro⟨rfl|h1,h2⟩
    ·rw[h] at h2;cases h2
    ·exact⟨h1,h2⟩
  |false=>
   rw[if_neg (by simp)];simp only[pE,aP2,XT (u:=u)];constructor
   ·rintro(rfl|⟨h1,h2⟩)
    ·exact⟨.inl rfl,h⟩
    ·exact⟨.inr h1,h2⟩
   ·rintro⟨rfl|h1,h2⟩
    ·exact .inl rfl
    ·exact .inr ⟨h1,h2⟩
theorem SC {e:pM}{i:Nat}:i∈pE (B0 e)↔i∈pE e.upd/\BP i e.rds=false:=XT
theorem a9i {i:Nat}: ∀{l:List Nat},BP i l=true->i∈l
 |[],h=>by cases h
 |j::l,h=>by
  simp only[BP] at h;split at h
  ·rename_i e;subst e;exact aP8
  ·exact aP1 _ (a9i h)
theorem a9j {H U:List (Nat×p9)}{rds:List Nat}{i:Nat}(h:BP i rds=true): ∀{u:List (Nat×p9)},i∈pE u->(pD U i=pD H i)∈HT H U rds u
 |[],hi=>by cases hi
 |(j,b)::u,hi=>by
  simp only[HT];simp only[pE,aP2] at hi;rcases hi with rfl|hi
  ·rw[if_pos h];exact aP8
  ·have:=a9j (H:=H) (U:=U) h hi;split
   ·exact aP1 _ this
   ·exact this
theorem aHY {H:List (Nat×p9)}{e:pM}(hs: ∀p∈HT H e.upd e.rds e.upd,p) {i:Nat}(h1:i∈pE e.upd) (h2:i∉pE (B0 e)):pD e.upd i=pD H i/\i∈e.rds:=by
 have h:BP i e.rds=true:=by
  cases h3:BP i e.rds with
  |true=>rfl
  |false=>exact absurd (SC.2 ⟨h1,h3⟩) h2
 exact⟨hs _ (a9j h h1),a9i h⟩
def zR (os:List Oper) (es:List pM) (t j:Nat):Option pB:=
 match os[j]?,es[j]? with
 |some o,some e=>if o.dst=some t then some e.slot else none
 |_,_=>none
def zS (es:List pM) (id j:Nat):Option (Option p9):=
 match es[j]? with
 |some e=>if id∈pE (B0 e) then some (pD e.upd id) else none
 |none=>none
theorem XU {id:Nat}{H:rD}: ∀{u:List (Nat×p9)},pD (pS u H) id=if id∈pE u then pD u id else pD H id
 |[]=>by simp [pS,pE]
 |(k,b)::u=>by
  simp only[pS,pD,pE,aP2];by_cases h:k=id
  ·subst h;simp
  ·rw[if_neg h,if_neg h,XU (u:=u)];have:(id=k\/id∈pE u)↔id∈pE u:=⟨fun h'=>h'.resolve_left (Ne.symm h),.inr⟩;simp only[this]
theorem a9k {d:Option Tmp}{s:pB}{env:List (Nat×pB)}{t:Nat}:lk (sF d s env) t=if d=some t then s else lk env t:=by
 cases d with
 |none=>simp [sF]
 |some d=>simp only[sF,lk,aPN]
structure aHZ (T:rU) (Γ:tO) (ops:List Oper) (os:List Oper) (es:List pM) (s:St) (y:vF) (k:Nat) (o:Oper) (e:pM) (sk:St):Prop where
 ev:AZ T Γ ops o sk=some e
 nb:sk.nb=s.nb+32*k
 dst:FT s.N o.dst=true
 ids:FU (s.nb+32*k+32) e.upd=true
 side: ∀p∈e.side,p∈y.side
 env: ∀t,lk sk.env t=uM (fun _=>true) (zR os es t) (lk s.env t) k
 heap: ∀id,pD sk.H id=uM (fun _=>true) (zS es id) (pD s.H id) k
 same: ∀id,id∈pE e.upd->id∉pE (B0 e)->pD e.upd id=pD sk.H id/\id∈e.rds
structure a9l (T:rU) (Γ:tO) (ops:List Oper) (os:List Oper) (es:List pM) (s:St) (y:vF):Prop where
 len:es.length=os.length
 nb:y.s.nb=s.nb+32*os.length
 step: ∀k o e,os[k]? =some o->es[k]? =some e->∃sk,aHZ T Γ ops os es s y k o e sk
 env: ∀t,lk y.s.env t=uM (fun _=>true) (zR os es t) (lk s.env t) os.length
 heap: ∀id,pD y.s.H id=uM (fun _=>true) (zS es id) (pD s.H id) os.length
theorem a9m {T:rU}{Γ:tO}{ops:List Oper}: ∀{l:List Oper}{x y:vF},vG T Γ ops l (some x)=some y->(∀p∈y.side,p)->∃es:List pM,y.es=es.reverse++x.es/\a9l T Γ ops l es x.s y
 |[],x,y,h,_=>by
  simp only[vG,aPN] at h;subst h;exact⟨[],rfl,rfl,rfl,fun k o e h=>by simp at h,fun _=>rfl,fun _=>rfl⟩
 |o::l,x,y,h,hsy=>by
  obtain⟨e,h1,h2,h3,h4⟩:=XN h;obtain⟨es,h5,h6⟩:=a9m h4 hsy;have hsame: ∀{i:Nat},i∈pE e.upd->i∉pE (B0 e)->pD e.upd i=pD x.s.H i/\i∈e.rds:=fun h1 h2=>aHY (fun p hp=>hsy p ((I3 h4).1 p (vR.2 (.inr (vR.2 (.inl hp)))))) h1 h2;have envs: ∀t k,uM (fun _=>true) (zR (o::l) (e::es) t) (lk x.s.env t) (k+1)=uM (fun _=>true) (zR l es t) (lk (sF o.dst e.slot x.s.env) t) k:=fun t k=>by
   rw[XS,if_pos rfl,a9k];have:(zR (o::l) (e::es) t 0).getD (lk x.s.env t)=if o.dst=some t then e.slot else lk x.s.env t:=by
    simp only[zR,aQi];split<;>rfl
   rw[this];rfl
  have heaps: ∀id k,uM (fun _=>true) (zS (e::es) id) (pD x.s.H id) (k+1)=uM (fun _=>true) (zS es id) (pD (pS e.upd x.s.H) id) k:=fun id k=>by
   rw[XS,if_pos rfl,XU];have:(zS (e::es) id 0).getD (pD x.s.H id)=if id∈pE e.upd then pD e.upd id else pD x.s.H id:=by
    simp only[zS,aQi];by_cases h7:id∈pE (B0 e)
    ·rw[if_pos h7,if_pos (SC.1 h7).1];rfl
    ·rw[if_neg h7];by_cases h8:id∈pE e.upd
     ·rw[if_pos h8,(hsame h8 h7).1];rfl
     ·rw[if_neg h8];rfl
   rw[this];rfl
  refine⟨e::es,by rw[h5];simp,by simp [h6.len],?_,?_,fun t=> ?_,fun id=> ?_⟩
  ·have:=h6.nb;simp only at this;rw[this];simp only[aPR];omega
  ·intro k o' e' ho he;cases k with
   |zero=>
    simp only[aQi,aPN] at ho he;subst ho;subst he;exact⟨x.s,h1,rfl,h2,h3,fun p hp=>(I3 h4).1 p (vR.2 (.inr (vR.2 (.inr hp)))),fun _=>rfl,fun _=>rfl,fun id=>hsame⟩
   |succ k=>
    simp only[aQw] at ho he;obtain⟨sk,q⟩:=h6.step k o' e' ho he;refine⟨sk,q.ev,by rw[q.nb];simp only;omega,q.dst,?_,q.side,fun t=>by rw[q.env t,envs],fun id=>by rw[q.heap id,heaps],q.same⟩;have:=q.ids;simp only at this;rw[show x.s.nb+32*(k+1)+32=x.s.nb+32+32*k+32 by omega];exact this
  ·rw[aPR,envs];exact h6.env t
  ·rw[aPR,heaps];exact h6.heap id
theorem a9n {ops:Array Oper}{bs:List Nat}{nb i:Nat}{o:Oper}{e:pM}: ∀{ps:List Oper}{fs:List pM}{j:Nat},R6 ops bs nb i o e ps fs j=true->∀k p f,ps[k]? =some p->fs[k]? =some f->
  (bs.getD (j+k) 0).testBit i=true\/(o.apart ops p=true/\DY e f=true/\HU (nb+32*i) f.upd=true)
 |p::ps,f::fs,j,h,k,p',f',hp,hf=>by
  simp only[R6,aPT,aQT] at h;cases k with
  |zero=>
   simp only[aQi,aPN] at hp hf;subst hp;subst hf;exact h.1.imp id (fun h=>⟨h.1.1,h.1.2,h.2⟩)
  |succ k=>
   simp only[aQw] at hp hf;have:=a9n h.2 k p' f' hp hf;rw[show j+(k+1)=j+1+k by omega];exact this
 |[],_,_,_,_,_,_,hp,_=>by simp at hp
 |_::_,[],_,_,_,_,_,_,hf=>by simp at hf
theorem XV {ops:Array Oper}{bs:List Nat}{nb:Nat}: ∀{os:List Oper}{es:List pM}{m:Nat},R7 ops bs nb os es m=true->∀i j o e p f,i<j->os[i]? =some o->es[i]? =some e->os[j]? =some p->es[j]? =some f->
  (bs.getD (m+j) 0).testBit (m+i)=true\/(o.apart ops p=true/\DY e f=true/\HU (nb+32*(m+i)) f.upd=true)
 |o'::os,e'::es,m,h,i,j,o,e,p,f,hij,ho,he,hp,hf=>by
  simp only[R7,aPT] at h;obtain⟨j,rfl⟩: ∃k,j=k+1:=⟨j-1,by omega⟩;simp only[aQw] at hp hf;cases i with
  |zero=>
   simp only[aQi,aPN] at ho he;subst ho;subst he;have:=a9n h.1 j p f hp hf;rw[show m+(j+1)=m+1+j by omega];exact this
  |succ i=>
   simp only[aQw] at ho he;have:=XV h.2 i j o e p f (by omega) ho he hp hf;rw[show m+(j+1)=m+1+j by omega,show m+(i+1)=m+1+i by omega];exact this
 |[],_,_,_,_,_,_,_,_,_,_,ho,_,_,_=>by simp at ho
 |_::_,[],_,_,_,_,_,_,_,_,_,_,he,_,_=>by simp at he
theorem a9o: ∀{os:List Oper}{m:Nat},R9 os m=true->∀i o,os[i]? =some o->∀e∈o.after,Region.binds .any e=true->e.on<m+i
 |o'::os,m,h,i,o,ho,e,he,hb=>by
  simp only[R9,aPT] at h;cases i with
  |zero=>
   simp only[aQi,aPN] at ho;subst ho;have:=aQt.1 h.1 e (by simpa using he);simpa[hb] using this
  |succ i=>
   simp only[aQw] at ho;have:=a9o h.2 i o ho e he hb;omega
 |[],_,_,_,_,ho,_,_,_=>by simp at ho
theorem SD {l:List Nat}: ∀{u:List (Nat×p9)},MW u l=false->∀i,i∈pE u->i∉l
 |(k,b)::u,h,i,hi=>by
  simp only[MW,aQZ] at h;simp only[pE,aP2] at hi;rcases hi with rfl|hi
  ·simpa using h.1
  ·exact SD h.2 i hi
theorem XW {a b:pM}(h:DY a b=true):(∀i∈pE (B0 a),i∉b.rds/\i∉pE b.upd)/\(∀i∈pE (B0 b),i∉a.rds):=by
 simp only[DY,aPT,aQf] at h;exact⟨fun i hi=>⟨fun h1=>SD h.1 i hi (vR.2 (.inl h1)),fun h1=>SD h.1 i hi (vR.2 (.inr h1))⟩,fun i hi=>SD h.2 i hi⟩
theorem a9p {lo:Nat}: ∀{u:List (Nat×p9)},HU lo u=true->∀i∈pE u,i<lo\/lo+32<=i
 |(k,b)::u,h,i,hi=>by
  simp only[HU,aPT,aQT,aPQ] at h;simp only[pE,aP2] at hi;rcases hi with rfl|hi
  ·exact h.1
  ·exact a9p h.2 i hi
def XX (os:List Oper) (p:Nat->Bool):Prop:= ∀j o,os[j]? =some o->p j=true->∀e∈o.after,Region.binds .any e=true->p e.on=true
theorem a9q {p:Nat->Bool}{acc:Array Nat}(hacc: ∀i j,(acc.getD i 0).testBit j=true->p i=true->p j=true) {i:Nat}: ∀{es:List Edge}{s:Nat},(s.testBit i=true->p i=true)->(∀e∈es,Region.binds .any e=true->p e.on=true)->
  (es.foldl (fun s e=>if Region.binds .any e then s|||2^e.on|||acc.getD e.on 0 else s) s).testBit i=true->p i=true
 |[],s,hs,_,h=>hs h
 |e::es,s,hs,he,h=>by
  simp only[List.foldl_cons] at h;refine a9q hacc (es:=es) (fun h1=> ?_) (fun e' h'=>he e' (aP1 _ h')) h;split at h1
  ·rename_i hb;simp only[Nat.testBit_or,aQT,Nat.testBit_two_pow,aPQ] at h1;rcases h1 with(h1|h1) |h1
   ·exact hs h1
   ·rw[<-h1];exact he e (by simp) hb
   ·exact hacc _ _ h1 (he e (by simp) hb)
  ·exact hs h1
theorem a9r {p:Nat->Bool}: ∀{os:List Oper}{acc:Array Nat},(∀i j,(acc.getD i 0).testBit j=true->p i=true->p j=true)->(∀j o,os[j]? =some o->p (acc.size+j)=true->∀e∈o.after,Region.binds .any e=true->p e.on=true)->
  ∀i j,((os.foldl (fun acc o=>acc.push (o.after.foldl (fun s e=>if Region.binds .any e then s|||2^e.on|||acc.getD e.on 0 else s) 0)) acc).getD i 0).testBit j=true->p i=true->p j=true
 |[],acc,hacc,_,i,j,h,hp=>hacc i j h hp
 |o::os,acc,hacc,hos,i,j,h,hp=>by
  simp only[List.foldl_cons] at h;refine a9r (os:=os) (fun i j h hp=> ?_) (fun k o' ho hk=> ?_) i j h hp
  ·rw[aQm,Array.getElem?_push] at h;split at h
   ·rename_i hi;simp only[aRk] at h;rw[<-aRV] at h;refine a9q hacc (es:=o.after.toList) (s:=0) (fun h=>by simp at h) (fun e he hb=>hos 0 o rfl (by rw[hi] at hp;exact hp) e (by simpa using he) hb) h
   ·rw[<-aQm] at h;exact hacc i j h hp
  ·refine hos (k+1) o' ho ?_;rw[Array.size_push] at hk;rw[show acc.size+(k+1)=acc.size+1+k by omega];exact hk
theorem a9s {ops:Array Oper}{p:Nat->Bool}(hp:XX ops.toList p) {i j:Nat}(h:((Region.before ops).toList.getD i 0).testBit j=true) (hi:p i=true):p j=true:=by
 refine a9r (os:=ops.toList) (acc:= #[]) (p:=p) (fun i j h=>by simp at h) (fun j o ho hj=>hp j o ho (by simpa using hj)) i j ?_ hi;unfold Region.before at h;rw[<-aRV] at h;rw[aQm,<-aQV,<-aQe];exact h
def B4 (l:Array Bool):Nat->Nat
 |0=>0
 |k+1=>B4 l k+if l.getD k false=true then 0 else 1
theorem a9t {l l':Array Bool}: ∀{n:Nat},(∀j,j<n->l'.getD j false=l.getD j false)->B4 l' n=B4 l n
 |0,_=>rfl
 |n+1,h=>by simp only[B4];rw[a9t (fun j hj=>h j (by omega)),h n (by omega)]
theorem a9u {l:Array Bool}: ∀{n:Nat},B4 l n=0->∀j,j<n->l.getD j false=true
 |n+1,h,j,hj=>by
  simp only[B4] at h;by_cases hn:l.getD n false=true
  ·by_cases hjn:j=n
   ·subst hjn;exact hn
   ·exact a9u (n:=n) (by omega) j (by omega)
  ·rw[if_neg hn] at h;omega
theorem E7 {l:Array Bool}{i j:Nat}(hi:i<l.size):(l.setIfInBounds i true).getD j false=if j=i then true else l.getD j false:=by
 by_cases h:j=i
 ·subst h;rw[if_pos rfl,aQm,Array.getElem?_setIfInBounds_self_of_lt hi];rfl
 ·rw[if_neg h,aQm,aRc (Ne.symm h),<-aQm]
theorem a9v {l:Array Bool}{i:Nat}(hi:i<l.size) (hf:l.getD i false=false): ∀{n:Nat},i<n->B4 (l.setIfInBounds i true) n+1=B4 l n
 |n+1,h=>by
  simp only[B4];by_cases hn:n=i
  ·subst hn;rw[E7 hi,if_pos rfl,if_pos rfl,hf,a9t (l:=l) (fun j hj=>by rw[E7 hi,if_neg (by omega)])];simp
  ·rw[E7 hi,if_neg hn];have:=a9v hi hf (n:=n) (by omega);omega
theorem a9w {p:Nat->Bool}: ∀{n:Nat},(∃j,j<n/\p j=false)->∃j,j<n/\p j=false/\∀k,k<j->p k=true
 |0,⟨j,h,_⟩=>by omega
 |n+1,⟨j,h,hj⟩=>by
  by_cases hs: ∃j,j<n/\p j=false
  ·obtain⟨k,h1,h2,h3⟩:=a9w hs;exact⟨k,by omega,h2,h3⟩
  ·refine⟨j,h,hj,fun k hk=> ?_⟩;cases hp:p k with
   |true=>rfl
   |false=>exact absurd ⟨k,by omega,hp⟩ hs
theorem rL.ext {g:Gh}{w:World}{H H':rD}(h:rL g w H) (e: ∀i,pD H' i=pD H i):rL g w H':=
 ⟨fun i b hb=>h.blk i b (by rw[<-e];exact hb),fun i j bi bj b o hij h1 h2=>h.dis i j bi bj b o hij (by rw[<-e];exact h1) (by rw[<-e];exact h2),h.sl,h.tab.1,fun i b bb oo hb ho=>h.tab.2 i b bb oo (by rw[<-e];exact hb) ho⟩
theorem s8.ext {A:Nat->Nat->Prop}{L:List p9}{g0 g:Gh}{w0 w:World}{H H':rD}(h:s8 A L g0 w0 g w H) (e: ∀i,pD H' i=pD H i):s8 A L g0 w0 g w H':=
 ⟨h.shut,h.fr,fun i blk b o hb=>h.perm i blk b o (by rw[<-e];exact hb),h.J,h.live,fun i u y us hi hb=>h.ty i u y us hi (by rw[<-e];exact hb),h.cur⟩
theorem a9x (g:Gh) (w:World) (d:Nat):Le g w g {w with drawn:=d}:=⟨fun _ _ h=>h,fun _ _ _=>rfl,fun _ _ h=>h,fun _ _ _ h=>h⟩
theorem rL.drawn {g:Gh}{w:World}{H:rD}(h:rL g w H) (d:Nat):rL g {w with drawn:=d} H:=
 ⟨fun i b hb=>K5 (h.blk i b hb) (a9x g w d) rfl rfl (fun _ _ _=>⟨rfl,rfl⟩) (fun _ _=>rfl) (fun _ _ _ h=>h) (fun _ _ _ _ h=>h),h.dis,h.sl,MH h.tab.1 (Nat.le_refl _) (fun _ _=>rfl),h.tab.2⟩
theorem s8.drawn {A:Nat->Nat->Prop}{L:List p9}{g0 g:Gh}{w0 w:World}{H:rD}(h:s8 A L g0 w0 g w H) (d:Nat):s8 A L g0 w0 g {w with drawn:=d} H:=
 ⟨h.shut,⟨h.fr.os,h.fr.tape,h.fr.output,h.fr.size,h.fr.blk,h.fr.cell,h.fr.new,h.fr.shape⟩,h.perm,h.J,h.live,h.ty,h.cur⟩
section
variable {B:Nat}{P:Program}{T:rU}{Γ:tO}(hT:w8 P T) (hΓ:BW P Γ) {A:Nat->Nat->Prop}{L:List p9}{g0:Gh}{w0:World}{Q:Exit->Act->World->Prop}
structure Mid (B:Nat) (A:Nat->Nat->Prop) (L:List p9) (g0:Gh) (w0:World) (ops:Array Oper) (es:List pM) (s:St) (listed:Array Bool) (g:Gh) (w:World) (a:Act) (env:List (Nat×pB)) (H:rD):Prop where
 size:listed.size=ops.size
 closed:XX ops.toList (fun j=>listed.getD j false)
 eok:zQ g w env a.tmps
 look: ∀t,lk env t=uM (fun j=>listed.getD j false) (zR ops.toList es t) (lk s.env t) ops.size
 heap:rL g w H
 get: ∀id,pD H id=uM (fun j=>listed.getD j false) (zS es id) (pD s.H id) ops.size
 tmps:a.tmps.size=s.N
 def_:y3 B w a.defers
 good:s8 A L g0 w0 g w H
 free: ∀j,j<ops.size->listed.getD j false=false->∀id,s.nb+32*j<=id->id<s.nb+32*j+32->g.J id=none/\∀n,g.cur id n=none
 top: ∀id,s.nb+32*ops.size<=id->g.J id=none/\∀n,g.cur id n=none
include hT hΓ
theorem aH0 {ro:Option Nat}{ops:Array Oper}{es:List pM}{s:St}{y:vF}(run:a9l T Γ ops.toList ops.toList es s y) (hs: ∀p∈y.side,p) (hchk:CO ops s.nb es=true)
  (hQ: ∀g a w env H,zQ g w env a.tmps->(∀t,lk env t=lk y.s.env t)->rL g w H->(∀id,pD H id=pD y.s.H id)->a.tmps.size=s.N->y3 B w a.defers->s8 A L g0 w0 g w H->(∀id,s.nb+32*ops.size<=id->g.J id=none/\∀n,g.cur id n=none)->Q .normal a w):
  ∀(fuel:Nat) (listed:Array Bool) (g:Gh) (w:World) (a:Act) (env:List (Nat×pB)) (H:rD),B4 listed ops.size<=fuel->Mid B A L g0 w0 ops es s listed g w a env H->wpAnyIn (CT ro) 0 P .any ops Q fuel listed a w:=by
 simp only[CO,aPT] at hchk;obtain⟨haf,hfr⟩:=hchk;have hsz:ops.toList.length=ops.size:=aQl;have done: ∀(listed:Array Bool) (g:Gh) (w:World) (a:Act) (env:List (Nat×pB)) (H:rD),Mid B A L g0 w0 ops es s listed g w a env H->(∀j,j<ops.size->listed.getD j false=true)->Q .normal a w:=by
  intro listed g w a env H m hall;refine hQ g a w env H m.eok (fun t=> ?_) m.heap (fun id=> ?_) m.tmps m.def_ m.good m.top
  ·rw[m.look t,run.env t,hsz];exact KG (fun j hj _=>hall j hj)
  ·rw[m.get id,run.heap id,hsz];exact KG (fun j hj _=>hall j hj)
 have stuck: ∀(listed:Array Bool),listed.size=ops.size->Region.ready .any ops listed=[]->∀j,j<ops.size->listed.getD j false=true:=by
  intro listed hls hr j hj;cases hp:listed.getD j false with
  |true=>rfl
  |false=>
   obtain⟨k,h1,h2,h3⟩:=a9w (p:=fun j=>listed.getD j false) ⟨j,hj,hp⟩;have:k∈Region.ready .any ops listed:=by
    rw[mem_ready];refine⟨?_,ops[k],by simp [h1],fun e he hb=> ?_⟩
    ·have h2:listed.getD k false=false:=h2;rw[aQm] at h2⊢;rw[aRM (by omega)] at h2⊢;exact h2
    ·have:=a9o haf k ops[k] (by simp [h1]) e he hb;exact h3 e.on (by omega)
   rw[hr] at this;cases this
 intro fuel
 induction fuel with
 |zero=>
  intro listed g w a env H hu m;have hall:=a9u (l:=listed) (n:=ops.size) (by omega);refine⟨?_,done listed g w a env H m hall⟩;cases hr:Region.ready .any ops listed with
  |nil=>rfl
  |cons i r=>
   have:i∈Region.ready .any ops listed:=by rw[hr];simp
   obtain⟨h0,o,ho,_⟩:=mem_ready.1 this;have hi:i<ops.size:=(aP9.1 ho).1;have:=hall i hi;rw[aQm] at this h0;rw[aRM (by rw[m.size];exact hi)] at this h0;simp at this h0;rw[this] at h0;cases h0
 |succ fuel ih=>
  intro listed g w a env H hu m;refine⟨fun hr=>done listed g w a env H m (stuck listed m.size hr),fun i hi=> ?_⟩;obtain⟨h0,o,ho,hall⟩:=mem_ready.1 hi;have hin:i<ops.size:=(aP9.1 ho).1;have hil:i<listed.size:=by rw[m.size];exact hin
  have hpi:listed.getD i false=false:=by
   rw[aQm] at h0⊢;rw[aRM hil] at h0⊢;exact h0
  have hoL:ops.toList[i]? =some o:=by simpa using ho
  obtain⟨e,he⟩: ∃e,es[i]? =some e:=⟨es[i]'(by rw[run.len,hsz];exact hin),by simp⟩;obtain⟨sk,st⟩:=run.step i o e hoL he;have hcl':XX ops.toList (fun j=>(listed.setIfInBounds i true).getD j false):=by
   intro j o' ho' hj ed hed hb;simp only[E7 hil] at hj⊢;by_cases hji:j=i
   ·subst hji;rw[hoL] at ho';obtain rfl:=aPS ho';have:=hall ed hed hb;split
    ·rfl
    ·exact this
   ·rw[if_neg hji] at hj;have:=m.closed j o' ho' hj ed hed hb;split
    ·rfl
    ·exact this
  have hbef: ∀j,((Region.before ops).toList.getD i 0).testBit j=true->j≠i->listed.getD j false=true:=by
   intro j hj hne;have:=a9s hcl' hj (by simp only[E7 hil];simp);simp only[E7 hil,if_neg hne] at this;exact this
  have haft: ∀j,((Region.before ops).toList.getD j 0).testBit i=true->listed.getD j false=true->False:=by
   intro j hj hl;have:=a9s m.closed hj hl;rw[hpi] at this;cases this
  have pairLt: ∀j p f,j<i->ops.toList[j]? =some p->es[j]? =some f->listed.getD j false=true\/(p.apart ops o=true/\DY f e=true/\HU (s.nb+32*j) e.upd=true):=by
   intro j p f hji hp hf;rcases XV hfr j i p f o e hji hp hf hoL he with h1|h1
   ·rw[aQo,aQo] at h1;exact .inl (hbef j h1 (by omega))
   ·rw[aQo] at h1;exact .inr h1
  have pairGt: ∀j p f,i<j->ops.toList[j]? =some p->es[j]? =some f->listed.getD j false=true->o.apart ops p=true/\DY e f=true:=by
   intro j p f hij hp hf hl;rcases XV hfr i j o e p f hij hoL he hp hf with h1|h1
   ·rw[aQo,aQo] at h1;exact(haft j h1 hl).elim
   ·exact⟨h1.1,h1.2.1⟩
  have same: ∀{α:Type}(wr:Nat->Option α) (b:α),(∀j p f,j<i->ops.toList[j]? =some p->es[j]? =some f->wr j≠none->p.apart ops o=true->DY f e=true->False)->
    (∀j p f,i<j->ops.toList[j]? =some p->es[j]? =some f->wr j≠none->o.apart ops p=true->DY e f=true->False)->(∀j,wr j≠none->∃f,es[j]? =some f)->
    uM (fun j=>listed.getD j false) wr b ops.size=uM (fun _=>true) wr b i:=by
   intro α wr b hlt hgt hex;rw[<-a9h (n:=ops.size) (by omega)];refine KG (fun j hj hw=> ?_);obtain⟨f,hf⟩:=hex j hw;have hpj:ops.toList[j]? =some ops[j]:=by simp [hj]
   rcases Nat.lt_trichotomy j i with h1|h1|h1
   ·rw[aQD h1];rcases pairLt j _ f h1 hpj hf with h2|h2
    ·exact h2
    ·exact(hlt j _ f h1 hpj hf hw h2.1 h2.2.1).elim
   ·subst h1;simp [hpi]
   ·have: ¬j<i:=by omega
    rw[decide_eq_false this];cases hl:listed.getD j false with
    |false=>rfl
    |true=>
     obtain⟨h2,h3⟩:=pairGt j _ f h1 hpj hf hl;exact(hgt j _ f h1 hpj hf hw h2 h3).elim
  have exS: ∀t j,zR ops.toList es t j≠none->∃f,es[j]? =some f:=by
   intro t j h;unfold zR at h;cases hf:es[j]? with
   |none=>rw[hf] at h;exact absurd (by split<;>first|rfl|(rename_i h1;cases h1)) h
   |some f=>exact⟨f,rfl⟩
  have exH: ∀t j,zS es t j≠none->∃f,es[j]? =some f:=by
   intro t j h;unfold zS at h;cases hf:es[j]? with
   |none=>rw[hf] at h;exact absurd rfl h
   |some f=>exact⟨f,rfl⟩
  have dS: ∀t j p f,ops.toList[j]? =some p->es[j]? =some f->zR ops.toList es t j≠none->p.dst=some t:=by
   intro t j p f hp hf h;unfold zR at h;rw[hp,hf] at h;simp only at h;split at h
   ·assumption
   ·exact absurd rfl h
  have dH: ∀id j f,es[j]? =some f->zS es id j≠none->id∈pE (B0 f):=by
   intro id j f hf h;unfold zS at h;rw[hf] at h;simp only at h;split at h
   ·assumption
   ·exact absurd rfl h
  have hrds: ∀id∈e.rds,pD H id=pD sk.H id:=fun id hid=>by
   rw[m.get id,st.heap id];refine same _ _ (fun j p f _ hp hf hw _ ha=> ?_) (fun j p f _ hp hf hw _ ha=> ?_) (exH id)
   ·exact((XW ha).1 id (dH id j f hf hw)).1 hid
   ·exact(XW ha).2 id (dH id j f hf hw) hid
  have hev:AZ T Γ ops.toList o ⟨env,H,s.nb+32*i,s.N,s.np⟩=some e:=by
   refine aHX st.ev (fun t ht=> ?_) (fun id hid=> ?_) st.nb.symm
   ·show lk env t=_;rw[m.look t,st.env t];refine same _ _ (fun j p f _ hp hf hw ha _=> ?_) (fun j p f _ hp hf hw ha _=> ?_) (exS t)
    ·exact(Oper.apart_spec ha).1 t (dS t j p f hp hf hw) ht
    ·exact(Oper.apart_spec ha).2.2 t (dS t j p f hp hf hw) ht
   ·exact hrds id hid
  have hfresh:yF g (s.nb+32*i) e:=fun id hid hle=>m.free i hin hpi id hle (NN st.ids hid);have key:=a8V hT hΓ (ops:=ops.toList) (o:=o) (a:=a) (s:=⟨env,H,s.nb+32*i,s.N,s.np⟩) (K:=wpAnyIn (CT ro) 0 P .any ops Q fuel (listed.setIfInBounds i true)) (Q:=Q) m.eok m.heap hev (fun p hp=>hs p (st.side p hp)) hfresh (fun g' w' v k=>by
   refine ih (listed.setIfInBounds i true) g' w' (a.put o.dst v) (sF o.dst e.slot env) (pS e.upd H) ?_ ⟨by rw[Array.size_setIfInBounds];exact m.size,hcl',XM m.eok k.le k.slot m.tmps st.dst,fun t=> ?_,k.heap,fun id=> ?_,(a8Z _ _ _).trans m.tmps,by rw[a80];exact m.def_.eff m.heap k,m.good.eff k,fun j hj hjp id h1 h2=> ?_,fun id hid=> ?_⟩
   ·have:=a9v hil hpi hin;omega
   ·rw[a9k,XR (p:=fun j=>listed.getD j false) (i:=i) hpi (fun j=>by simp only[E7 hil]) hin (fun j hij hj hl=> ?_),<-m.look t]
    ·unfold zR;rw[hoL,he];simp only;split<;>rfl
    ·have hpj:ops.toList[j]? =some ops[j]:=by simp [hj]
     obtain⟨f,hf⟩: ∃f,es[j]? =some f:=⟨es[j]'(by rw[run.len,hsz];exact hj),by simp⟩;obtain⟨h3,_⟩:=pairGt j _ f hij hpj hf hl;by_cases hw:zR ops.toList es t j=none
     ·exact .inl hw
     ·right;have hd:=dS t j _ f hpj hf hw;by_cases hwi:zR ops.toList es t i=none
      ·exact hwi
      ·have hdi:=dS t i _ e hoL he hwi;exact absurd hd ((Oper.apart_spec h3).2.1 t hdi)
   ·rw[XU,XR (p:=fun j=>listed.getD j false) (i:=i) hpi (fun j=>by simp only[E7 hil]) hin (fun j hij hj hl=> ?_),<-m.get id]
    ·unfold zS;rw[he];simp only;by_cases h7:id∈pE (B0 e)
     ·rw[if_pos h7,if_pos (SC.1 h7).1];rfl
     ·rw[if_neg h7];by_cases h8:id∈pE e.upd
      ·obtain⟨q1,q2⟩:=st.same id h8 h7;rw[if_pos h8,q1,<-hrds id q2];rfl
      ·rw[if_neg h8];rfl
    ·have hpj:ops.toList[j]? =some ops[j]:=by simp [hj]
     obtain⟨f,hf⟩: ∃f,es[j]? =some f:=⟨es[j]'(by rw[run.len,hsz];exact hj),by simp⟩;obtain⟨_,h3⟩:=pairGt j _ f hij hpj hf hl;by_cases hw:zS es id j=none
     ·exact .inl hw
     ·right;have hd:=dH id j f hf hw;by_cases hwi:zS es id i=none
      ·exact hwi
      ·have hdi:=dH id i e he hwi;exact absurd (SC.1 hd).1 ((XW h3).1 id hdi).2
   ·rw[E7 hil] at hjp;have hji:j≠i:=fun h=>by rw[if_pos h] at hjp;cases hjp
    rw[if_neg hji] at hjp;have hnot:id∉pE e.upd:=by
     intro hm;have hlt:=NN st.ids hm;rcases Nat.lt_or_gt_of_ne hji with h3|h3
     ·obtain⟨f,hf⟩: ∃f,es[j]? =some f:=⟨es[j]'(by rw[run.len,hsz];exact hj),by simp⟩;rcases pairLt j ops[j] f h3 (by simp [hj]) hf with h4|h4
      ·rw[hjp] at h4;cases h4
      ·have:=a9p h4.2.2 id hm;omega
     ·omega
    have hg:=k.gho id hnot;have hb:=m.free j hj hjp id h1 h2;exact⟨hg.1.trans hb.1,fun n=>by rw[hg.2];exact hb.2 n⟩
   ·have hnot:id∉pE e.upd:=fun hm=>by have:=NN st.ids hm;omega
    have hg:=k.gho id hnot;have hb:=m.top id hid;exact⟨hg.1.trans hb.1,fun n=>by rw[hg.2];exact hb.2 n⟩)
  unfold wpOpIn;rw[ho];simp only[aRm] at key⊢;split at key
  ·rename_i hw;rw[if_pos hw];exact a84 (a83 hev) key
  ·rename_i hw;rw[if_neg hw];exact⟨fun _ _=>trivial,key⟩
theorem aH1 {ro:Option Nat}(hm:P.follows .mixedOrders=true) {id:Nat}{ops:Array Oper}{s:St}{y:vF}{a:Act}{w:World}{g:Gh}(h:vG T Γ ops.toList ops.toList (some ⟨s,[],[]⟩)=some y) (hchk:CO ops s.nb y.es.reverse=true) (hs: ∀p∈y.side,p) (hr:tY B g w s a) (hg:s8 A L g0 w0 g w s.H)
  (hQ: ∀g' a' w',tY B g' w' y.s a'->s8 A L g0 w0 g' w' y.s.H->Q .normal a' w'):(Code.region id ops true).wpIn (CT ro) 0 P Q a w:=by
 obtain⟨es,h1,run⟩:=a9m h hs;have hes:y.es.reverse=es:=by rw[h1];simp
 simp only at run;rw[hes] at hchk;have hsd:=I3 h;have hrep: ∀j,(Array.replicate ops.size false).getD j false=false:=by
  intro j;rw[aQm,Array.getElem?_replicate];split<;>rfl
 have none: ∀{α:Type}(wr:Nat->Option α) (b:α) n,uM (fun j=>(Array.replicate ops.size false).getD j false) wr b n=b:=by
  intro α wr b n
  induction n with
  |zero=>rfl
  |succ n ih=>simp only[uM];rw[if_neg (by rw[hrep];simp)];exact ih
 have hsz:ops.toList.length=ops.size:=aQl;refine wpIn_region_any hm (aH0 hT hΓ run hs hchk (fun g' a' w' env H he hl hh hgt hz hd hgd htop=> ?_) _ _ g _ a s.env s.H ?_ ⟨by simp,fun j o ho hj=> ?_,fun t=>zM (a9x g w _) (hr.env t),fun t=> ?_,hr.heap.drawn _,fun id=> ?_,hr.size,hr.def_.same (fun _ h=>h),hg.drawn _,fun j _ _ id h1 _=>hr.nb id (by omega),fun id h1=>hr.nb id (by omega)⟩)
 ·refine hQ g' a' w' ⟨fun t=>by rw[<-hl t];exact he t,hh.ext (fun i=>(hgt i).symm),by rw[hsd.2.1];exact hz,fun i hi=>htop i ?_,hd,?_⟩ (hgd.ext (fun i=>(hgt i).symm))
  ·rw[run.nb,hsz] at hi;exact hi
  ·rw[hsd.2.2,run.nb];exact aQK hr.np (Nat.le_add_right _ _)
 ·have: ∀n (l:Array Bool),B4 l n<=n:=by
   intro n l
   induction n with
   |zero=>exact Nat.le_refl _
   |succ n ih=>simp only[B4];split<;>omega
  exact this _ _
 ·simp only[hrep] at hj;cases hj
 ·rw[none]
 ·exact(none _ _ _).symm
end
theorem XY: ∀{l:List Prop},qC l->∀p∈l,p
 |[p],h,q,hq=>by simp only[aPY] at hq;subst hq;exact h
 |p::q::r,h,x,hx=>by
  rcases aP2.1 hx with rfl|hx
  ·exact h.1
  ·exact XY h.2 x hx
theorem a9z {p:Nat->Prop}(h: ∃n,p n): ∃n,p n/\∀m,p m->n<=m:=by
 obtain⟨n,hn⟩:=h
 induction n using Nat.strongRecOn with
 |_ n ih=>
  by_cases hs: ∃m,m<n/\p m
  ·obtain⟨m,hm,hp⟩:=hs;exact ih m hm hp
  ·exact⟨n,hn,fun m hm=>Nat.le_of_not_lt fun hlt=>hs ⟨m,hlt,hm⟩⟩
noncomputable def NO (p:Nat->Prop):Nat:=open Classical in if h: ∃n,p n then(a9z h).choose else 0
theorem SE {p:Nat->Prop}(h: ∃n,p n):p (NO p)/\∀m,p m->NO p<=m:=by
 unfold NO;rw[aR0 h];exact(a9z h).choose_spec
def CU:Exit->Option Ex
 | .normal=>some .normal
 | .exit id=>some (.exit id)
 | .ret=>some .ret
 |_=>none
def a9A (B:Nat) (A:Nat->Nat->Prop) (L:List p9) (g0:Gh) (w0:World) (Q:Ex->St->Prop) (x:Exit) (a:Act) (w:World):Prop:=
 ∃e g s,CU x=some e/\Q e s/\tY B g w s a/\s8 A L g0 w0 g w s.H/\s.np=L.length
section
variable {B:Nat}{P:Program}{T:rU}{Γ:tO}(hT:w8 P T) (hΓ:BW P Γ) (hm:P.follows .mixedOrders=true) {A:Nat->Nat->Prop}{L:List p9}{g0:Gh}{w0:World}
include hT hΓ hm
theorem E8 {ro:Option Nat}: ∀(c:Code) (s:St) (Q:Ex->St->Prop) (g:Gh) (a:Act) (w:World),vH T Γ c s Q->tY B g w s a->s8 A L g0 w0 g w s.H->s.np=L.length->c.wpIn (CT ro) 0 P (a9A B A L g0 w0 Q) a w
 | .skip,s,Q,g,a,w,h,hr,hg,hn=>by
  unfold vH at h;exact wpIn_skip ⟨.normal,g,s,rfl,h,hr,hg,hn⟩
 | .label l,s,Q,g,a,w,h,hr,hg,hn=>by
  unfold vH at h;exact wpIn_label ⟨.normal,g,s,rfl,h,hr,hg,hn⟩
 | .exit id,s,Q,g,a,w,h,hr,hg,hn=>by
  unfold vH at h;exact wpIn_exit ⟨.exit id,g,s,rfl,h,hr,hg,hn⟩
 | .ret,s,Q,g,a,w,h,hr,hg,hn=>by
  unfold vH at h;exact wpIn_ret ⟨.ret,g,s,rfl,h,hr,hg,hn⟩
 | .region id ops draw,s,Q,g,a,w,h,hr,hg,hn=>by
  unfold vH at h;cases draw with
  |false=>
   simp only[MX] at h;cases hy:vG T Γ ops.toList ops.toList (some ⟨s,[],[]⟩) with
   |none=>rw[hy] at h;cases h
   |some y=>
    rw[hy] at h;refine aHO hT hΓ hy (XY h.1) hr hg (fun g' a' w' hr' hg'=>⟨.normal,g',y.s,rfl,h.2,hr',hg',(I3 hy).2.2.trans hn⟩)
  |true=>
   simp only[MX] at h;cases hy:vG T Γ ops.toList ops.toList (some ⟨s,[],[]⟩) with
   |none=>rw[hy] at h;cases h
   |some y=>
    rw[hy] at h;simp only[a7s] at h;by_cases hc:CO ops s.nb y.es.reverse=true
    ·rw[if_pos hc] at h;refine aH1 hT hΓ hm hy hc (XY h.1) hr hg (fun g' a' w' hr' hg'=>⟨.normal,g',y.s,rfl,h.2,hr',hg',(I3 hy).2.2.trans hn⟩)
    ·rw[if_neg hc] at h;cases h
 | .seq x y,s,Q,g,a,w,h,hr,hg,hn=>by
  unfold vH at h;refine wpIn_seq (aRF (E8 x s _ g a w h hr hg hn) fun e a' w' hp=> ?_);obtain⟨e',g',s',h1,h2,h3,h4,h5⟩:=hp;cases e<;>simp only[CU,aPN] at h1
  case normal=>subst h1;exact E8 y s' Q g' a' w' h2 h3 h4 h5
  case exit id=>subst h1;exact⟨.exit id,g',s',rfl,h2,h3,h4,h5⟩
  case ret=>subst h1;exact⟨.ret,g',s',rfl,h2,h3,h4,h5⟩
  all_goals cases h1
 | .cond c x y,s,Q,g,a,w,h,hr,hg,hn=>by
  unfold vH at h;have hc:=yJ hr.env c;generalize sO s.env c=sc at h hc;unfold a7z at h;split at h
  ·exact wpIn_cond_split (w9 hc.1) (fun ht=>E8 x s Q g a w (h.1 ht) hr hg hn) (fun ht=>E8 y s Q g a w (h.2 ht) hr hg hn)
  ·obtain⟨b,hb,hp,hq⟩:=hc.1;exact wpIn_cond_split hb (fun ht=>E8 x s Q g a w (h.1 (hp ht)) hr hg hn) (fun ht=>E8 y s Q g a w (h.2 (hq ht)) hr hg hn)
  ·cases h
 | .block id c,s,Q,g,a,w,h,hr,hg,hn=>by
  unfold vH at h;refine wpIn_block (aRF (E8 c s _ g a w h hr hg hn) fun e a' w' hp=> ?_);obtain⟨e',g',s',h1,h2,h3,h4,h5⟩:=hp;cases e<;>simp only[CU,aPN] at h1
  case normal=>subst h1;exact⟨.normal,g',s',rfl,h2,h3,h4,h5⟩
  case exit j=>
   subst h1;simp only[HW] at h2;simp only[Exit.inBlock];split
   ·rename_i hj;rw[if_pos hj] at h2;exact⟨.normal,g',s',rfl,h2,h3,h4,h5⟩
   ·rename_i hj;rw[if_neg hj] at h2;exact⟨.exit j,g',s',rfl,h2,h3,h4,h5⟩
  case ret=>subst h1;exact⟨.ret,g',s',rfl,h2,h3,h4,h5⟩
  all_goals cases h1
 | .loop c,s,Q,g,a,w,h,hr,hg,hn=>by
  unfold vH at h;obtain⟨k,I,μ,h0,hround⟩:=h;obtain⟨g1,k1,k2,k3,_⟩:=E6 hr hg hn k
  let R:Act->World->Nat->Prop:=fun a w n=> ∃g s,I s/\μ s=n/\tY B g w s a/\s8 A L g0 w0 g w s.H/\s.np=L.length
  refine wpIn_loop (fun a w=> ∃n,R a w n) (fun a w=>NO (R a w)) ⟨_,g1,s.keep k,h0,rfl,k1,k2,k3⟩ (fun a w hI=> ?_);obtain⟨⟨g2,s2,i1,i2,i3,i4,i5⟩,_⟩:=SE hI;refine aRF (E8 c s2 _ g2 a w (hround s2 i1) i3 i4 i5) fun e a' w' hp=> ?_;obtain⟨e',g',s',h1,h2,h3,h4,h5⟩:=hp;cases e<;>simp only[CU,aPN] at h1
  case normal=>
   subst h1;obtain⟨k',j1,j2⟩:=h2;obtain⟨g3,l1,l2,l3,_⟩:=E6 h3 h4 h5 k';have hR:R a' w' (μ (s'.keep k')):=⟨g3,s'.keep k',j1,rfl,l1,l2,l3⟩;refine⟨⟨_,hR⟩,Nat.lt_of_le_of_lt ((SE ⟨_,hR⟩).2 _ hR) (by rw[<-i2];exact j2)⟩
  case exit id=>subst h1;exact⟨.exit id,g',s',rfl,h2,h3,h4,h5⟩
  case ret=>subst h1;exact⟨.ret,g',s',rfl,h2,h3,h4,h5⟩
  all_goals cases h1
 | .rangeFunc _ _ _ _,_,_,_,_,_,h,_,_,_=>by unfold vH at h;cases h
 | .scope _,_,_,_,_,_,h,_,_,_=>by unfold vH at h;cases h
 | .goto _,_,_,_,_,_,h,_,_,_=>by unfold vH at h;cases h
 | .refuse _,_,_,_,_,_,h,_,_,_=>by unfold vH at h;cases h
end
section
variable {f:St->Prop}{Q:Ex->St->Prop}{s:St}{id j:Nat}{I:St->Prop}{μ:St->Nat}{m:Nat}
theorem pI (h:f s):N0 f Q .normal s:=h
theorem tD (h:Q (.exit j) s):N0 f Q (.exit j) s:=h
theorem pT (h:Q .ret s):N0 f Q .ret s:=h
theorem qW (h:Q .normal s):HW id Q .normal s:=h
theorem tE (h:Q .normal s):HW id Q (.exit id) s:=by show (if id=id then Q .normal s else Q (.exit id) s);rw[if_pos rfl];exact h
theorem q9 (h:Q .ret s):HW id Q .ret s:=h
end
@[go_sem] def qJ:Nat->List pB->List (Nat×pB)
 |_,[]=>[]
 |c,s::r=>(c,s)::qJ (c+1) r
@[go_sem] def uN:Nat->List p9->List (Nat×Nat)
 |_,[]=>[]
 |c,_::L=>(c,c)::uN (c+1) L
@[go_sem] def NP (m:List (Nat×Nat)):List pB->Prop
 |[]=>True
 |s::r=>yC m s=s/\NP m r
@[go_sem] def NQ (m:List (Nat×Nat)):List p9->Prop
 |[]=>True
 | .dead::_=>False
 |b::r=>FV m (some b)=b/\NQ m r
def qM:List p9->Prop
 |[]=>True
 | .row _ _ l n::r=>n=List.length l/\qM r
 |_::r=>qM r
theorem a9B {g:Gh}{w:World}: ∀{L:List p9},(∀(i:Nat) b,L[i]? =some b->∃j,yE g w j b)->qM L
 |[],_=>trivial
 |b::L,h=>by
  have h1:=a9B (L:=L) fun i b' hb=>h (i+1) b' (by simpa using hb);obtain⟨j,h0⟩:=h 0 b rfl;cases b with
  |row e t l n=>exact⟨h0.1.symm,h1⟩
  |_=>exact h1
def XZ:List Value->Value
 |[v]=>v
 |l=> .tuple l.toArray
@[go_sem] def a9C (env:List (Nat×pB)):List Nat->List pB
 |[]=>[]
 |t::r=>lk env t::a9C env r
attribute [go_sem] pN
@[go_sem] def a9D:pB->Int
 |(.val (.int _) n,_)=>n
 |_=>0
@[go_sem] def Fin (ts:List Nat) (r:pH):Ex->St->Prop
 | .exit _,_=>False
 |_,s=> ∃k:v7,(s.keep k).H=pN 0 r.H/\a9C (s.keep k).env ts=r.ret
theorem a9E: ∀(l:List pB) (c t:Nat),lk (qJ c l) t=if c<=t then(l[t-c]?).getD (.any,none) else(.any,none)
 |[],c,t=>by simp [qJ,lk]
 |s::l,c,t=>by
  simp only[qJ,lk];by_cases h:c=t
  ·subst h;simp
  ·rw[if_neg h,a9E l (c+1) t];by_cases h2:c<=t
   ·rw[if_pos h2,if_pos (by omega)];obtain⟨d,hd⟩: ∃d,t-c=d+1:=⟨t-c-1,by omega⟩;rw[hd,aQw,show t- (c+1)=d by omega]
   ·rw[if_neg h2,if_neg (by omega)]
theorem KH: ∀{L:List p9}{c i j:Nat},(i,j)∈uN c L↔i=j/\c<=i/\i<c+L.length
 |[],c,i,j=>by simp only[uN,aRN,aPZ,false_iff];omega
 |b::L,c,i,j=>by
  simp only[uN,aP2,aQh,KH,aPR];omega
theorem SF: ∀{L:List p9}{c:Nat},wJ 0 (uN c L)=true
 |[],_=>rfl
 |b::L,c=>by
  simp only[uN,wJ,aPT];refine⟨⟨by simp,?_⟩,SF⟩;have: ∀{m:List (Nat×Nat)},(∀i j,(i,j)∈m->i≠c/\j≠c)->K2 c c m=false:=by
   intro m
   induction m with
   |nil=>intro _;rfl
   |cons q m ih=>
    intro h;obtain⟨i,j⟩:=q;have:=h i j (by simp);simp only[K2,ih (fun i j hm=>h i j (aP1 _ hm)),decide_eq_false this.1,decide_eq_false this.2];rfl
  rw[this]
  ·rfl
  ·intro i j hm;obtain⟨rfl,h1,_⟩:=KH.1 hm;omega
theorem a9F {m:List (Nat×Nat)}: ∀{l:List pB},NP m l->∀s∈l,yC m s=s
 |x::l,h,s,hs=>by
  rcases aP2.1 hs with rfl|hs
  ·exact h.1
  ·exact a9F h.2 s hs
theorem I4 {m:List (Nat×Nat)}: ∀{l:List p9},NQ m l->∀b∈l,FV m (some b)=b/\b≠.dead
 |x::l,h,b,hb=>by
  cases x with
  |dead=>exact h.elim
  |cells t y ts=>
   rcases aP2.1 hb with rfl|hb
   ·exact⟨h.1,fun h=>by cases h⟩
   ·exact I4 h.2 b hb
  |row e t l n=>
   rcases aP2.1 hb with rfl|hb
   ·exact⟨h.1,fun h=>by cases h⟩
   ·exact I4 h.2 b hb
  |map k v l=>
   rcases aP2.1 hb with rfl|hb
   ·exact⟨h.1,fun h=>by cases h⟩
   ·exact I4 h.2 b hb
  |iter s n=>
   rcases aP2.1 hb with rfl|hb
   ·exact⟨h.1,fun h=>by cases h⟩
   ·exact I4 h.2 b hb
  |grow e c n=>
   rcases aP2.1 hb with rfl|hb
   ·exact⟨h.1,fun h=>by cases h⟩
   ·exact I4 h.2 b hb
theorem SG {g:Gh}{w:World}: ∀{ss:List pB}{vs:List Value},uL g w ss vs->vs.length=ss.length/\∀(i:Nat) s,ss[i]? =some s->∃v,vs[i]? =some v/\qH g w s v
 |[],vs,h=>by rw[show vs=[] from h];exact⟨rfl,fun i s h=>by simp at h⟩
 |s::ss,vs,⟨v,vs',e,h1,h2⟩=>by
  subst e;obtain⟨h3,h4⟩:=SG h2;refine⟨by simp [h3],fun i s' hi=> ?_⟩;cases i with
  |zero=>simp only[aQi,aPN] at hi;subst hi;exact⟨v,rfl,h1⟩
  |succ i=>simp only[aQw] at hi⊢;exact h4 i s' hi
theorem SH: ∀(L:List p9),pV L=L.length
 |[]=>rfl
 |_::L=>by simp only[pV,aPR,SH L]
theorem aH2 {g:Gh}{w:World}{args:List pB}{vals:List Value}{L:List p9}{N:Nat}(hH:rL g w (pN 0 L)) (ha:uL g w args vals) (hs:NP (uN 0 L) args) (hb:NQ (uN 0 L) L) (hN:args.length<=N):
  tY w.heap.size (tC g 0 (uN 0 L)) w ⟨qJ 0 args,pN 0 L,pV L,N,pV L⟩ {tmps:=vals.toArray++Array.replicate (N-vals.toArray.size) undef,defers:=[]}/\
  (∀i blk,L[i]? =some blk->(tC g 0 (uN 0 L)).J i=g.J i/\yE (tC g 0 (uN 0 L)) w i blk/\∀b o,rE (tC g 0 (uN 0 L)) i blk b o->rE g i blk b o):=by
 have hk:wJ 0 (uN 0 L)=true:=SF;have hmem: ∀i blk,L[i]? =some blk->(i,i)∈uN 0 L:=fun i blk h=>KH.2 ⟨rfl,by omega,by have:=(aP0.1 h).1;omega⟩;have hblk: ∀i blk,L[i]? =some blk->yE (tC g 0 (uN 0 L)) w i blk/\∀b o,rE (tC g 0 (uN 0 L)) i blk b o->rE g i blk b o:=by
  intro i blk h;have hr:=(I4 hb blk (List.mem_of_getElem? h)).1;have:=I2 (g:=g) (w:=w) hk (hmem i blk h) (b:=some blk) (fun c hc=>by cases hc;exact hH.blk i blk (by rw[wS];exact h));rw[hr] at this;exact⟨this.1,fun b o ho=>by obtain⟨c,hc,hco⟩:=this.2 b o ho;cases hc;exact hco⟩
 obtain⟨hl,hv⟩:=SG ha;refine⟨⟨fun t=> ?_,⟨fun i b h=> ?_,fun i j bi bj b o hij h1 h2 o1 o2=> ?_,hH.sl,hH.tab.1,fun i blk b o hg ho=>hH.tab.2 i blk b o hg ((hblk i blk (by rw[<-wS];exact hg)).2 b o ho)⟩,?_,fun i hi=> ?_,a8U _ _,Nat.le_refl _⟩,fun i blk h=>⟨(yY hk (hmem i blk h)).1,hblk i blk h⟩⟩
 ·rw[a9E,if_pos (aQI _),Nat.sub_zero];cases ht:args[t]? with
  |none=>exact⟨trivial,trivial⟩
  |some s=>
   obtain⟨v,hv1,hv2⟩:=hv t s ht;have hlt:t<vals.length:=(aP0.1 hv1).1;have:(vals.toArray++Array.replicate (N-vals.toArray.size) undef).getD t undef=v:=by
    rw[aQm,Array.getElem?_append_left (by simpa using hlt)];simp [hv1]
   simp only[aRk];rw[this];have:=SA hk hv2;rw[a9F hs s (List.mem_of_getElem? ht)] at this;exact this
 ·rw[wS] at h;exact(hblk i b h).1
 ·rw[wS] at h1 h2;exact hH.dis i j bi bj b o hij (by rw[wS];exact h1) (by rw[wS];exact h2) ((hblk i bi h1).2 b o o1) ((hblk j bj h2).2 b o o2)
 ·simp only[aRY,Array.size_replicate,aQA];omega
 ·have hold:y4 (uN 0 L) i=none:=by
   cases ho:y4 (uN 0 L) i with
   |none=>rfl
   |some o=>
    obtain⟨rfl,_,h2⟩:=KH.1 (XK ho);have hi:pV L<=i:=hi;rw[SH] at hi;omega
  refine⟨?_,fun n=> ?_⟩
  ·show (if i<0 then g.J i else(y4 (uN 0 L) i).bind g.J)=none;rw[if_neg (by omega),hold];rfl
  ·show (if i<0 then g.cur i n else(y4 (uN 0 L) i).bind fun o=>g.cur o n)=none;rw[if_neg (by omega),hold];rfl
structure tW (B:Nat) (w w':World):Prop where
 os:w'.os=w.os
 tape:w'.tape=w.tape
 output:w'.output=w.output
 size:w.heap.size<=w'.heap.size
 blk: ∀b,b<w.heap.size->w'.heap[b]? =w.heap[b]? \/(B<=b/\NG<=b/\∃o o',w.heap[b]? =some o/\w'.heap[b]? =some o'/\E5 o=true/\E5 o'=true)
theorem a9G {w:World}{b:Nat}{ob:Obj}(hd:w.heap[b]? =some ob) (hm:E5 ob=true) (o:Nat):w.frozen? ⟨b,o,none⟩=false:=by
 unfold World.frozen?;simp only[hd];cases ob<;>first|rfl|cases hm
theorem aH3 {w:World}{b:Nat}{ob:Obj}(hd:w.heap[b]? =some ob) (hm:E5 ob=true):w.shape? b=none:=by
 unfold World.shape?;simp only[hd];cases ob<;>first|rfl|cases hm
section
variable {B:Nat}{w w' w'':World}
theorem tW.refl (B:Nat) (w:World):tW B w w:=⟨rfl,rfl,rfl,Nat.le_refl _,fun _ _=> .inl rfl⟩
theorem tW.trans (h:tW B w w') (k:tW B w' w''):tW B w w'':=by
 refine⟨k.os.trans h.os,k.tape.trans h.tape,k.output.trans h.output,aQK h.size k.size,fun b hb=> ?_⟩;rcases k.blk b (aQs hb h.size) with k1|⟨k0,k1,o,o',k2,k3,k4,k5⟩
 ·rcases h.blk b hb with h1|⟨h0,h1,o,o',h2,h3,h4,h5⟩
  ·exact .inl (k1.trans h1)
  ·exact .inr ⟨h0,h1,o,o',h2,k1.trans h3,h4,h5⟩
 ·rcases h.blk b hb with h1|⟨h0,h1,p,p',h2,h3,h4,h5⟩
  ·exact .inr ⟨k0,k1,o,o',h1▸k2,k3,k4,k5⟩
  ·exact .inr ⟨h0,h1,p,o',h2,k3,h4,k5⟩
theorem tW.cell (t:tW B w w') {b:Nat}(hb:b<w.heap.size) (o:Nat):w'.cell? ⟨b,o,none⟩=w.cell? ⟨b,o,none⟩/\w'.frozen? ⟨b,o,none⟩=w.frozen? ⟨b,o,none⟩:=by
 rcases t.blk b hb with h|⟨_,_,o1,o2,h1,h2,m1,m2⟩
 ·exact⟨aQb h,by unfold World.frozen?;simp only[h]⟩
 ·exact⟨by rw[XF h1 m1,XF h2 m2],by rw[a9G h1 m1,a9G h2 m2]⟩
theorem tW.shape (t:tW B w w') {b:Nat}{s:TypeId×Nat}(h:w.shape? b=some s):w'.shape? b=some s:=by
 have hb:b<w.heap.size:=by
  unfold World.shape? at h;cases hx:w.heap[b]? with
  |none=>rw[hx] at h;cases h
  |some _=>exact(aP9.1 hx).1
 rcases t.blk b hb with k|⟨_,_,o1,o2,h1,h2,m1,m2⟩
 ·unfold World.shape? at h⊢;rw[k];exact h
 ·rw[aH3 h1 m1] at h;cases h
theorem tW.le (t:tW B w w') {g:Gh}(hs: ∀b o,g.S b o->b<w.heap.size):Le g w g w':=⟨fun _ _ h=>h,fun b o h=>(t.cell (hs b o h) o).1,fun _ _ h=>h,fun _ _ _ h=>h⟩
theorem tW.heapOk (t:tW B w w') {g:Gh}{H:rD}(h:rL g w H):rL g w' H:=by
 have own: ∀{i blk b o},pD H i=some blk->rE g i blk b o->w'.heap[b]? =w.heap[b]? :=fun hg ho=>by
  rcases t.blk _ (N7 (h.blk _ _ hg) ho) with k|⟨_,_,o1,o2,h1,_,m1,_⟩
  ·exact k
  ·exact(S7 (h.blk _ _ hg) ho h1 m1).elim
 refine⟨fun i blk hb=>K5 (h.blk i blk hb) (t.le h.sl) rfl rfl (fun b o ho=>t.cell (N7 (h.blk i blk hb) ho) o) (fun b ho=>own hb (ho 0)) (fun _ _ _ x=>x) (fun b o s _ x=>t.shape x),h.dis,fun b o x=>aQs (h.sl b o x) t.size,MH h.tab.1 t.size (fun b hb=> ?_),h.tab.2⟩;rcases t.blk b (aQs hb h.tab.1.1) with k|⟨_,k,_⟩
 ·exact k
 ·omega
theorem tY.turn {g:Gh}{s:St}{a:Act}{ds:List Deferred}(h:tY B g w s a) (t:tW B w w') (hd:y3 B w' ds):tY B g w' s {a with defers:=ds}:=
 ⟨fun x=>zM (t.le h.heap.sl) (h.env x),t.heapOk h.heap,h.size,h.nb,hd,h.np⟩
theorem s8.turn {A:Nat->Nat->Prop}{L:List p9}{g0 g:Gh}{w0:World}{H:rD}(h:s8 A L g0 w0 g w H) (hs: ∀b o,g.S b o->b<w.heap.size) (t:tW w0.heap.size w w'):s8 A L g0 w0 g w' H:=by
 refine⟨fun b o x=>⟨(h.shut b o x).1,(t.cell (hs b o (h.shut b o x).1) o).1.trans (h.shut b o x).2⟩,⟨t.os.trans h.fr.os,t.tape.trans h.fr.tape,t.output.trans h.fr.output,aQK h.fr.size t.size,fun b hb hA=> ?_,fun b o hb hA=> ?_,h.fr.new,fun b s x=> ?_⟩,h.perm,h.J,h.live,h.ty,h.cur⟩
 ·rcases t.blk b (aQs hb h.fr.size) with k|⟨k,_⟩
  ·exact k.trans (h.fr.blk b hb hA)
  ·omega
 ·have:=t.cell (aQs hb h.fr.size) o;have k:=h.fr.cell b o hb hA;exact⟨this.1.trans k.1,this.2.trans k.2⟩
 ·rcases h.fr.shape b s x with k|k
  ·exact .inl (t.shape k)
  ·exact .inr k
end
theorem a9H {P:Program}{fn:Func}{R:Ending->World->Prop}{A:Nat->Nat->Prop}{L:List p9}{g0 g:Gh}{w0:World}{s:St}{tmps:Array Value}: ∀(ds:List Deferred) (w:World),tY w0.heap.size g w s {tmps:=tmps,defers:=ds}->s8 A L g0 w0 g w s.H->
  (∀w',tY w0.heap.size g w' s {tmps:=tmps,defers:=[]}->s8 A L g0 w0 g w' s.H->∃v,(results fn tmps).run P w'= .ok v w'/\R (.returned v) w')->LeavesInM Fence.wide 0 P fn tmps R ds .returning w
 |[],w,hr,hg,h=>h w hr hg
 |d::ds,w,hr,hg,h=>by
  obtain⟨hnd,hall⟩:=hr.def_;obtain⟨D,rfl,h1,h2,h3⟩:=hall d aP8;have hlt:=(aP9.1 h3).1;have t:tW w0.heap.size w (w.putObj D (.deferred none)):=by
   refine⟨rfl,rfl,rfl,by simp [World.putObj],fun b hb=> ?_⟩;by_cases e:b=D
   ·subst e;exact .inr ⟨h1,h2,_,_,h3,World.putObj_heap_same hlt,rfl,rfl⟩
   ·exact .inl (World.putObj_heap_other e)
  have hd:y3 w0.heap.size (w.putObj D (.deferred none)) ds:=by
   refine⟨(List.nodup_cons.1 hnd).2,fun d' hd'=> ?_⟩;obtain⟨D',rfl,k1,k2,k3⟩:=hall d' (aP1 _ hd');refine⟨D',rfl,k1,k2,?_⟩;rw[World.putObj_heap_other (fun e:D'=D=>(List.nodup_cons.1 hnd).1 (by subst e;exact hd'))];exact k3
  exact⟨by simp,.inl ⟨D,_,rfl,run_takeDeferred h3,a9H ds _ (hr.turn t hd) (hg.turn hr.heap.sl t) h⟩⟩
def Ev (R:Bool) (P:Program) (c:Code) (s:St) (Q:Ex->St->Prop):Prop:=
 ∀(ro:Option Nat),ro.isSome=R->
 ∀(A:Nat->Nat->Prop) (L:List p9) (g0:Gh) (w0:World) (g:Gh) (a:Act) (w:World) (B:Nat),B<=w0.heap.size->tY B g w s a->s8 A L g0 w0 g w s.H->s.np=L.length->c.wpIn (CT ro) 0 P (a9A B A L g0 w0 Q) a w
variable {R:Bool}
theorem a9I {P:Program}{T:rU}{Γ:tO}(hT:w8 P T) (hΓ:BW P Γ) (hm:P.follows .mixedOrders=true) {c:Code}{s:St}{Q:Ex->St->Prop}(h:vH T Γ c s Q):Ev R P c s Q:=
 fun ro hro A L g0 w0 g a w B hB hr hg hn=>E8 hT hΓ hm c s Q g a w h hr hg hn
structure qG (P:Program) (T:rU) (Γ:tO):Prop where
 T:w8 P T
 Γ:BW P Γ
 m:P.follows .mixedOrders=true
theorem aH4 {P:Program}{c:Code}{s:St}{Q Q':Ex->St->Prop}(h:Ev R P c s Q') (hq: ∀e s,Q' e s->Q e s):Ev R P c s Q:=by
 intro ro hro A L g0 w0 g a w B hB hr hg hn;refine aRF (h ro hro A L g0 w0 g a w B hB hr hg hn) fun x a' w' hp=> ?_;obtain⟨e,g',s',h1,h2,h3,h4,h5⟩:=hp;exact⟨e,g',s',h1,hq e s' h2,h3,h4,h5⟩
theorem a9J {P:Program}{c:Code}{s:St}{Q:Ex->St->Prop}(k:v7) (h:Ev R P c (s.keep k) Q):Ev R P c s Q:=by
 intro ro hro A L g0 w0 g a w B hB hr hg hn;obtain⟨g1,k1,k2,k3,_⟩:=E6 hr hg hn k;exact h ro hro A L g0 w0 g1 a w B hB k1 k2 k3
section
variable {P:Program}{s:St}{Q:Ex->St->Prop}
theorem pU (h:Q .normal s):Ev R P .skip s Q:=fun _ _ _ _ _ _ g _ _ _ _ hr hg hn=>wpIn_skip ⟨.normal,g,s,rfl,h,hr,hg,hn⟩
theorem tG {id:Nat}(h:Q (.exit id) s):Ev R P (.exit id) s Q:=fun _ _ _ _ _ _ g _ _ _ _ hr hg hn=>wpIn_exit ⟨.exit id,g,s,rfl,h,hr,hg,hn⟩
theorem pG (h:Q .ret s):Ev R P .ret s Q:=fun _ _ _ _ _ _ g _ _ _ _ hr hg hn=>wpIn_ret ⟨.ret,g,s,rfl,h,hr,hg,hn⟩
theorem pL {x y:Code}(h:Ev R P x s (N0 (fun s'=>Ev R P y s' Q) Q)):Ev R P (.seq x y) s Q:=by
 intro ro hro A L g0 w0 g a w B hB hr hg hn;refine wpIn_seq (aRF (h ro hro A L g0 w0 g a w B hB hr hg hn) fun e a' w' hp=> ?_);obtain⟨e',g',s',h1,h2,h3,h4,h5⟩:=hp;cases e<;>simp only[CU,aPN] at h1
 case normal=>subst h1;exact h2 ro hro A L g0 w0 g' a' w' B hB h3 h4 h5
 case exit id=>subst h1;exact⟨.exit id,g',s',rfl,h2,h3,h4,h5⟩
 case ret=>subst h1;exact⟨.ret,g',s',rfl,h2,h3,h4,h5⟩
 all_goals cases h1
theorem aH5 {c:Operand}{x y:Code}{b:Bool}{k:Option Nat}(h:sO s.env c=(.val .bool b,k)) (ht:b=true->Ev R P x s Q) (hf:b=false->Ev R P y s Q):Ev R P (.cond c x y) s Q:=by
 intro ro hro A L g0 w0 g a w B hB hr hg hn;have hc:=yJ hr.env c;rw[h] at hc;exact wpIn_cond_split (w9 hc.1) (fun e=>ht e ro hro A L g0 w0 g a w B hB hr hg hn) (fun e=>hf e ro hro A L g0 w0 g a w B hB hr hg hn)
theorem aH6 {c:Operand}{x y:Code}{p q:Prop}{k:Option Nat}(h:sO s.env c=(.flag p q,k)) (ht:p->Ev R P x s Q) (hf:q->Ev R P y s Q):Ev R P (.cond c x y) s Q:=by
 intro ro hro A L g0 w0 g a w B hB hr hg hn;have hc:=yJ hr.env c;rw[h] at hc;obtain⟨b,hb,hp,hq⟩:=hc.1;exact wpIn_cond_split hb (fun e=>ht (hp e) ro hro A L g0 w0 g a w B hB hr hg hn) (fun e=>hf (hq e) ro hro A L g0 w0 g a w B hB hr hg hn)
theorem qT {id:Nat}{c:Code}(h:Ev R P c s (HW id Q)):Ev R P (.block id c) s Q:=by
 intro ro hro A L g0 w0 g a w B hB hr hg hn;refine wpIn_block (aRF (h ro hro A L g0 w0 g a w B hB hr hg hn) fun e a' w' hp=> ?_);obtain⟨e',g',s',h1,h2,h3,h4,h5⟩:=hp;cases e<;>simp only[CU,aPN] at h1
 case normal=>subst h1;exact⟨.normal,g',s',rfl,h2,h3,h4,h5⟩
 case exit j=>
  subst h1;simp only[HW] at h2;simp only[Exit.inBlock];split
  ·rename_i hj;rw[if_pos hj] at h2;exact⟨.normal,g',s',rfl,h2,h3,h4,h5⟩
  ·rename_i hj;rw[if_neg hj] at h2;exact⟨.exit j,g',s',rfl,h2,h3,h4,h5⟩
 case ret=>subst h1;exact⟨.ret,g',s',rfl,h2,h3,h4,h5⟩
 all_goals cases h1
end
@[go_sem] def SJ (k:Nat) (t:Ty) (l:List t.den):pB->pB
 |(.own j m,x)=>if j=k then(.val (.list t) l,some k) else(.own j m,x)
 |s=>s
@[go_sem] def G2 (k:Nat) (t:Ty) (l:List t.den):List (Nat×pB)->List (Nat×pB)
 |[]=>[]
 |(i,s)::r=>(i,SJ k t l s)::G2 k t l r
@[go_sem] def a9K (k n:Nat):pB->Prop
 |(.own j m,_)=>j=k->m=n
 |_=>True
@[go_sem] def NR (k n:Nat):List (Nat×pB)->Prop
 |[]=>True
 |(_,s)::r=>a9K k n s/\NR k n r
theorem Y0 {k:Nat}{t:Ty}{l:List t.den}: ∀{env:List (Nat×pB)}{i:Nat},lk (G2 k t l env) i=SJ k t l (lk env i)
 |[],i=>rfl
 |(j,s)::r,i=>by
  simp only[G2,lk];split
  ·rfl
  ·exact Y0
theorem Y1 {k n:Nat}: ∀{env:List (Nat×pB)}{i:Nat},NR k n env->a9K k n (lk env i)
 |[],i,_=>trivial
 |(j,s)::r,i,⟨h1,h2⟩=>by
  simp only[lk];split
  ·exact h1
  ·exact Y1 h2
theorem Y2 {P:Program}{c:Code}{s:St}{Q:Ex->St->Prop}(k:Nat) {e:TypeId}{t:Ty}{l:List t.den}{n:Nat}(hk:pD s.H k=some (.row e t l n)) (hok:NR k n s.env)
  (h:Ev R P c ⟨G2 k t l s.env,(k,.grow e t.cells (List.length l))::s.H,s.nb,s.N,s.np⟩ Q):Ev R P c s Q:=by
 intro ro hro A L g0 w0 g a w B hB hr hg hn;obtain⟨hl,v,xs,hv,hown,hF,hnone,hseal⟩:=hr.heap.blk k _ hk
 let g':Gh:={g with S:=fun b o=>g.S b o\/(v.ownBlock=some b/\o<n*t.cells)}
 have le:Le g w g' w:=⟨fun _ _ h=> .inl h,fun _ _ _=>rfl,fun _ _ h=>h,fun _ _ _ h=>h⟩;have hown2: ∀b,v.ownBlock=some b->∀o,rE g k (.row e t l n) b o:=fun b hb o=>⟨v,hv,hb⟩;have hlist: ∀u,g.cur k n=some u->((u= .slice none 0 0/\n=0)\/∃b cap,u= .slice (some ⟨b,0,none⟩) n cap/\n<=cap)->s9 g' w (.list t) l u:=by
  intro u hu hshape;rw[hv] at hu;obtain rfl:=aPS hu;rcases hshape with⟨rfl,h0⟩ |⟨b,cap,rfl,hcap⟩
  ·have:l=[]:=aQj (by rw[hl,h0]);subst this;exact .inr ⟨rfl,none,0,rfl,Nat.le_refl _,.inl rfl⟩
  ·refine .inr ⟨rfl,some ⟨b,0,none⟩,cap,by rw[hl],by rw[hl];exact hcap,.inr ⟨b,0,rfl,K8 (B2 (fun _ _ h=>wL le h) hF) (fun j u hu=> ?_) (fun j hj=> ?_)⟩⟩
   ·have:=hown.cells (g:=b) rfl j u hu;rwa [aQ4] at this
   ·right;exact⟨rfl,by rw[hl] at hj;omega⟩
 have hget: ∀i b,pD ((k,p9.grow e t.cells (List.length l))::s.H) i=some b->(i=k/\b= .grow e t.cells (List.length l))\/(i≠k/\pD s.H i=some b):=by
  intro i b hb;simp only[pD] at hb;split at hb
  ·rename_i e1;exact .inl ⟨e1.symm,(aPS hb).symm⟩
  ·rename_i e1;exact .inr ⟨Ne.symm e1,hb⟩
 have howns: ∀i b bb o,pD ((k,p9.grow e t.cells (List.length l))::s.H) i=some b->rE g' i b bb o->∃b0,pD s.H i=some b0/\rE g i b0 bb o:=by
  intro i b bb o hb ho;rcases hget i b hb with⟨rfl,rfl⟩ |⟨_,h1⟩
  ·obtain⟨u,hu,hub⟩:=ho;have hu':g.cur i (List.length l)=some u:=hu;rw[hl] at hu';exact⟨_,hk,u,hu',hub⟩
  ·exact⟨b,h1,(xY (g':=g') (g:=g) rfl rfl).1 ho⟩
 have hrel:tY B g' w ⟨G2 k t l s.env,(k,.grow e t.cells (List.length l))::s.H,s.nb,s.N,s.np⟩ a:=by
  refine⟨fun i=> ?_,⟨fun i b hb=> ?_,fun i j bi bj b o hij h1 h2 o1 o2=> ?_,fun b o hS=> ?_,hr.heap.tab.1,fun i b bb oo hb ho=>by
   obtain⟨c1,k1,k2⟩:=howns i b bb oo hb ho;exact hr.heap.tab.2 i c1 bb oo k1 k2⟩,hr.size,hr.nb,hr.def_,hr.np⟩
  ·rw[Y0];have h1:=hr.env i;have h2:=Y1 (i:=i) hok;generalize lk s.env i=sl at h1 h2;obtain⟨d,x⟩:=sl;cases d with
   |own j m=>
    simp only[SJ];split
    ·rename_i hj;subst hj;have hm:m=n:=h2 rfl;subst hm;refine⟨hlist _ h1.1.1 h1.1.2,?_⟩;show g'.cur j (List.length l)=_;rw[hl];exact h1.1.1
    ·exact zM le h1
   |_=>exact zM le h1
  ·rcases hget i b hb with⟨rfl,rfl⟩ |⟨hne,h1⟩
   ·refine⟨v,xs,by rw[hl];exact hv,by rw[hl];exact hown,fun m hm=>hnone m (by rw[hl] at hm;exact hm),fun b hb o hS=> ?_⟩;rw[hl];rcases hS with hS|hS
    ·exact absurd hS (hseal b hb o)
    ·exact hS.2
   ·exact K5 (hr.heap.blk i b h1) le rfl rfl (fun _ _ _=>⟨rfl,rfl⟩) (fun _ _=>rfl) (fun bb o ho hS=>by
     rcases hS with hS|hS
     ·exact hS
     ·exact absurd (hown2 bb hS.1 o) (fun h5=>hr.heap.dis i k b _ bb o hne h1 hk ho h5)) (fun _ _ _ _ h=>h)
  ·obtain⟨c1,k1,k2⟩:=howns i bi b o h1 o1;obtain⟨c2,k3,k4⟩:=howns j bj b o h2 o2;exact hr.heap.dis i j c1 c2 b o hij k1 k3 k2 k4
  ·rcases hS with hS|hS
   ·exact hr.heap.sl b o hS
   ·exact N6 hown hS.1
 have hgood:s8 A L g0 w0 g' w ((k,.grow e t.cells (List.length l))::s.H):=by
  refine⟨fun b o h0=>⟨.inl (hg.shut b o h0).1,(hg.shut b o h0).2⟩,⟨hg.fr.os,hg.fr.tape,hg.fr.output,hg.fr.size,hg.fr.blk,hg.fr.cell,fun b o hS=> ?_,hg.fr.shape⟩,fun i b bb o hb ho=> ?_,hg.J,hg.live,fun i u y us hi hb=> ?_,hg.cur⟩
  ·rcases hS with hS|hS
   ·exact hg.fr.new b o hS
   ·exact .inr (hg.perm k _ b o hk (hown2 b hS.1 o))
  ·obtain⟨c1,k1,k2⟩:=howns i b bb o hb ho;exact hg.perm i c1 bb o k1 k2
  ·rcases hget i _ hb with⟨_,h1⟩ |⟨_,h1⟩
   ·cases h1
   ·exact hg.ty i u y us hi h1
 exact h ro hro A L g0 w0 g' a w B hB hrel hgood hn
@[go_sem] def Y3 (k:Nat) (u0:Ty) (l:List u0.den) (e:Nat) (u:Ty):Option (Nat×Nat)-> Σ t:Ty,t.den
 |some (j,n)=>if j=k/\u=u0 then⟨.list u0,l⟩ else⟨.rl e u,some (j,n)⟩
 |none=>⟨.rl e u,none⟩
@[go_sem] def yZ (k:Nat) (u0:Ty) (l:List u0.den):(t:Ty)->t.den-> Σ t:Ty,t.den
 | .rl e u,x=>Y3 k u0 l e u x
 | .pair a b,x=>if (Ty.pair a b).pure=true then⟨.pair a b,x⟩ else⟨.pair (yZ k u0 l a x.1).1 (yZ k u0 l b x.2).1,((yZ k u0 l a x.1).2,(yZ k u0 l b x.2).2)⟩
 |t,x=>⟨t,x⟩
@[go_sem] def aH7 (k n:Nat):Option (Nat×Nat)->Prop
 |some (j,m)=>j=k->m=n
 |none=>True
@[go_sem] def NS (k n:Nat):(t:Ty)->t.den->Prop
 | .rl _ _,x=>aH7 k n x
 | .pair a b,x=>NS k n a x.1/\NS k n b x.2
 |_,_=>True
theorem NT {k:Nat}{u0:Ty}{l:List u0.den}: ∀{t:Ty}{x:t.den},(yZ k u0 l t x).1.cells=t.cells
 | .rl e u,none=>rfl
 | .rl e u,some (j,n)=>by
  simp only[yZ,Y3];split<;>rfl
 | .pair a b,x=>by
  simp only[yZ];split
  ·rfl
  ·simp only[Ty.cells,NT (t:=a),NT (t:=b)]
 | .bool,_=>rfl
 | .int _,_=>rfl
 | .str,_=>rfl
 | .list _,_=>rfl
 | .unit,_=>rfl
 | .ref,_=>rfl
 | .clo,_=>rfl
 | .mp,_=>rfl
 | .mref,_=>rfl
 | .fn,_=>rfl
def aH8 (g:Gh) (w:World) (q: Σ t:Ty,t.den) (cs:List Value):Prop:=Rd g w q.1 q.2 cs
theorem Y4 {g:Gh}{w:World}{k n:Nat}{u0:Ty}{l:List u0.den}(hk: ∀cs,FW g (some (k,n)) cs->Rd g w (.list u0) l cs): ∀{t:Ty}{x:t.den}{cs:List Value},NS k n t x->Rd g w t x cs->aH8 g w (yZ k u0 l t x) cs
 | .rl e u,none,_,_,r=>r
 | .rl e u,some (j,m),_,h,r=>by
  simp only[yZ,Y3];split
  ·rename_i hc;obtain⟨rfl,rfl⟩:=hc;have:m=n:=h rfl;subst this;exact hk _ r
  ·exact r
 | .pair a b,x,_,h,r=>by
  simp only[yZ];split
  ·exact r
  ·obtain⟨c1,c2,e,r1,r2⟩:=r;exact⟨c1,c2,e,Y4 hk h.1 r1,Y4 hk h.2 r2⟩
 | .bool,_,_,_,r=>r
 | .int _,_,_,_,r=>r
 | .str,_,_,_,r=>r
 | .list _,_,_,_,r=>r
 | .unit,_,_,_,r=>r
 | .ref,_,_,_,r=>r
 | .clo,_,_,_,r=>r
 | .mp,_,_,_,r=>r
 | .mref,_,_,_,r=>r
 | .fn,_,_,_,r=>r
theorem aH9 {P:Program}{c:Code}{s:St}{Q:Ex->St->Prop}(k i:Nat) {e:TypeId}{t:Ty}{l:List t.den}{n:Nat}(hk:pD s.H k=some (.row e t l n)) {u:Ty}{x:u.den}{toks:List (Nat×Nat)}(hi:pD s.H i=some (.cells u x toks)) (hnp:s.np<=i)
  (hok:NR k n s.env) (hxo:NS k n u x)
  (h:Ev R P c ⟨G2 k t l s.env,(i,.cells (yZ k t l u x).1 (yZ k t l u x).2 [])::(k,.grow e t.cells (List.length l))::s.H,s.nb,s.N,s.np⟩ Q):Ev R P c s Q:=by
 intro ro hro A L g0 w0 g a w B hB hr hg hn;obtain⟨hl,v,xs,hv,hown,hF,hnone,hseal⟩:=hr.heap.blk k _ hk
 let g':Gh:={g with S:=fun b o=>g.S b o\/(v.ownBlock=some b/\o<n*t.cells)}
 have le:Le g w g' w:=⟨fun _ _ h=> .inl h,fun _ _ _=>rfl,fun _ _ h=>h,fun _ _ _ h=>h⟩;have hown2: ∀b,v.ownBlock=some b->∀o,rE g k (.row e t l n) b o:=fun b hb o=>⟨v,hv,hb⟩;have hlist: ∀u,g.cur k n=some u->((u= .slice none 0 0/\n=0)\/∃b cap,u= .slice (some ⟨b,0,none⟩) n cap/\n<=cap)->s9 g' w (.list t) l u:=by
  intro u hu hshape;rw[hv] at hu;obtain rfl:=aPS hu;rcases hshape with⟨rfl,h0⟩ |⟨b,cap,rfl,hcap⟩
  ·have:l=[]:=aQj (by rw[hl,h0]);subst this;exact .inr ⟨rfl,none,0,rfl,Nat.le_refl _,.inl rfl⟩
  ·refine .inr ⟨rfl,some ⟨b,0,none⟩,cap,by rw[hl],by rw[hl];exact hcap,.inr ⟨b,0,rfl,K8 (B2 (fun _ _ h=>wL le h) hF) (fun j u hu=> ?_) (fun j hj=> ?_)⟩⟩
   ·have:=hown.cells (g:=b) rfl j u hu;rwa [aQ4] at this
   ·right;exact⟨rfl,by rw[hl] at hj;omega⟩
 have hik:i≠k:=fun e1=>by rw[e1,hk] at hi;cases hi
 obtain⟨p0,cs0,hp0,hR0,hra0,hth0,hns0,_⟩:=hr.heap.blk i _ hi
 let b':p9:= .cells (yZ k t l u x).1 (yZ k t l u x).2 []
 let H':rD:=(i,b')::(k,p9.grow e t.cells (List.length l))::s.H
 have hget: ∀i' b,pD H' i'=some b->(i'=i/\b=b')\/(i'=k/\b= .grow e t.cells (List.length l))\/(i'≠k/\i'≠i/\pD s.H i'=some b):=by
  intro i' b hb;simp only[H',pD] at hb;split at hb
  ·rename_i e1;exact .inl ⟨e1.symm,(aPS hb).symm⟩
  ·rename_i e1;split at hb
   ·rename_i e2;exact .inr (.inl ⟨e2.symm,(aPS hb).symm⟩)
   ·rename_i e2;exact .inr (.inr ⟨Ne.symm e2,Ne.symm e1,hb⟩)
 have howns: ∀i' b bb o,pD H' i'=some b->rE g' i' b bb o->∃b0,pD s.H i'=some b0/\rE g i' b0 bb o:=by
  intro i' b bb o hb ho;rcases hget i' b hb with⟨rfl,rfl⟩ |⟨rfl,rfl⟩ |⟨_,_,h1⟩
  ·obtain⟨p,hp,e1,e2,e3⟩:=ho;rw[NT] at e3;exact⟨_,hi,p,hp,e1,e2,e3⟩
  ·obtain⟨u,hu,hub⟩:=ho;have hu':g.cur i' (List.length l)=some u:=hu;rw[hl] at hu';exact⟨_,hk,u,hu',hub⟩
  ·exact⟨b,h1,(xY (g':=g') (g:=g) rfl rfl).1 ho⟩
 have hrel:tY B g' w ⟨G2 k t l s.env,H',s.nb,s.N,s.np⟩ a:=by
  refine⟨fun j=> ?_,⟨fun i' b hb=> ?_,fun i' j bi bj b o hij h1 h2 o1 o2=> ?_,fun b o hS=> ?_,hr.heap.tab.1,fun i' b bb oo hb ho=>by
   obtain⟨c1,k1,k2⟩:=howns i' b bb oo hb ho;exact hr.heap.tab.2 i' c1 bb oo k1 k2⟩,hr.size,hr.nb,hr.def_,hr.np⟩
  ·rw[Y0];have h1:=hr.env j;have h2:=Y1 (i:=j) hok;generalize lk s.env j=sl at h1 h2;obtain⟨d,x⟩:=sl;cases d with
   |own j m=>
    simp only[SJ];split
    ·rename_i hj;subst hj;have hm:m=n:=h2 rfl;subst hm;refine⟨hlist _ h1.1.1 h1.1.2,?_⟩;show g'.cur j (List.length l)=_;rw[hl];exact h1.1.1
    ·exact zM le h1
   |_=>exact zM le h1
  ·rcases hget i' b hb with⟨rfl,rfl⟩ |⟨rfl,rfl⟩ |⟨hne,_,h1⟩
   ·have hk2: ∀cs,FW g' (some (k,n)) cs->Rd g' w (.list t) l cs:=by
     rintro cs ⟨v1,q1,q2,q3⟩;rw[q2];exact AI rfl (hlist v1 q1 q3)
    refine⟨p0,cs0,hp0,Y4 (n:=n) hk2 hxo (wL le hR0),hra0,?_,?_,fun _ _ hm=>by cases hm⟩
    ·rw[NT];exact⟨hth0.1,hth0.2⟩
    ·rw[NT];intro j hj hS;rcases hS with hS|hS
     ·exact hns0 j hj hS
     ·exact hr.heap.dis i' k _ _ p0.1 (p0.2+j) hik hi hk ⟨p0,hp0,rfl,by omega,by omega⟩ (hown2 _ hS.1 _)
   ·refine⟨v,xs,by rw[hl];exact hv,by rw[hl];exact hown,fun m hm=>hnone m (by rw[hl] at hm;exact hm),fun b hb o hS=> ?_⟩;rw[hl];rcases hS with hS|hS
    ·exact absurd hS (hseal b hb o)
    ·exact hS.2
   ·exact K5 (hr.heap.blk i' b h1) le rfl rfl (fun _ _ _=>⟨rfl,rfl⟩) (fun _ _=>rfl) (fun bb o ho hS=>by
     rcases hS with hS|hS
     ·exact hS
     ·exact absurd (hown2 bb hS.1 o) (fun h5=>hr.heap.dis i' k b _ bb o hne h1 hk ho h5)) (fun _ _ _ _ h=>h)
  ·obtain⟨c1,k1,k2⟩:=howns i' bi b o h1 o1;obtain⟨c2,k3,k4⟩:=howns j bj b o h2 o2;exact hr.heap.dis i' j c1 c2 b o hij k1 k3 k2 k4
  ·rcases hS with hS|hS
   ·exact hr.heap.sl b o hS
   ·exact N6 hown hS.1
 have hgood:s8 A L g0 w0 g' w H':=by
  refine⟨fun b o h0=>⟨.inl (hg.shut b o h0).1,(hg.shut b o h0).2⟩,⟨hg.fr.os,hg.fr.tape,hg.fr.output,hg.fr.size,hg.fr.blk,hg.fr.cell,fun b o hS=> ?_,hg.fr.shape⟩,fun i' b bb o hb ho=> ?_,hg.J,hg.live,fun i' u' y us hi' hb=> ?_,hg.cur⟩
  ·rcases hS with hS|hS
   ·exact hg.fr.new b o hS
   ·exact .inr (hg.perm k _ b o hk (hown2 b hS.1 o))
  ·obtain⟨c1,k1,k2⟩:=howns i' b bb o hb ho;exact hg.perm i' c1 bb o k1 k2
  ·rcases hget i' _ hb with⟨rfl,_⟩ |⟨_,h1⟩ |⟨_,_,h1⟩
   ·omega
   ·cases h1
   ·exact hg.ty i' u' y us hi' h1
 exact h ro hro A L g0 w0 g' a w B hB hrel hgood hn
theorem aIa {P:Program}{c:Code}{s:St}{Q:Ex->St->Prop}(k i:Nat) {e:TypeId}{t:Ty}{l:List t.den}{n:Nat}(hk:pD s.H k=some (.row e t l n)) {u:Ty}{x:u.den}{toks:List (Nat×Nat)}(hi:pD s.H i=some (.cells u x toks)) (hnp:s.np<=i)
  (hok:NR k n s.env) (hxo:NS k n u x) {u':Ty}{y':u'.den}(hz:yZ k t l u x=⟨u',y'⟩)
  (h:Ev R P c ⟨G2 k t l s.env,(i,.cells u' y' [])::(k,.grow e t.cells (List.length l))::s.H,s.nb,s.N,s.np⟩ Q):Ev R P c s Q:=
 aH9 k i hk hi hnp hok hxo (by rw[hz];exact h)
def iter {σ ρ:Type}(f:σ->Option (σ⊕ρ)):Nat->σ->Option ρ
 |0,_=>none
 |n+1,x=>match f x with
  |none=>none
  |some (.inl y)=>iter f n y
  |some (.inr r)=>some r
theorem a9L {σ ρ:Type}{f:σ->Option (σ⊕ρ)}{r:ρ}: ∀{n:Nat}{x:σ},iter f n x=some r->iter f (n+1) x=some r
 |0,_,h=>by cases h
 |n+1,x,h=>by
  unfold iter at h⊢;split
  ·rename_i e;rw[e] at h;cases h
  ·rename_i y e;rw[e] at h;exact a9L h
  ·rename_i r' e;rw[e] at h;exact h
theorem Y5 {σ ρ:Type}{f:σ->Option (σ⊕ρ)}{r:ρ}{n:Nat}{x:σ}(h:iter f n x=some r): ∀m,iter f (n+m) x=some r
 |0=>h
 |m+1=>a9L (Y5 h m)
theorem a9M {σ ρ:Type}{f:σ->Option (σ⊕ρ)}{r r':ρ}{n m:Nat}{x:σ}(h:iter f n x=some r) (h':iter f m x=some r'):r=r':=by
 have h1:=Y5 h m;have h2:=Y5 h' n;rw[Nat.add_comm] at h2;exact aPS (h1.symm.trans h2)
noncomputable def NU {σ ρ:Type}(f:σ->Option (σ⊕ρ)) (x:σ):Option ρ:=open Classical in if h: ∃n r,iter f n x=some r then some (Classical.choose (aRp h)) else none
def aIb {ρ:Type}:Option ρ->Option ρ->Option ρ
 |some r,_=>some r
 |none,r=>r
noncomputable def pY {σ ρ:Type}(f:σ->Option (σ⊕ρ)) (x:σ):Option ρ:=aIb (iter f 2000 x) (NU f x)
theorem aIc {σ ρ:Type}{f:σ->Option (σ⊕ρ)}{x:σ}{r:ρ}{n:Nat}(h:iter f n x=some r):NU f x=some r:=by
 have hx: ∃n r,iter f n x=some r:=⟨n,r,h⟩;unfold NU;rw[aR0 hx,a9M h (aRp (aRp hx))]
theorem Y6 {σ ρ:Type}{f:σ->Option (σ⊕ρ)}{x:σ}{r:ρ}{n:Nat}(h:iter f n x=some r):pY f x=some r:=by
 unfold pY;cases hi:iter f 2000 x with
 |some r'=>rw[a9M h hi];rfl
 |none=>exact aIc h
theorem SK {σ ρ:Type}{f:σ->Option (σ⊕ρ)}{x:σ}{r:ρ}(h:pY f x=some r): ∃n,iter f n x=some r:=by
 unfold pY at h;cases hi:iter f 2000 x with
 |some r'=>
  rw[hi] at h;cases h;exact⟨_,hi⟩
 |none=>
  rw[hi] at h;have h:NU f x=some r:=h;unfold NU at h;split at h
  ·rename_i hx;have:=aRp (aRp hx);rw[aPS h] at this;exact⟨_,this⟩
  ·cases h
attribute [irreducible] pY
theorem zT {σ ρ:Type}{f:σ->Option (σ⊕ρ)}{x y:σ}(h:f x=some (.inl y)):pY f x=pY f y:=by
 cases hy:pY f y with
 |some r=>
  obtain⟨n,hn⟩:=SK hy;exact Y6 (n:=n+1) (by unfold iter;rw[h];exact hn)
 |none=>
  cases hx:pY f x with
  |none=>rfl
  |some r=>
   obtain⟨n,hn⟩:=SK hx;cases n with
   |zero=>cases hn
   |succ n=>
    unfold iter at hn;rw[h] at hn;rw[Y6 hn] at hy;cases hy
theorem tZ {σ ρ:Type}{f:σ->Option (σ⊕ρ)}{x:σ}{r:ρ}(h:f x=some (.inr r)):pY f x=some r:=Y6 (n:=1) (by unfold iter;rw[h])
def Nxt {σ ρ:Type}(f:σ->Option (σ⊕ρ)) (y:ρ) (n:Nat):σ⊕ρ->Prop
 | .inl x=>iter f n x=some y
 | .inr r=>r=y
def qL {σ ρ:Type}(enc:σ->St) (f:σ->Option (σ⊕ρ)) (y:ρ) (n:Nat) (Q:Ex->St->Prop):Ex->St->Prop
 | .normal,s=> ∃(k:v7) (x:σ),s.keep k=enc x/\iter f n x=some y
 | .exit j,s=>Q (.exit j) s
 | .ret,s=>Q .ret s
theorem aIe {P:Program}{c:Code}{s:St}{Q:Ex->St->Prop}(I:Nat->St->Prop) (h0: ∃(k:v7) (n:Nat),I n (s.keep k))
  (h: ∀n s,I n s->Ev R P c s (fun e s'=>match e with| .normal=> ∃(k:v7) (m:Nat),m<n/\I m (s'.keep k) |e=>Q e s')):Ev R P (.loop c) s Q:=by
 intro ro hro A L g0 w0 g a w B hB hr hg hn;obtain⟨k,n0,h0⟩:=h0;obtain⟨g1,k1,k2,k3,_⟩:=E6 hr hg hn k
 let R:Act->World->Nat->Prop:=fun a w n=> ∃g s,I n s/\tY B g w s a/\s8 A L g0 w0 g w s.H/\s.np=L.length
 refine wpIn_loop (fun a w=> ∃n,R a w n) (fun a w=>NO (R a w)) ⟨_,g1,s.keep k,h0,k1,k2,k3⟩ (fun a w hI=> ?_);obtain⟨⟨g2,s2,i1,i3,i4,i5⟩,_⟩:=SE hI;refine aRF (h _ s2 i1 ro hro A L g0 w0 g2 a w B hB i3 i4 i5) fun e a' w' hp=> ?_;obtain⟨e',g',s',h1,h2,h3,h4,h5⟩:=hp;cases e<;>simp only[CU,aPN] at h1
 case normal=>
  subst h1;obtain⟨k',m,j1,j2⟩:=h2;obtain⟨g3,l1,l2,l3,_⟩:=E6 h3 h4 h5 k';have hR:R a' w' m:=⟨g3,s'.keep k',j2,l1,l2,l3⟩;exact⟨⟨_,hR⟩,Nat.lt_of_le_of_lt ((SE ⟨_,hR⟩).2 _ hR) j1⟩
 case exit id=>subst h1;exact⟨.exit id,g',s',rfl,h2,h3,h4,h5⟩
 case ret=>subst h1;exact⟨.ret,g',s',rfl,h2,h3,h4,h5⟩
 all_goals cases h1
theorem tH {P:Program}{c:Code}{s:St}{Q:Ex->St->Prop}{σ ρ:Type}{f:σ->Option (σ⊕ρ)}{x0:σ}{y:ρ}(hy:pY f x0=some y) (enc:σ->St) (k:v7) (h0:s.keep k=enc x0)
  (round: ∀x w n,f x=some w->Nxt f y n w->Ev R P c (enc x) (qL enc f y n Q)):Ev R P (.loop c) s Q:=by
 obtain⟨n,hn⟩:=SK hy;refine aIe (fun n s=> ∃x,s=enc x/\iter f n x=some y) ⟨k,n,x0,h0,hn⟩ fun n s ⟨x,e,hx⟩=> ?_;subst e;cases n with
 |zero=>cases hx
 |succ n=>
  unfold iter at hx;refine aH4 (Q':=qL enc f y n Q) ?_ (fun e s' hq=> ?_)
  ·split at hx
   ·cases hx
   ·rename_i x' e;exact round x _ n e hx
   ·rename_i r e;exact round x _ n e (aPS hx)
  ·cases e with
   |normal=>obtain⟨k,x',h1,h2⟩:=hq;exact⟨k,n,by omega,x',h1,h2⟩
   |exit j=>exact hq
   |ret=>exact hq
def qX (j:Nat) (X:St->Prop) (Q:Ex->St->Prop):Ex->St->Prop
 | .normal,s=>Q .normal s
 | .exit i,s=>if i=j then∃k:v7,X (s.keep k) else Q (.exit i) s
 | .ret,s=>Q .ret s
theorem tI {P:Program}{c:Code}{s:St}{Q:Ex->St->Prop}(j:Nat) (X:St->Prop) (h:Ev R P c s (qX j X Q)) (J: ∀s',X s'->Q (.exit j) s'):Ev R P c s Q:=by
 intro ro hro A L g0 w0 g a w B hB hr hg hn;refine aRF (h ro hro A L g0 w0 g a w B hB hr hg hn) fun x a' w' hp=> ?_;obtain⟨e,g',s',h1,h2,h3,h4,h5⟩:=hp;cases e with
 |normal=>exact⟨.normal,g',s',h1,h2,h3,h4,h5⟩
 |ret=>exact⟨.ret,g',s',h1,h2,h3,h4,h5⟩
 |exit i=>
  have h2:(if i=j then∃k:v7,X (s'.keep k) else Q (.exit i) s'):=h2;by_cases hij:i=j
  ·rw[if_pos hij] at h2;obtain⟨k,hk⟩:=h2;obtain⟨g1,k1,k2,k3,_⟩:=E6 h3 h4 h5 k;exact⟨.exit i,g1,s'.keep k,h1,by rw[hij];exact J _ hk,k1,k2,k3⟩
  ·rw[if_neg hij] at h2;exact⟨.exit i,g',s',h1,h2,h3,h4,h5⟩
section
variable {Q:Ex->St->Prop}{s:St}{j i:Nat}{X:St->Prop}{σ ρ:Type}{enc:σ->St}{f:σ->Option (σ⊕ρ)}{y:ρ}{n:Nat}
theorem uW (h:Q .ret s):qX j X Q .ret s:=h
theorem tJ (h: ∃k:v7,X (s.keep k)):qX j X Q (.exit j) s:=by show (if j=j then _ else _);rw[if_pos rfl];exact h
theorem sG (h: ∃(k:v7) (x:σ),s.keep k=enc x/\iter f n x=some y):qL enc f y n Q .normal s:=h
theorem tK (h:Q (.exit j) s):qL enc f y n Q (.exit j) s:=h
theorem uX (h:Q .ret s):qL enc f y n Q .ret s:=h
end
def qN (X:St->Prop) (Q:Ex->St->Prop):Ex->St->Prop
 | .normal,s=> ∃k:v7,X (s.keep k)
 | .exit j,s=>Q (.exit j) s
 | .ret,s=>Q .ret s
theorem yK {P:Program}{c:Code}{s:St}{Q:Ex->St->Prop}(X:St->Prop) (h:Ev R P c s (qN X Q)) (J: ∀s',X s'->Q .normal s'):Ev R P c s Q:=by
 intro ro hro A L g0 w0 g a w B hB hr hg hn;refine aRF (h ro hro A L g0 w0 g a w B hB hr hg hn) fun x a' w' hp=> ?_;obtain⟨e,g',s',h1,h2,h3,h4,h5⟩:=hp;cases e with
 |exit j=>exact⟨.exit j,g',s',h1,h2,h3,h4,h5⟩
 |ret=>exact⟨.ret,g',s',h1,h2,h3,h4,h5⟩
 |normal=>
  obtain⟨k,hk⟩:=h2;obtain⟨g1,k1,k2,k3,_⟩:=E6 h3 h4 h5 k;exact⟨.normal,g1,s'.keep k,h1,J _ hk,k1,k2,k3⟩
section
variable {Q:Ex->St->Prop}{s:St}{j:Nat}{X:St->Prop}
theorem sN (h: ∃k:v7,X (s.keep k)):qN X Q .normal s:=h
theorem Y7 (h:Q .ret s):qN X Q .ret s:=h
end
def val {ρ:Type}[Inhabited ρ] (x:Option ρ):ρ:=x.getD default
theorem B5 {ρ:Type}[Inhabited ρ] (x:ρ):val (some x)=x:=rfl
theorem qZ {ρ:Type}[Inhabited ρ] {x:Option ρ}{y:ρ}(h:x=some y):val x=y:=by rw[h];rfl
theorem q7 {ρ:Type}{x:Option ρ}{y:ρ}(h:x=some y):x.isSome=true:=by rw[h];rfl
theorem pF {ρ:Type}{c:Prop}[Decidable c] {x:Option ρ}{r:ρ}(h:(if c then x else none)=some r):c/\x=some r:=by
 by_cases hc:c
 ·rw[if_pos hc] at h;exact⟨hc,h⟩
 ·rw[if_neg hc] at h;cases h
theorem pC {σ ρ:Type}{x:Option σ}{k:σ->Option ρ}{r:ρ}(h:x.bind k=some r): ∃y,x=some y/\k y=some r:=by
 cases x with
 |none=>cases h
 |some y=>exact⟨y,rfl,h⟩
theorem aIf {ρ:Type}{b:Bool}{x y:ρ}{r:ρ}(h:(if b=true then x else y)=r) (hb:b=true):x=r:=by rw[if_pos hb] at h;exact h
theorem aIg {ρ:Type}{b:Bool}{x y:ρ}{r:ρ}(h:(if b=true then x else y)=r) (hb:b=false):y=r:=by rw[hb,if_neg (by decide)] at h;exact h
def s3 {σ ρ:Type}(x:Option (σ⊕ρ)) (k:σ->Option ρ):Option ρ:=x.bind fun y=>match y with
 | .inl v=>k v
 | .inr r=>some r
theorem u6 {σ ρ:Type}{x:Option (σ⊕ρ)}{k:σ->Option ρ}{r:ρ}(h:s3 x k=some r): ∃y,x=some y/\(match y with| .inl v=>k v| .inr r=>some r)=some r:=pC h
def rC {σ ρ:Type}(x:Option σ) (k:σ->Option ρ):Option ρ:=x.bind k
def Y8 {σ ρ:Type}(x:σ) (k:σ->ρ):ρ:=k x
theorem aIh {σ ρ:Type}{x:σ}{k:σ->ρ}{r:ρ}(h:Y8 x k=r): ∃y,x=y/\k y=r:=⟨x,rfl,h⟩
theorem rH {x:Bool}(h:x=true):(x==true)=true:=by rw[h];rfl
theorem KI {G x:Bool}(hG:G=true) (h:x=true):(G&&(x==true))=true:=by rw[hG,h];rfl
theorem E9 {G x:Bool}(hG:G=true) (h:x=false):(G&&(x==false))=true:=by rw[hG,h];rfl
theorem tP {x:Bool}(h:x=false):(x==false)=true:=by rw[h];rfl
section
variable {P:Program}{T:rU}{Γ:tO}(E:qG P T Γ) {s:St}{Q:Ex->St->Prop}
include E
theorem a9N {id:Nat}{ops:Array Oper}{a:vF}(h:vG T Γ ops.toList ops.toList (some ⟨s,[],[]⟩)=some a) (hp:qC a.side) (hq:Q .normal a.s):Ev R P (.region id ops false) s Q:=
 a9I E.T E.Γ E.m (aGe h hp hq)
theorem a9O {id:Nat}{ops:Array Oper}{a:vF}(h:vG T Γ ops.toList ops.toList (some ⟨s,[],[]⟩)=some a) (hf:CO ops s.nb a.es.reverse=true) (hp:qC a.side) (hq:Q .normal a.s):Ev R P (.region id ops true) s Q:=
 a9I E.T E.Γ E.m (aGf h hf hp hq)
end
end Go.Proofs.YtbbpilohihldiaaGreatDoor.Vc
namespace Go.Proofs.YtbbpilohihldiaaGreatDoor.Vc
open Go.RowKit
variable {R:Bool}
attribute [go_sem] Option.map_some Option.map_none
@[go_sem] theorem aOb {H:List (Nat×p9)}{ps:List PK}{b:List pB}{a:Option rX}:wG H ps ([]++b) a=wG H ps b a:=rfl
@[go_sem] theorem aOc {H:List (Nat×p9)}{ps:List PK}{x:pB}{l b:List pB}{a:Option rX}:wG H ps ((x::l)++b) a=wG H ps (x::(l++b)) a:=rfl
@[go_sem] def a9P:Option pB->Option (List pB)->Option (List pB)
 |some s,some l=>some (s::l)
 |_,_=>none
@[go_sem] def a9Q:Option pM->Option pB
 |some e=>some e.slot
 |none=>none
@[go_sem] def SL (H:List (Nat×p9)):Option TI->pB->Option pM
 |some ti,(.val .ref (some (i,off)),_)=>MS ti.ty i off (pD H i)
 |_,_=>none
@[go_sem] def NV (T:rU) (s:St) (m:List (Nat×Nat)):Nat×Option TypeId->Option pB
 |(t,none)=>some (yC m (lk s.env t))
 |(t,some ty)=>(a9Q (SL s.H (qK T ty) (lk s.env t))).map (yC m)
@[go_sem] def G3 (T:rU) (s:St) (m:List (Nat×Nat)):List (Nat×Option TypeId)->Option (List pB)
 |[]=>some []
 |q::r=>a9P (NV T s m q) (G3 T s m r)
def B6:Nat×Option TypeId->ResultVar
 |(t,none)=> .tmp t
 |(t,some ty)=> .cell t ty
@[go_sem] def BY:Nat->Nat->List (Nat×p9)->List (Nat×p9)
 |0,_,H=>H
 |n+1,i,[]=>(i,.dead)::BY n (i+1) []
 |n+1,i,(j,b)::H=>if j=i then(j,b)::BY n (i+1) H else(i,.dead)::BY n (i+1) ((j,b)::H)
theorem I5: ∀{n i:Nat}{H:List (Nat×p9)}{k:Nat}{b:p9},pD (BY n i H) k=some b->pD H k=some b\/b= .dead
 |0,_,_,_,_,h=> .inl h
 |n+1,i,[],k,b,h=>by
  simp only[BY,pD] at h;split at h
  ·exact .inr (aPS h).symm
  ·exact I5 h
 |n+1,i,(j,c)::H,k,b,h=>by
  unfold BY at h;split at h
  ·simp only[pD] at h⊢;split at h
   ·rename_i e;rw[if_pos e];exact .inl h
   ·rename_i e;rw[if_neg e];exact I5 h
  ·simp only[pD] at h;split at h
   ·exact .inr (aPS h).symm
   ·exact I5 h
theorem rL.pad {g:Gh}{w:World}{H:rD}(h:rL g w H) (n i:Nat):rL g w (BY n i H):=by
 have own: ∀{k blk b o},pD (BY n i H) k=some blk->rE g k blk b o->pD H k=some blk:=fun hg ho=>by
  rcases I5 hg with h1|h1
  ·exact h1
  ·subst h1;exact ho.elim
 refine⟨fun k b hb=> ?_,fun i j bi bj b o hij h1 h2 o1 o2=>h.dis i j bi bj b o hij (own h1 o1) (own h2 o2) o1 o2,h.sl,h.tab.1,fun k blk b o h1 h2=>h.tab.2 k blk b o (own h1 h2) h2⟩;rcases I5 hb with h1|h1
 ·exact h.blk k b h1
 ·subst h1;trivial
theorem s8.pad {A:Nat->Nat->Prop}{L:List p9}{g0 g:Gh}{w0 w:World}{H:rD}(h:s8 A L g0 w0 g w H) (n i:Nat):s8 A L g0 w0 g w (BY n i H):=by
 refine⟨h.shut,h.fr,fun k blk b o hg ho=> ?_,h.J,h.live,fun k u y us hk hg=> ?_,h.cur⟩
 ·rcases I5 hg with h1|h1
  ·exact h.perm k blk b o h1 ho
  ·subst h1;exact ho.elim
 ·rcases I5 hg with h1|h1
  ·exact h.ty k u y us hk h1
  ·cases h1
def a9R (T:rU) (ts:List (Nat×Option TypeId)) (r:pH):Ex->St->Prop
 | .exit _,_=>False
 |_,s=> ∃m:List (Nat×Nat),wJ s.np m=true/\BY (pV r.H) 0 (s.keep ⟨[],m⟩).H=pN 0 r.H/\G3 T s m ts=some r.ret
section
variable {P:Program}{o:Oper}{a:Act}{g:Gh}{w:World}{H:rD}{T:rU}(hT:w8 P T) (hH:rL g w H)
include hT hH
theorem aIi {t:TypeId}{vx:Value}{sx:pB}(hx:qH g w sx vx) {e:pM}(hr:SL H (qK T t) sx=some e): ∃ad v,vx= .pointer (some ad)/\(loadVar t ad).run P w= .ok v w/\qH g w e.slot v:=by
 generalize hs:qK T t=ot at hr;replace hx:=hx.1;unfold SL at hr;split at hr
 ·rename_i ti i off k;have hty:=s7 hT hs;generalize hb:pD H i=ob at hr;unfold MS at hr;split at hr
  ·rename_i u z toks;generalize hga:pW ti.ty u z off=oy at hr;cases oy with
   |none=>cases hr
   |some y=>
    cases hr;obtain⟨p,hp,hv⟩:=yX hx;obtain⟨p',cs,hp',hR,hra,_,_,htk⟩:=hH.blk i _ hb;rw[hp] at hp';obtain rfl:=aPS hp';obtain⟨c1,c2,c3,rfl,rfl,hR2⟩:=CP hR hga;obtain⟨v,h1,h2,h3⟩:=RN hT hH hty (NC hT hH hra) hR2;refine⟨_,v,hv,by simpa[Instr.loadAt,Instr.sureAddr] using h1,h2,?_⟩;obtain⟨ty,el,by',ar,ls⟩:=ti;cases ty with
    |list u'=>
     simp only[DP];generalize htt:w5 toks c1.length=ok;cases ok with
     |none=>trivial
     |some k=>
      obtain⟨u2,l,v',g1,g2,g3⟩:=htk _ _ (WP hT hH htt);obtain⟨heq,hl⟩:=a7T hT hH g1 hga rfl;injection heq with heq'
      subst heq';have hlen:=rW hR2;obtain⟨v2,rfl⟩:=aQ9.1 hlen;have e2:v'=v2:=by
       have e:(c1++[v2]++c3)[c1.length]? =some v2:=by simp
       rw[e] at g2;exact(aPS g2).symm
      have e3:v=v2:=by
       have h4:=AI rfl h2;have hone:=zN h4 v (by simp);have:v.cells= #[v]:=by cases v<;>first|rfl|(simp [Value.oneCell'] at hone)
       rw[this] at h3;simpa using h3
      subst e2;subst e3;have e4:(y:List u'.den)=l:=hl;subst e4;exact g3
    |_=>trivial
  ·cases hr
 ·cases hr
end
def I6 (tmps:Array Value) (q:Nat×Option TypeId):Sem Value:=match B6 q with
 | .tmp t=>pure (tmps.getD t undef)
 | .cell a t=>do loadVar t (<-asAddr (tmps.getD a undef))
theorem a9S {P:Program}{T:rU}(hT:w8 P T) {B:Nat}{g:Gh}{w:World}{s:St}{a:Act}{m:List (Nat×Nat)}(hk:wJ s.np m=true) (hr:tY B g w s a): ∀{ts:List (Nat×Option TypeId)}{l:List pB},G3 T s m ts=some l->
  ∃vs:List Value,(ts.mapM (I6 a.tmps)).run P w= .ok vs w/\uL (tC g s.np m) w l vs
 |[],l,h=>by
  simp only[G3,aPN] at h;subst h;exact⟨[],by simp,rfl⟩
 |q::ts,l,h=>by
  simp only[G3] at h;obtain⟨s1,l1,e1,e2,rfl⟩: ∃s1 l1,NV T s m q=some s1/\G3 T s m ts=some l1/\l=s1::l1:=by
   cases h1:NV T s m q<;>cases h2:G3 T s m ts<;>rw[h1,h2] at h<;>simp [a9P] at h
   exact⟨_,_,rfl,rfl,h.symm⟩
  obtain⟨vs,v1,v2⟩:=a9S hT hk hr e2;obtain⟨v,w1,w2⟩: ∃v,(I6 a.tmps q).run P w= .ok v w/\qH (tC g s.np m) w s1 v:=by
   obtain⟨t,oty⟩:=q;cases oty with
   |none=>
    simp only[NV,aPN] at e1;subst e1;exact⟨_,by simp [I6,B6],SA hk (hr.env t)⟩
   |some ty=>
    simp only[NV] at e1;cases he:SL s.H (qK T ty) (lk s.env t) with
    |none=>rw[he] at e1;cases e1
    |some e=>
     rw[he] at e1;simp only[a9Q,Option.map_some,aPN] at e1;subst e1;obtain⟨ad,v,hv,hl,hs⟩:=aIi hT hr.heap (hr.env t) he;exact⟨v,by simp only[I6,B6,hv,asAddr,aP4,aQd,aPV,hl],SA hk hs⟩
  exact⟨v::vs,by simp only[List.mapM_cons,aP4,w1,aPV,v1,aQd],v,vs,rfl,w2,v2⟩
def KJ (tmps:Array Value):ResultVar->Sem Value
 | .tmp t=>pure (tmps.getD t undef)
 | .cell a t=>do loadVar t (<-asAddr (tmps.getD a undef))
theorem aIj {P:Program}{fn:Func}{w:World}{tmps:Array Value}{ts:List (Nat×Option TypeId)}(h:fn.results.toList=ts.map B6) {vs:List Value}(hv:(ts.mapM (I6 tmps)).run P w= .ok vs w):(results fn tmps).run P w= .ok (XZ vs) w:=by
 obtain⟨rs,hrs⟩: ∃rs,fn.results=⟨rs⟩:=⟨fn.results.toList,rfl⟩;have hm:rs=ts.map B6:=by rw[hrs] at h;exact h
 have key:Sem.run P (((ts.map B6).toArray).mapM (KJ tmps)) w=Result.ok vs.toArray w:=by
  rw[List.mapM_toArray,List.mapM_map];have e:KJ tmps∘B6=I6 tmps:=by
   funext q;obtain⟨t,o⟩:=q;cases o<;>rfl
  have e2:(fun q=>KJ tmps (B6 q))=I6 tmps:=e;show Sem.run P (List.mapM (fun q=>KJ tmps (B6 q)) ts>>=fun l=>pure l.toArray) w=_;rw[e2,aP4,hv];rfl
 have hu:results fn tmps=(fn.results.mapM (KJ tmps) >>=fun vs=>pure (if h:vs.size=1 then vs[0] else .tuple vs)):=by
  unfold results;congr 2
 rw[hu,hrs,hm,aP4];have key2:Sem.run P (Array.mapM (KJ tmps) (⟨ts.map B6⟩:Array ResultVar)) w=Result.ok vs.toArray w:=key;rw[key2];simp only[aPV,aQd]
 match vs with
 |[]=>rfl
 |[v]=>rfl
 |v::u::l=>simp [XZ]
theorem aIk {P:Program}{T:rU}(hT:w8 P T) {f:FuncId}{fn:Func}{c:Code}{C:List pB->List p9->Option pH}{ts:List (Nat×Option TypeId)}(hf:P.funcs[f]? =some fn) (hb:fn.body=some c) {N:Nat}(hN:fn.ntmps=N)
  (hcall: ∀args w,(callFunc f args).run P w= .ok (.enter f args) w) (hres:fn.results.toList=ts.map B6)
  (h: ∀args L r,C args L=some r->(∀p∈r.side,p)->qM L->args.length<=N/\NP (uN 0 L) args/\NQ (uN 0 L) L/\Ev false P c ⟨qJ 0 args,pN 0 L,pV L,N,pV L⟩ (a9R T ts r)):yH P f C:=by
 subst hN;refine⟨hcall,fun g w args vals L r hH ha hC hs=> ?_⟩;obtain⟨h1,h2,h3,h4⟩:=h args L r hC hs (a9B fun i b hb=>⟨i,hH.blk i b (by rw[wS];exact hb)⟩);obtain⟨hr,hent⟩:=aH2 hH ha h2 h3 h1;have hsub: ∀b o,xZ (tC g 0 (uN 0 L)) (pN 0 L) b o->xZ g (pN 0 L) b o:=fun b o ⟨i,blk,hg,ho⟩=>⟨i,blk,hg,(hent i blk (by rw[<-wS];exact hg)).2.2 b o ho⟩;have hgood:s8 (xZ (tC g 0 (uN 0 L)) (pN 0 L)) L (tC g 0 (uN 0 L)) w (tC g 0 (uN 0 L)) w (pN 0 L):=by
  refine⟨fun b o h=>⟨h,rfl⟩,Fr.refl _ _ _,fun i blk b o hg ho=> .inr ⟨i,blk,hg,ho⟩,fun _ _ _ h=>h,fun i hi=> ?_,fun i u y us _ hg=>⟨y,us,by rw[<-wS];exact hg⟩,fun _ _ _ _ h=>h⟩;have hL:L[i]? =some L[i]:=by simp
  obtain⟨_,hbk,_⟩:=hent i L[i] hL;have hnd:=(I4 h3 L[i] (aQC hi)).2;generalize L[i]=blk at hbk hnd;cases blk with
  |cells t x ts=>obtain⟨p,cs,hp,_⟩:=hbk;exact .inl ⟨p,hp⟩
  |grow e c n=>obtain⟨v,xs,hv,_⟩:=hbk;exact .inr ⟨n,v,hv⟩
  |row e t l n=>obtain⟨_,v,xs,hv,_⟩:=hbk;exact .inr ⟨n,v,hv⟩
  |map k v l=>obtain⟨p,es,cl,hp,_⟩:=hbk;exact .inl ⟨p,hp⟩
  |iter s n=>obtain⟨p,hp,_⟩:=hbk;exact .inl ⟨p,hp⟩
  |dead=>exact absurd rfl hnd
 refine callsIn_wide.1 (callsIn_of_wp_marks (F:=Fence.wide) (n:=0) hf hb trivial (aRF (h4 none rfl _ _ _ _ _ _ _ _ (Nat.le_refl _) hr hgood (SH L)) fun x a' w' hp=> ?_) rfl);obtain⟨e,g',s',e1,e2,e3,e4,e5⟩:=hp;have vY: ∀m:List (Nat×Nat),wJ s'.np m=true->BY (pV r.H) 0 (s'.keep ⟨[],m⟩).H=pN 0 r.H->G3 T s' m ts=some r.ret->LeavesInM Fence.wide 0 P fn a'.tmps (fun e w'=> ∃v' g',e= .returned v'/\HZ g w L r g' w' v') a'.defers .returning w':=by
  intro m hk k1 k2;refine a9H a'.defers w' e3 e4 (fun w1 e3 e4=> ?_);obtain⟨l1,l2,l3,_⟩:=XL e3 e4 e5 ⟨[],m⟩ hk;replace l2:=l2.pad (pV r.H) 0;rw[k1] at l2;obtain⟨vs,q1,q2⟩:=a9S hT hk e3 k2;have q3:=aIj (P:=P) (w:=w1) (tmps:=a'.tmps) hres q1;refine⟨_,q3,_,_,rfl,⟨fun b o hb=>l2.shut b o hb,by rw[<-k1];exact l1.heap.pad _ _,?_,?_,fun i blk b o hi ho=> ?_,fun i t x us hi=> ?_,fun i t x us u y vs hi hr=> ?_,fun i p hi hp=>l2.J i p hi ((yY SF (KH.2 ⟨rfl,aQI _,by omega⟩)).1.trans hp),fun i n u hi hu=>l2.cur i n u hi ((congrFun (yY SF (KH.2 ⟨rfl,aQI _,by omega⟩)).2 n).trans hu)⟩⟩
  ·unfold NH;split
   ·rename_i s hs;rw[hs] at q2;obtain⟨v,vs',hv,h5,h6⟩:=q2;rw[hv,show vs'=[] from h6];exact h5
   ·rename_i hne;refine⟨_,?_,q2⟩;unfold XZ;split
    ·rename_i v hv;exfalso;have:=(SG q2).1;cases hq:r.ret with
     |nil=>rw[hq] at this;simp at this
     |cons s l=>cases l with
      |nil=>exact hne s hq
      |cons _ _=>rw[hq] at this;simp at this
    ·rfl
  ·exact⟨l2.fr.os,l2.fr.tape,l2.fr.output,l2.fr.size,fun b hb hA=>l2.fr.blk b hb (fun o ho=>hA o (hsub b o ho)),fun b o hb hA=>l2.fr.cell b o hb (fun ho=>hA (hsub b o ho)),fun b o hS=>(l2.fr.new b o hS).imp id (Or.imp id (hsub b o)),fun b s hs=>(l2.fr.shape b s hs).imp id fun h o=>hsub b o (h o)⟩
  ·exact(l2.perm i blk b o (by rw[wS];exact hi) ho).imp id (hsub b o)
  ·obtain⟨j1,⟨p,cs,j2,_⟩,_⟩:=hent i _ hi;have hil:i<L.length:=(aP0.1 hi).1;rw[l2.J i p hil j2,<-j1,j2]
  ·have hil:i<L.length:=(aP0.1 hi).1;obtain⟨x',ts',h5⟩:=l2.ty i u y vs hil (by rw[wS];exact hr);rw[hi] at h5;simp only[aPN,p9.cells.injEq] at h5;exact h5.1.symm
 cases x<;>simp only[CU,aPN] at e1
 case normal=>subst e1;obtain⟨k,k0,k1,k2⟩:=e2;exact vY k k0 k1 k2
 case ret=>subst e1;obtain⟨k,k0,k1,k2⟩:=e2;exact vY k k0 k1 k2
 case exit id=>subst e1;exact e2.elim
 all_goals cases e1
open Classical in
noncomputable def qO {V:Type}(p:V->List pB) (q:V->List p9) (R:V->pH) (a:List pB) (L:List p9):Option pH:=
 if h: ∃v,p v=a/\q v=L then some (R h.choose) else none
theorem aIl {V:Type}{p:V->List pB}{q:V->List p9}{R:V->pH}{a:List pB}{L:List p9}{r:pH}(h:qO p q R a L=some r): ∃v,p v=a/\q v=L/\R v=r:=by
 unfold qO at h;split at h
 ·rename_i e;exact⟨e.choose,e.choose_spec.1,e.choose_spec.2,aPS h⟩
 ·cases h
theorem qQ {V:Type}{p:V->List pB}{q:V->List p9}{R:V->pH}(inj: ∀v v',p v=p v'->q v=q v'->v=v') (v:V):qO p q R (p v) (q v)=some (R v):=by
 have h: ∃u,p u=p v/\q u=q v:=⟨v,rfl,rfl⟩;unfold qO;rw[aR0 h,inj _ v h.choose_spec.1 h.choose_spec.2]
theorem a9T: ∀{l:List Prop},(∀p∈l,p)->qC l
 |[],_=>trivial
 |[p],h=>h p (by simp)
 |p::q::r,h=>⟨h p (by simp),a9T (l:=q::r) fun x hx=>h x (aP1 _ hx)⟩
def qE (P:Program) (x:Nat×pX):Prop:=yH P x.1 x.2.C/\∀F,x.2.row=some F->RU P x.1 F
theorem qR {P:Program}{T:rU}{Γ:tO}(hE:qG P T Γ) {f:FuncId}{fn:Func}{c:Code}{V:Type}{p:V->List pB}{q:V->List p9}{R:V->pH}{ps:List PK}{gs:List (Nat×Nat×PK)}{same:List Nat}{ts:List (Nat×Option TypeId)}(hf:P.funcs[f]? =some fn) (hb:fn.body=some c) {N:Nat}(hN:fn.ntmps=N)
  (hres:fn.results.toList=ts.map B6) (hcall: ∀args w,(callFunc f args).run P w= .ok (.enter f args) w)
  (h: ∀v,qC (R v).side->qM (q v)->Ev false P c ⟨qJ 0 (p v),pN 0 (q v),pV (q v),N,pV (q v)⟩ (a9R T ts (R v)))
  (h1: ∀v,Nat.ble (p v).length N=true:=by intro _;rfl)
  (h2: ∀v,NP (uN 0 (q v)) (p v):=by intro _;repeat (first|exact trivial|refine ⟨rfl,?_⟩))
  (h3: ∀v,NQ (uN 0 (q v)) (q v):=by intro _;repeat (first|exact trivial|refine ⟨rfl,?_⟩)):qE P (f,⟨ps,qO p q R,gs,same,none⟩):=
 ⟨aIk hE.T hf hb hN hcall hres fun args L r hC hs hr=>by
  obtain⟨v,rfl,rfl,rfl⟩:=aIl hC;exact⟨aQ0 (h1 v),h2 v,h3 v,h v (a9T hs) hr⟩,fun _ h=>by cases h⟩
abbrev pA (n:Int):Prop:= -9223372036854775808<=n/\n<=9223372036854775807
@[go_sem] def qD:List (Nat×pX)->tO
 |[],_=>none
 |(k,s)::r,f=>if k=f then some s else qD r f
theorem qP {P:Program}:BW P (qD []):=fun _ _ h=>by cases h
theorem pO {P:Program}{x:Nat×pX}{r:List (Nat×pX)}(h:qE P x) (hr:BW P (qD r)):BW P (qD (x::r)):=fun f s hs=>by
 obtain⟨k,y⟩:=x;simp only[qD] at hs;split at hs
 ·rename_i e;subst e;cases hs;exact h
 ·exact hr f s hs
section
variable {P:Program}{T:rU}{Γ:tO}(E:qG P T Γ) {s:St}{Q:Ex->St->Prop}
include E
theorem p8 {id:Nat}{ops:Array Oper}{a:vF}{y:Code}(hq:Ev R P y a.s Q) (h:vG T Γ ops.toList ops.toList (some ⟨s,[],[]⟩)=some a:=by simp only[go_sem];rfl) (hp:qC a.side:=by exact trivial):Ev R P (.seq (.region id ops false) y) s Q:=
 pL (a9N E h hp hq)
theorem uO {id:Nat}{ops:Array Oper}{a:vF}{y:Code}(hq:Ev R P y a.s Q) (h:vG T Γ ops.toList ops.toList (some ⟨s,[],[]⟩)=some a:=by simp only[go_sem];rfl) (hp:qC a.side:=by exact trivial) (hf:CO ops s.nb a.es.reverse=true:=by kernel_rfl):Ev R P (.seq (.region id ops true) y) s Q:=
 pL (a9O E h hf hp hq)
theorem qY {id:Nat}{ops:Array Oper}{a:vF}(hq:Q .normal a.s) (h:vG T Γ ops.toList ops.toList (some ⟨s,[],[]⟩)=some a:=by simp only[go_sem];rfl) (hp:qC a.side:=by exact trivial):Ev R P (.region id ops false) s Q:=
 a9N E h hp hq
theorem BZ {id:Nat}{ops:Array Oper}{a:vF}(hq:Q .normal a.s) (h:vG T Γ ops.toList ops.toList (some ⟨s,[],[]⟩)=some a:=by simp only[go_sem];rfl) (hp:qC a.side:=by exact trivial) (hf:CO ops s.nb a.es.reverse=true:=by kernel_rfl):Ev R P (.region id ops true) s Q:=
 a9O E h hf hp hq
end
theorem pJ {P:Program}{s:St}{Q:Ex->St->Prop}{c:Operand}{x y:Code}{b b':Bool}{k:Option Nat}{ρ:Type}{X Y r:ρ}(hC:(if b'=true then X else Y)=r) (ht:X=r->b=true->Ev R P x s Q) (hf:Y=r->b=false->Ev R P y s Q)
  (h:sO s.env c=(.val .bool b,k):=by simp only[go_sem];rfl) (hb:b=b':=by first|rfl|simp):Ev R P (.cond c x y) s Q:=
 aH5 h (fun e=>ht (aIf hC (hb▸e)) e) (fun e=>hf (aIg hC (hb▸e)) e)
theorem q8 {σ ρ:Type}[Inhabited σ] {x:Option σ}{k:σ->Option ρ}{r:ρ}(h:x.bind k=some r): ∃y,x=some y/\val x=y/\k y=some r:=by
 obtain⟨y,h1,h2⟩:=pC h;exact⟨y,h1,qZ h1,h2⟩
attribute [go_sem] true_and and_true false_and and_false Nat.reduceMul List.nil_append List.cons_append List.append_nil List.toList_toArray Nat.reduceEqDiff reduceIte reduceDIte reduceCtorEq Nat.reduceAdd Nat.reduceSub Int.reduceToNat Nat.reduceLT Nat.reduceLeDiff decide_true decide_false Bool.and_self Bool.or_self Bool.or_false Bool.false_or Bool.and_true Bool.true_and Bool.not_true Bool.not_false
end Go.Proofs.YtbbpilohihldiaaGreatDoor.Vc
namespace Go.Proofs
open Go.RowKit Go.Lib
def Tryz.lays137_ren:Go.Shelf.Ren:=⟨fun|137=>135|217=>182|266=>222|n=>n,fun|9=>9|5=>5|3=>3|n=>n,fun|n=>n⟩
theorem Tryz.lays137:Go.Proofs.Lays.n137 Tryz.prog Tryz.lays137_ren:={
 mixed:=by kernel_rfl
 f137:=Tryz.func135.trans (aQk some (by kernel_rfl))
 f217:=Tryz.func182.trans (aQk some (by kernel_rfl))
 f266:=Tryz.func222.trans (aQk some (by kernel_rfl))
 t3:=Tryz.underlying3
 a3:=Tryz.isAgg3
 z3:=Tryz.sizeOf3
 v3:=Tryz.zeroValue3
 t5:=Tryz.underlying5
 a5:=Tryz.isAgg5
 z5:=Tryz.sizeOf5
 v5:=Tryz.zeroValue5
 t9:=Tryz.underlying9
 a9:=Tryz.isAgg9
 z9:=Tryz.sizeOf9
 v9:=Tryz.zeroValue9}
def Tryz.lays161_ren:Go.Shelf.Ren:=⟨fun|161=>97|231=>142|227=>143|233=>144|235=>145|228=>187|197=>188|151=>189|260=>223|152=>224|137=>135|119=>260|224=>249|225=>248|217=>182|266=>222|n=>n,fun|9=>9|4=>4|3=>3|5=>5|117=>179|116=>178|0=>0|124=>182|105=>214|21=>21|119=>254|46=>219|139=>257|138=>256|n=>n,fun|3=>1|4=>2|n=>n⟩
theorem Tryz.lays161:Go.Proofs.Lays.n161 Tryz.prog Tryz.lays161_ren:={
 mixed:=by kernel_rfl
 f119:=Tryz.func260.trans (aQk some (by kernel_rfl))
 f137:=Tryz.func135.trans (aQk some (by kernel_rfl))
 f151:=Tryz.func189.trans (aQk some (by kernel_rfl))
 f152:=Tryz.func224.trans (aQk some (by kernel_rfl))
 f161:=Tryz.func97.trans (aQk some (by kernel_rfl))
 f197:=Tryz.func188.trans (aQk some (by kernel_rfl))
 f217:=Tryz.func182.trans (aQk some (by kernel_rfl))
 f224:=Tryz.func249.trans (aQk some (by kernel_rfl))
 f225:=Tryz.func248.trans (aQk some (by kernel_rfl))
 f227:=Tryz.func143.trans (aQk some (by kernel_rfl))
 f228:=Tryz.func187.trans (aQk some (by kernel_rfl))
 f231:=Tryz.func142.trans (aQk some (by kernel_rfl))
 f233:=Tryz.func144.trans (aQk some (by kernel_rfl))
 f235:=Tryz.func145.trans (aQk some (by kernel_rfl))
 f260:=Tryz.func223.trans (aQk some (by kernel_rfl))
 f266:=Tryz.func222.trans (aQk some (by kernel_rfl))
 t0:=Tryz.underlying0
 a0:=Tryz.isAgg0
 z0:=Tryz.sizeOf0
 v0:=Tryz.zeroValue0
 t3:=Tryz.underlying3
 a3:=Tryz.isAgg3
 z3:=Tryz.sizeOf3
 v3:=Tryz.zeroValue3
 t4:=Tryz.underlying4
 a4:=Tryz.isAgg4
 z4:=Tryz.sizeOf4
 v4:=Tryz.zeroValue4
 t5:=Tryz.underlying5
 a5:=Tryz.isAgg5
 z5:=Tryz.sizeOf5
 v5:=Tryz.zeroValue5
 t9:=Tryz.underlying9
 a9:=Tryz.isAgg9
 z9:=Tryz.sizeOf9
 v9:=Tryz.zeroValue9
 t21:=Tryz.underlying21
 a21:=Tryz.isAgg21
 z21:=Tryz.sizeOf21
 v21:=Tryz.zeroValue21
 t46:=Tryz.underlying219
 a46:=Tryz.isAgg219
 z46:=Tryz.sizeOf219
 v46:=Tryz.zeroValue219
 t105:=Tryz.underlying214
 a105:=Tryz.isAgg214
 z105:=Tryz.sizeOf214
 v105:=Tryz.zeroValue214
 t116:=Tryz.underlying178
 a116:=Tryz.isAgg178
 z116:=Tryz.sizeOf178
 t117:=Tryz.underlying179
 a117:=Tryz.isAgg179
 z117:=Tryz.sizeOf179
 v117:=Tryz.zeroValue179
 t119:=Tryz.underlying254
 a119:=Tryz.isAgg254
 z119:=Tryz.sizeOf254
 t124:=Tryz.underlying182
 a124:=Tryz.isAgg182
 z124:=Tryz.sizeOf182
 v124:=Tryz.zeroValue182
 t138:=Tryz.underlying256
 a138:=Tryz.isAgg256
 z138:=Tryz.sizeOf256
 v138:=Tryz.zeroValue256
 t139:=Tryz.underlying257
 a139:=Tryz.isAgg257
 z139:=Tryz.sizeOf257
 v139:=Tryz.zeroValue257
 g3:=by kernel_rfl
 g4:=by kernel_rfl}
def Tryz.lays190_ren:Go.Shelf.Ren:=⟨fun|190=>147|125=>192|258=>191|128=>234|129=>235|302=>225|303=>226|304=>227|305=>228|306=>229|307=>230|308=>231|309=>232|310=>233|333=>261|329=>262|330=>263|334=>264|335=>265|336=>266|344=>279|n=>n,fun|31=>23|9=>9|3=>3|46=>219|0=>0|51=>241|53=>243|4=>4|183=>235|182=>234|131=>57|5=>5|218=>258|222=>262|228=>272|229=>224|n=>n,fun|n=>n⟩
theorem Tryz.lays190:Go.Proofs.Lays.n190 Tryz.prog Tryz.lays190_ren:={
 mixed:=by kernel_rfl
 f125:=Tryz.func192.trans (aQk some (by kernel_rfl))
 f128:=Tryz.func234.trans (aQk some (by kernel_rfl))
 f129:=Tryz.func235.trans (aQk some (by kernel_rfl))
 f190:=Tryz.func147.trans (aQk some (by kernel_rfl))
 f258:=Tryz.func191.trans (aQk some (by kernel_rfl))
 f302:=Tryz.func225.trans (aQk some (by kernel_rfl))
 f303:=Tryz.func226.trans (aQk some (by kernel_rfl))
 f304:=Tryz.func227.trans (aQk some (by kernel_rfl))
 f305:=Tryz.func228.trans (aQk some (by kernel_rfl))
 f306:=Tryz.func229.trans (aQk some (by kernel_rfl))
 f307:=Tryz.func230.trans (aQk some (by kernel_rfl))
 f308:=Tryz.func231.trans (aQk some (by kernel_rfl))
 f309:=Tryz.func232.trans (aQk some (by kernel_rfl))
 f310:=Tryz.func233.trans (aQk some (by kernel_rfl))
 f329:=Tryz.func262.trans (aQk some (by kernel_rfl))
 f330:=Tryz.func263.trans (aQk some (by kernel_rfl))
 f333:=Tryz.func261.trans (aQk some (by kernel_rfl))
 f334:=Tryz.func264.trans (aQk some (by kernel_rfl))
 f335:=Tryz.func265.trans (aQk some (by kernel_rfl))
 f336:=Tryz.func266.trans (aQk some (by kernel_rfl))
 f344:=Tryz.func279.trans (aQk some (by kernel_rfl))
 t0:=Tryz.underlying0
 a0:=Tryz.isAgg0
 z0:=Tryz.sizeOf0
 v0:=Tryz.zeroValue0
 t3:=Tryz.underlying3
 a3:=Tryz.isAgg3
 z3:=Tryz.sizeOf3
 v3:=Tryz.zeroValue3
 t4:=Tryz.underlying4
 a4:=Tryz.isAgg4
 z4:=Tryz.sizeOf4
 v4:=Tryz.zeroValue4
 t5:=Tryz.underlying5
 a5:=Tryz.isAgg5
 z5:=Tryz.sizeOf5
 v5:=Tryz.zeroValue5
 t9:=Tryz.underlying9
 a9:=Tryz.isAgg9
 z9:=Tryz.sizeOf9
 v9:=Tryz.zeroValue9
 t31:=Tryz.underlying23
 a31:=Tryz.isAgg23
 z31:=Tryz.sizeOf23
 v31:=Tryz.zeroValue23
 t46:=Tryz.underlying219
 a46:=Tryz.isAgg219
 z46:=Tryz.sizeOf219
 v46:=Tryz.zeroValue219
 t51:=Tryz.underlying241
 a51:=Tryz.isAgg241
 z51:=Tryz.sizeOf241
 v51:=Tryz.zeroValue241
 t53:=Tryz.underlying243
 a53:=Tryz.isAgg243
 z53:=Tryz.sizeOf243
 v53:=Tryz.zeroValue243
 t131:=Tryz.underlying57
 a131:=Tryz.isAgg57
 z131:=Tryz.sizeOf57
 v131:=Tryz.zeroValue57
 t182:=Tryz.underlying234
 a182:=Tryz.isAgg234
 z182:=Tryz.sizeOf234
 v182:=Tryz.zeroValue234
 t183:=Tryz.underlying235
 a183:=Tryz.isAgg235
 z183:=Tryz.sizeOf235
 v183:=Tryz.zeroValue235
 t218:=Tryz.underlying258
 a218:=Tryz.isAgg258
 z218:=Tryz.sizeOf258
 v218:=Tryz.zeroValue258
 t222:=Tryz.underlying262
 a222:=Tryz.isAgg262
 z222:=Tryz.sizeOf262
 v222:=Tryz.zeroValue262
 t228:=Tryz.underlying272
 a228:=Tryz.isAgg272
 z228:=Tryz.sizeOf272
 v228:=Tryz.zeroValue272
 t229:=Tryz.underlying224
 a229:=Tryz.isAgg224
 z229:=Tryz.sizeOf224
 v229:=Tryz.zeroValue224}
def Tryz.lays196_ren:Go.Shelf.Ren:=⟨fun|196=>243|259=>271|n=>n,fun|0=>0|3=>3|4=>4|5=>5|9=>9|12=>12|46=>219|53=>243|119=>254|138=>256|139=>257|n=>n,fun|3=>1|4=>2|n=>n⟩
theorem Tryz.lays196:Go.Proofs.Lays.n196 Tryz.prog Tryz.lays196_ren:={
 mixed:=by kernel_rfl
 f196:=Tryz.func243.trans (aQk some (by kernel_rfl))
 f259:=Tryz.func271.trans (aQk some (by kernel_rfl))
 t0:=Tryz.underlying0
 a0:=Tryz.isAgg0
 z0:=Tryz.sizeOf0
 v0:=Tryz.zeroValue0
 t3:=Tryz.underlying3
 a3:=Tryz.isAgg3
 z3:=Tryz.sizeOf3
 v3:=Tryz.zeroValue3
 t4:=Tryz.underlying4
 a4:=Tryz.isAgg4
 z4:=Tryz.sizeOf4
 v4:=Tryz.zeroValue4
 t5:=Tryz.underlying5
 a5:=Tryz.isAgg5
 z5:=Tryz.sizeOf5
 v5:=Tryz.zeroValue5
 t9:=Tryz.underlying9
 a9:=Tryz.isAgg9
 z9:=Tryz.sizeOf9
 v9:=Tryz.zeroValue9
 t12:=Tryz.underlying12
 a12:=Tryz.isAgg12
 z12:=Tryz.sizeOf12
 v12:=Tryz.zeroValue12
 t46:=Tryz.underlying219
 a46:=Tryz.isAgg219
 z46:=Tryz.sizeOf219
 v46:=Tryz.zeroValue219
 t53:=Tryz.underlying243
 a53:=Tryz.isAgg243
 z53:=Tryz.sizeOf243
 v53:=Tryz.zeroValue243
 t119:=Tryz.underlying254
 a119:=Tryz.isAgg254
 z119:=Tryz.sizeOf254
 t138:=Tryz.underlying256
 a138:=Tryz.isAgg256
 z138:=Tryz.sizeOf256
 v138:=Tryz.zeroValue256
 t139:=Tryz.underlying257
 a139:=Tryz.isAgg257
 z139:=Tryz.sizeOf257
 v139:=Tryz.zeroValue257
 g3:=by kernel_rfl
 g4:=by kernel_rfl}
def Tryz.lays240_ren:Go.Shelf.Ren:=⟨fun|240=>93|276=>133|n=>n,fun|0=>0|4=>4|9=>9|20=>20|70=>82|72=>84|164=>168|37=>42|n=>n,fun|n=>n⟩
theorem Tryz.lays240:Go.Proofs.Lays.n240 Tryz.prog Tryz.lays240_ren:={
 mixed:=by kernel_rfl
 f240:=Tryz.func93.trans (aQk some (by kernel_rfl))
 f276:=Tryz.func133.trans (aQk some (by kernel_rfl))
 t0:=Tryz.underlying0
 a0:=Tryz.isAgg0
 z0:=Tryz.sizeOf0
 v0:=Tryz.zeroValue0
 t4:=Tryz.underlying4
 a4:=Tryz.isAgg4
 z4:=Tryz.sizeOf4
 v4:=Tryz.zeroValue4
 t9:=Tryz.underlying9
 a9:=Tryz.isAgg9
 z9:=Tryz.sizeOf9
 v9:=Tryz.zeroValue9
 t20:=Tryz.underlying20
 a20:=Tryz.isAgg20
 z20:=Tryz.sizeOf20
 v20:=Tryz.zeroValue20
 t70:=Tryz.underlying82
 a70:=Tryz.isAgg82
 z70:=Tryz.sizeOf82
 v70:=Tryz.zeroValue82
 t72:=Tryz.underlying84
 a72:=Tryz.isAgg84
 z72:=Tryz.sizeOf84
 v72:=Tryz.zeroValue84
 t164:=Tryz.underlying168
 a164:=Tryz.isAgg168
 z164:=Tryz.sizeOf168
 v164:=Tryz.zeroValue168}
theorem Tryz.builderX72:Builder.X72 Tryz.prog Tryz.lays240_ren:={
 sizeBuilder:=by kernel_rfl
 liesBuilder:=by kernel_rfl}
def Tryz.lays169_ren:Go.Shelf.Ren:=⟨fun|169=>54|n=>n,fun|70=>82|9=>9|0=>0|72=>84|37=>42|127=>125|3=>3|5=>5|n=>n,fun|n=>n⟩
theorem Tryz.lays169:Go.Proofs.Lays.n169 Tryz.prog Tryz.lays169_ren:={
 mixed:=by kernel_rfl
 f169:=Tryz.func54.trans (aQk some (by kernel_rfl))
 t0:=Tryz.underlying0
 a0:=Tryz.isAgg0
 z0:=Tryz.sizeOf0
 v0:=Tryz.zeroValue0
 t3:=Tryz.underlying3
 a3:=Tryz.isAgg3
 z3:=Tryz.sizeOf3
 v3:=Tryz.zeroValue3
 t9:=Tryz.underlying9
 a9:=Tryz.isAgg9
 z9:=Tryz.sizeOf9
 v9:=Tryz.zeroValue9
 t37:=Tryz.underlying42
 a37:=Tryz.isAgg42
 z37:=Tryz.sizeOf42
 v37:=Tryz.zeroValue42
 t70:=Tryz.underlying82
 a70:=Tryz.isAgg82
 z70:=Tryz.sizeOf82
 v70:=Tryz.zeroValue82
 t72:=Tryz.underlying84
 a72:=Tryz.isAgg84
 z72:=Tryz.sizeOf84
 v72:=Tryz.zeroValue84
 t127:=Tryz.underlying125
 a127:=Tryz.isAgg125
 z127:=Tryz.sizeOf125
 v127:=Tryz.zeroValue125}
theorem Tryz.builderExtra:Builder.Extra Tryz.prog Tryz.lays169_ren:={
 sizeBuilder:=by kernel_rfl
 liesBuilder:=by kernel_rfl
 t5:=Tryz.underlying5
 a5:=Tryz.isAgg5
 z5:=Tryz.sizeOf5
 v5:=Tryz.zeroValue5
 infoByte:=by kernel_rfl
 cellsByte:=by kernel_rfl
 sizeByte:=by kernel_rfl
 neB5:=by decide}
end Go.Proofs
namespace Go.Proofs.YtbbpilohihldiaaGreatDoor
open Vc Go.RowKit
theorem aIm {g:Gh}{w w':World}(hH:rL g w (pN 0 [])) (hb:Below w.heap.size w w'):rL g w' (pN 0 []):=
 ⟨fun _ _ h=>(by cases h),fun _ _ _ _ _ _ _ h=>(by cases h),fun b o h=>aQs (hH.sl b o h) hb.size,⟨MH hH.tab.1 hb.size fun b h=>hb.block b (aQs h hH.tab.1.1),fun _ _ _ _ h=>(by cases h)⟩⟩
theorem KK {P:Program}{f:FuncId}{C:List pB->List p9->Option pH}(hen: ∀args w,(callFunc f args).run P w= .ok (.enter f args) w)
  (h: ∀(g:Gh) (w:World) (args:List pB) (vals:List Value) (L:List p9) (r:pH),HC w->uL g w args vals->C args L=some r->(∀p∈r.side,p)->
   L=[]/\r.H=[]/\Calls P f vals.toArray w (fun e w'=> ∃v,e= .returned v/\Below w.heap.size w w'/\NH g w' r.ret v)):yH P f C:=by
 refine⟨hen,fun g w args vals L r hH ha hC hs=> ?_⟩;obtain⟨rfl,hr,hc⟩:=h g w args vals L r hH.tab.1 ha hC hs;refine hc.mono fun e w' ⟨v,he,hb,hv⟩=>⟨v,g,he,⟨fun b o h=>⟨h,hb.cell (p:=⟨b,o,none⟩) (hH.sl b o h)⟩,by rw[hr];exact aIm hH hb,hv,⟨hb.os,hb.tape,hb.output,hb.size,fun b h _=>hb.block b h,fun b o h _=>⟨hb.cell (p:=⟨b,o,none⟩) h,hb.frozen (p:=⟨b,o,none⟩) h⟩,fun b o h=> .inl h,fun b s h=> .inl ((BS (hb.block b (BR h))).trans h)⟩,(fun i blk b o h=>by rw[hr] at h;cases h),(fun i t x ts h=>by cases h),(fun i t x ts u y us h=>by cases h),(fun _ _ _ h=>h),(fun _ _ _ _ h=>h)⟩⟩
theorem aIn {P:Program}{f:FuncId}{vals:Array Value}{w:World}{Q:Ending->Prop}(h:Calls P f vals w fun e w'=>Q e/\w'=w):Calls P f vals w fun e w'=>Q e/\Below w.heap.size w w':=
 h.mono fun e w' ⟨h1,h2⟩=>⟨h1,by rw[h2];exact Below.refl _ _⟩
def uF (s:List UInt8) (c:Int):Int:=Lib.indexByte s (Int.toNat c).toUInt8
@[go_sem] def Y9:List pB->List p9->Option pH
 |[(.val .str O,none),(.val (.int .u8) Z,none)],[]=>some ⟨[],[(.val (.int .i64) (uF O Z),none)],[]⟩
 |_,_=>none
theorem aIo:yH Tryz.prog 135 Y9:=by
 refine KK (fun _ _=>rfl) fun g w args vals L r hT ha hC hs=> ?_;unfold Y9 at hC;split at hC
 ·rename_i s c;cases hC;obtain⟨va,_,rfl,ra,vb,_,rfl,rb,hv⟩:=ha;obtain rfl:=xF ra.1;obtain rfl:=v8 rb.1;cases hv;exact⟨rfl,rfl,(aIn (Any.strings_IndexByte Tryz.lays137 ⟨List.toArray s⟩ c w)).mono fun e w' ⟨he,hb⟩=>⟨_,he,hb,vP _ _ _ _,trivial⟩⟩
 ·cases hC
@[go_sem] def YA:List pB->List p9->Option pH
 |[(.val .str O,none),(.val .str Z,none)],[]=>some ⟨[(List.all Z fun b=>decide (b.toNat<128))=true/\List.length Z<4294967281],[(.val .str (Lib.trimLeftS O Z),none)],[]⟩
 |_,_=>none
theorem aIp:yH Tryz.prog 97 YA:=by
 refine KK (fun _ _=>rfl) fun g w args vals L r hT ha hC hs=> ?_;unfold YA at hC;split at hC
 ·rename_i s c;cases hC;obtain⟨h1,h2⟩:=hs _ aP8;obtain⟨va,_,rfl,ra,vb,_,rfl,rb,hv⟩:=ha;obtain rfl:=xF ra.1;obtain rfl:=xF rb.1;cases hv;exact⟨rfl,rfl,(Any.strings_TrimLeft_laid Tryz.lays161 (by kernel_rfl) ⟨List.toArray s⟩ ⟨List.toArray c⟩ w h2 (ascii_of_all h1)).mono fun e w' ⟨he,hb⟩=>⟨_,he,hb,CR _ _ _,trivial⟩⟩
 ·cases hC
@[go_sem] def YB:List pB->List p9->Option pH
 |[(.val .str O,none)],[]=>some ⟨[List.length O<=9223372036854775807],[(.val .bool (Lib.validD O),none)],[]⟩
 |_,_=>none
theorem aIq:yH Tryz.prog 243 YB:=by
 refine KK (fun _ _=>rfl) fun g w args vals L r hT ha hC hs=> ?_;unfold YB at hC;split at hC
 ·rename_i s;cases hC;have h1:=hs _ aP8;obtain⟨va,_,rfl,ra,hv⟩:=ha;obtain rfl:=xF ra.1;cases hv;exact⟨rfl,rfl,(Any.utf8_ValidString Tryz.lays196 ⟨List.toArray s⟩ w h1 hT.2.1).mono fun e w' ⟨he,hb⟩=>⟨_,he,hb,vL _ _ _,trivial⟩⟩
 ·cases hC
end Go.Proofs.YtbbpilohihldiaaGreatDoor
