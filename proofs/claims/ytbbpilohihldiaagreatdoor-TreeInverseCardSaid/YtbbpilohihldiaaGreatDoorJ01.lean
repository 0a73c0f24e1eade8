/- Packed by a program of mine (wip/tools/pack.py): the same texts with short names and few blanks. -/
import Derived.ChangeKeysEq
import Derived.KernelRfl
import Derived.Laws.BytesArg
import Derived.Laws.StructEq
import Derived.Lib.AppendStr
import Derived.OrdersIn
import Derived.RangeFuncLeaves
import Derived.RangeFuncNested
import Derived.Scope
import Derived.Shelf.Slices.Clone
import Derived.Shelf.Slices.In.SortNone
import Derived.Shelf.Small.Utf8
import Derived.Shelf.Sort.Plain
import Derived.Shelf.Strings.Builder1
import Derived.Shelf.Strings.Runes
import Derived.Shelf.Strings.Search1
import Derived.Shelf.Strings.Search3
import Derived.Shelf.Strings.SlTrimAscii
import Derived.Shelf.Strings.Trim
import Derived.Shelf.Unicode.DecodeAny
import Derived.Shelf.Unicode.ValidAny
import Derived.Test.YtbbpilohihldiaaGreatDoorProg
import Derived.WalkSpells
import Derived.Test.YtbbpilohihldiaaGreatDoorJ00
set_option linter.unusedVariables false
set_option linter.unusedSimpArgs false
set_option linter.unusedSectionVars false
set_option maxRecDepth 100000
set_option maxHeartbeats 4000000
namespace Go.Proofs.YtbbpilohihldiaaGreatDoor.Vc
open Go.RowKit
theorem aAv {H:rI}{ws more:List qT}: ∀{wh:qT}{b:pC},TS H ws wh b->TS H (ws++more) wh b
 | .box _ _ _ _ _,.cells _ _ _,⟨h1,h2,h4⟩=>⟨h1,h2,fun q n h=>let ⟨k,k1,k2⟩:=h4 q n h;⟨k,by rw[aTY (aTU.1 k1).1];exact k1,k2⟩⟩
 | .box _ _ _ _ _,.grow _ _ _,h=>h.elim
 | .box _ _ _ _ _,.dead,h=>h.elim
 | .box _ _ _ _ _,.row _ _ _ _,h=>h.elim
 | .box _ _ _ _ _,.map _ _ _,h=>h.elim
 | .box _ _ _ _ _,.iter _ _,h=>h.elim
 | .tok _,.iter _ _,h=>h.elim
 | .tok _,.row _ _ _ _,h=>h
 | .tok _,.grow _ _ _,h=>h
 | .tok _,.map _ _ _,h=>h
 | .tok _,.cells _ _ _,h=>h.elim
 | .tok _,.dead,h=>h.elim
theorem LT (g:Gh) (w:World) (ws more:List qT):Le (uH g ws) w (uH g (ws++more)) w:=by
 refine⟨fun _ _ h=>h,fun _ _ _=>rfl,fun c p h=> ?_,fun c n v h=> ?_⟩
 ·have h':v8 g ws[c]? =some p:=h;show v8 g (ws++more)[c]? =some p;cases hc:ws[c]? with
  |none=>rw[hc] at h';cases h'
  |some wh=>rw[aTY (aTU.1 hc).1];exact h'
 ·have h':B6 g ws[c]? n=some v:=h;show B6 g (ws++more)[c]? n=some v;cases hc:ws[c]? with
  |none=>rw[hc] at h';cases h'
  |some wh=>rw[aTY (aTU.1 hc).1];exact h'
theorem LU {g g':Gh}{w w':World}(h:Le g w g' w'): ∀{ss:List pD}{vs:List Value},uP g w ss vs->uP g' w' ss vs
 |[],_,r=>r
 |_::_,_,⟨v,vs',e,r1,r2⟩=>⟨v,vs',e,B4 h r1,LU h r2⟩
theorem HL {g:Gh}{w:World}: ∀{ss:List pD}{vs:List Value}{s:pD}{v:Value},uP g w ss vs->r5 g w s v->uP g w (ss++[s]) (vs++[v])
 |[],_,_,_,h,k=>by rw[show _=[] from h];exact⟨_,_,rfl,k,rfl⟩
 |_::_,_,_,_,⟨v,vs',e,r1,r2⟩,k=>⟨v,vs'++_,by rw[e];rfl,r1,HL r2 k⟩
theorem G0.tok {H:rI}{ws:List qT}{L:List pC}(h:G0 H ws L) {k:Nat}{b0:pC}(hk:TS H (ws++[.tok k]) (.tok k) b0) (hn:k∉rK ws):G0 H (ws++[.tok k]) (L++[b0]):=by
 refine⟨by simp [h.len],fun i wh b h1 h2=> ?_,?_⟩
 ·by_cases hi:i<ws.length
  ·rw[aTY hi] at h1;rw[aTY (h.len▸hi)] at h2;exact aAv (h.ok i wh b h1 h2)
  ·rw[aTP (by omega)] at h1;rw[aTP (by rw[<-h.len];omega),<-h.len] at h2;obtain⟨d,hd⟩: ∃d,i-ws.length=d:=⟨_,rfl⟩;rw[hd] at h1 h2;cases d with
   |zero=>
    simp only[aUb,aTE] at h1 h2;subst h1;subst h2;exact hk
   |succ d=>simp at h1
 ·rw[HK];exact List.nodup_append.2 ⟨h.nodup,by simp [rK],fun a ha b hb=>by
   simp only[rK,qT.id,aTQ] at hb;subst hb;intro e;exact hn (e▸ha)⟩
theorem aAw: ∀{os:List Nat}{n q m:Nat},(q,m)∈J6 os n->∃j:Nat,os[j]? =some q/\m=n+j
 |[],_,_,_,h=>by simp [J6] at h
 |q'::os,n,q,m,h=>by
  simp only[J6,aTW,aUa] at h;rcases h with⟨rfl,rfl⟩ |h
  ·exact⟨0,rfl,rfl⟩
  ·obtain⟨j,h1,h2⟩:=aAw h;exact⟨j+1,by simpa using h1,by omega⟩
theorem aAx {n:Nat}: ∀{os:List Nat}{j q:Nat},L5 n os=true->os[j]? =some q->q<n
 |[],_,_,_,h=>by simp at h
 |q'::os,0,q,h,h2=>by
  simp only[L5,aTL,aTK] at h;simp only[aUb,aTE] at h2;exact h2▸h.1
 |q'::os,j+1,q,h,h2=>by
  simp only[L5,aTL] at h;exact aAx h.2 (by simpa using h2)
theorem TX {H:rI}{toks:List (Nat×Nat)}{o:Nat}: ∀{os:List Nat}{a a':s8},xQ H toks o os (some a)=some a'->
  ∃(ks:List Nat) (bs:List pC),ks.length=os.length/\bs.length=os.length/\a'.args=a.args/\a'.H.reverse=a.H.reverse++bs/\a'.ws.reverse=a.ws.reverse++ks.map qT.tok/\a'.n=a.n+os.length/\
   (∀(j:Nat) q k,os[j]? =some q->ks[j]? =some k->wC toks (o+q)=some k)/\(∀(j:Nat) k b,ks[j]? =some k->bs[j]? =some b->pG H k=some b/\∃e c m,b= .grow e c m)/\(∀k∈ks,k∉rK a.ws.reverse)/\ks.Nodup
 |[],a,a',h=>by
  simp only[xQ,aTE] at h;subst h;exact⟨[],[],rfl,rfl,rfl,by simp,by simp,rfl,by simp,by simp,by simp,by simp⟩
 |q::os,a,a',h=>by
  simp only[xQ] at h;have none_no: ∀os,xQ H toks o os none=none:=by
   intro os
   induction os with
   |nil=>rfl
   |cons q os ih=>
    have:yS H (wC toks (o+q)) none=none:=by
     cases wC toks (o+q) with
     |none=>rfl
     |some k=>simp only[yS];cases pG H k with
      |none=>rfl
      |some b=>cases b<;>rfl
    simp only[xQ,this,ih]
  cases hk:wC toks (o+q) with
  |none=>rw[hk] at h;simp only[yS,none_no] at h;cases h
  |some k=>
   rw[hk] at h;simp only[yS] at h;cases hb:pG H k with
   |none=>rw[hb] at h;simp only[BS,none_no] at h;cases h
   |some b=>
    rw[hb] at h;cases b with
    |grow e c m=>
     simp only[BS] at h;by_cases hm:CL k (rK a.ws)=true
     ·rw[aTD hm,none_no] at h;cases h
     ·rw[aTG hm] at h;obtain⟨ks,bs,h1,h2,h3,h4,h5,h6,h7,h8,h9,h10⟩:=TX h;simp only[aUr] at h4 h5 h9;have hrev: ∀ws:List qT,∀i,i∈rK ws.reverse↔i∈rK ws:=by
       intro ws i
       induction ws with
       |nil=>simp
       |cons x r ih=>rw[aUr,HK];simp [rK,ih,or_comm]
      refine⟨k::ks,.grow e c m::bs,by simp [h1],by simp [h2],h3,by rw[h4];simp,by rw[h5];simp,by rw[h6];simp;omega,fun j q' k'=> ?_,fun j k' b'=> ?_,fun k' hk'=> ?_,?_⟩
      ·cases j with
       |zero=>intro e1 e2;simp only[aUb,aTE] at e1 e2;subst e1;subst e2;exact hk
       |succ j=>intro e1 e2;exact h7 j q' k' (by simpa using e1) (by simpa using e2)
      ·cases j with
       |zero=>intro e1 e2;simp only[aUb,aTE] at e1 e2;subst e1;subst e2;exact⟨hb,_,_,_,rfl⟩
       |succ j=>intro e1 e2;exact h8 j k' b' (by simpa using e1) (by simpa using e2)
      ·rcases aTW.1 hk' with rfl|hk'
       ·rw[hrev];exact fun hmem=>hm (JO.2 hmem)
       ·intro hmem;exact h9 k' hk' (by rw[HK];exact List.mem_append_left _ hmem)
      ·refine List.nodup_cons.2 ⟨fun hmem=>h9 k hmem (by rw[HK];simp [rK,qT.id]),h10⟩
    |cells t y ts=>simp only[BS,none_no] at h;cases h
    |row=>simp only[BS,none_no] at h;cases h
    |map=>simp only[BS,none_no] at h;cases h
    |iter=>simp only[BS,none_no] at h;cases h
    |dead=>simp only[BS,none_no] at h;cases h
theorem aAy: ∀ks:List Nat,rK (ks.map qT.tok)=ks
 |[]=>rfl
 |k::ks=>by simp [rK,qT.id,aAy ks]
theorem G0.box {H:rI}{ws:List qT}{L:List pC}(h:G0 H ws L) {t u:Ty}{x:u.den}{y:t.den}{toks:List (Nat×Nat)}{i o:Nat}{os ks:List Nat}{bs:List pC}(hi:pG H i=some (.cells u x toks)) (hy:qK t u x o=some y) (hlt:L5 t.cells os=true) (hn:i∉rK ws)
  (h1:ks.length=os.length) (h2:bs.length=os.length) (h7: ∀(j:Nat) q k,os[j]? =some q->ks[j]? =some k->wC toks (o+q)=some k) (h8: ∀(j:Nat) k b,ks[j]? =some k->bs[j]? =some b->pG H k=some b/\∃e c m,b= .grow e c m) (h9: ∀k∈ks,k∉rK (ws++[.box i u x toks o])) (h10:ks.Nodup):
  G0 H ((ws++[.box i u x toks o])++ks.map qT.tok) ((L++[.cells t y (J6 os (ws.length+1))])++bs):=by
 have hlen1:(ws++[qT.box i u x toks o]).length=ws.length+1:=by simp
 have hlen2:(L++[pC.cells t y (J6 os (ws.length+1))]).length=ws.length+1:=by simp [h.len]
 refine⟨by simp [h.len,h1,h2],fun c wh b e1 e2=> ?_,?_⟩
 ·by_cases hc:c<ws.length
  ·rw[aTY (by omega),aTY hc] at e1;rw[aTY (by omega),aTY (h.len▸hc)] at e2;rw[aTN];exact aAv (h.ok c wh b e1 e2)
  ·by_cases hc2:c=ws.length
   ·subst hc2;rw[aTY (by omega),aTP (aTZ _),aVE] at e1;rw[aTY (by omega),aTP (by rw[h.len];exact aTZ _),h.len,aVE] at e2;simp only[aUb,aTE] at e1 e2;subst e1;subst e2;refine⟨hi,hy,fun q n hm=> ?_⟩;rw[<-h.len] at hm;obtain⟨j,hj,rfl⟩:=aAw hm;have hjl:j<ks.length:=by rw[h1];exact(aTU.1 hj).1
    refine⟨ks[j],?_,h7 j q _ hj (aTM hjl),aAx hlt hj⟩;rw[aTP (by omega),hlen1,show ws.length+1+j- (ws.length+1)=j from by omega];simp [hjl]
   ·rw[aTP (by omega),hlen1] at e1;rw[aTP (by omega),hlen2] at e2;rw[List.getElem?_map] at e1;obtain⟨k,hk,rfl⟩:=aTT.1 e1;obtain⟨hg,e,cc,m,rfl⟩:=h8 _ k b hk e2;exact hg
 ·rw[HK,aAy];refine List.nodup_append.2 ⟨?_,h10,fun a ha b hb e=>h9 b hb (e▸ha)⟩;rw[HK];exact List.nodup_append.2 ⟨h.nodup,by simp [rK],fun a ha b hb=>by
   simp only[rK,qT.id,aTQ] at hb;subst hb;intro e;exact hn (e▸ha)⟩
theorem TY (ws:List qT) (i:Nat):i∈rK ws.reverse↔i∈rK ws:=by
 induction ws with
 |nil=>simp
 |cons x r ih=>rw[aUr,HK];simp [rK,ih,or_comm]
structure B7 (g:Gh) (w:World) (H:rI) (vals:List Value) (a:s8):Prop where
 n:a.n=a.ws.reverse.length
 m:G0 H a.ws.reverse a.H.reverse
 args:uP (uH g a.ws.reverse) w a.args.reverse vals
theorem aKc {g:Gh}{w:World}{ws:List qT}{t:Ty}(hp:t.pure=true) {x:t.den}{v:Value}{k:Option Nat}(h:r5 g w (.val t x,k) v):r5 (uH g ws) w (.val t x,none) v:=
 ⟨h.1.imp (fun⟨a,cs,e,q⟩=>⟨a,cs,e,uV (g:=g) (g':=uH g ws) rfl hp q⟩) (fun⟨a,q⟩=>⟨a,uV (g:=g) (g':=uH g ws) rfl hp q⟩),trivial⟩
theorem aKd {H:rI}{k:Option Nat}{a b:s8}{l m:List pD}(h:yS H k (some ⟨l,a.H,a.ws,a.n⟩)=some b):b.args=l/\yS H k (some ⟨m,a.H,a.ws,a.n⟩)=some ⟨m,b.H,b.ws,b.n⟩:=by
 cases k with
 |none=>cases h
 |some k=>
  simp only[yS] at h⊢;cases hb:pG H k with
  |none=>rw[hb] at h;simp [BS] at h
  |some bl=>
   rw[hb] at h;cases bl with
   |grow e c n=>
    simp only[BS] at h⊢;split at h
    ·cases h
    ·rename_i hc;rw[aTG hc];cases h;exact⟨rfl,rfl⟩
   |_=>simp [BS] at h
theorem aAz {H:rI}{toks:List (Nat×Nat)}{o:Nat}{m:List pD}: ∀{os:List Nat}{a b:s8},xQ H toks o os (some a)=some b->b.args=a.args/\xQ H toks o os (some ⟨m,a.H,a.ws,a.n⟩)=some ⟨m,b.H,b.ws,b.n⟩
 |[],a,b,h=>by simp only[xQ,aTE] at h;subst h;exact⟨rfl,rfl⟩
 |q::os,a,b,h=>by
  simp only[xQ] at h⊢;have none_no: ∀os,xQ H toks o os none=none:=by
   intro os
   induction os with
   |nil=>rfl
   |cons q os ih=>
    have:yS H (wC toks (o+q)) none=none:=by
     cases wC toks (o+q) with
     |none=>rfl
     |some k=>simp only[yS];cases pG H k with
      |none=>rfl
      |some b=>cases b<;>rfl
    simp only[xQ,this,ih]
  cases hm:yS H (wC toks (o+q)) (some a) with
  |none=>rw[hm,none_no] at h;cases h
  |some c=>
   rw[hm] at h;obtain⟨h1,h2⟩:=aKd (a:=a) (l:=a.args) (m:=m) hm;obtain⟨h3,h4⟩:=aAz (m:=m) h;rw[h2];exact⟨h3.trans h1,h4⟩
theorem aKe {H:rI}{t:Ty}{os:List Nat}{i o:Nat}{a b:s8}{m:List pD}(h:uU H t os i o a (pG H i)=some b):uU H t os i o ⟨m,a.H,a.ws,a.n⟩ (pG H i)=some ⟨(.val .ref (some (a.n,0)),none)::m,b.H,b.ws,b.n⟩:=by
 cases hb:pG H i with
 |none=>rw[hb] at h;simp [uU] at h
 |some bl=>
  rw[hb] at h;cases bl with
  |cells u x toks=>
   simp only[uU] at h⊢;cases hy:qK t u x o with
   |none=>rw[hy] at h;simp [EK] at h
   |some y=>
    rw[hy] at h;simp only[EK] at h⊢;split at h
    ·rename_i hc;rw[aTD hc];exact(aAz (m:=(.val .ref (some (a.n,0)),none)::m) h).2
    ·cases h
  |_=>simp [uU] at h
theorem aAA {g:Gh}{i o:Nat}{p:Pl}{v:Value}: ∀{l:List (Nat×Nat)}{vs:List Value},xB g l vs->g.J i=some p->v= .pointer (some ⟨p.1,p.2+o,none⟩)->xB g (l++[(i,o)]) (vs++[v])
 |[],vs,h,hp,hv=>by rw[show vs=[] from h];exact⟨p,[],hp,by rw[hv];rfl,rfl⟩
 |(_,_)::l,vs,⟨q,vs',h1,h2,h3⟩,hp,hv=>⟨q,vs'++[v],h1,by rw[h2];rfl,aAA h3 hp hv⟩
theorem aAB {α:Type}: ∀(l acc:List α),yR l acc=l.reverse++acc
 |[],_=>rfl
 |x::l,acc=>by simp [yR,aAB l]
theorem aAC {g:Gh}{w:World}{H:rI}(hH:rT g w H) {t:Ty}{os:List Nat}{i o:Nat}{vals:List Value}{a a':s8}(ha:B7 g w H vals a) {p:Pl}(hp:g.J i=some p) (h:uU H t os i o a (pG H i)=some a'):
  B7 g w H vals ⟨a.args,a'.H,a'.ws,a'.n⟩/\∃more,a'.ws.reverse=a.ws.reverse++more/\a'.args=(.val .ref (some (a.n,0)),none)::a.args/\(uH g a'.ws.reverse).J a.n=some ⟨p.1,p.2+o,p.3⟩:=by
 cases hb:pG H i with
 |none=>rw[hb] at h;simp [uU] at h
 |some b=>
  rw[hb] at h;cases b with
  |cells u x toks=>
   simp only[uU] at h;cases hy:qK t u x o with
   |none=>rw[hy] at h;simp [EK] at h
   |some y=>
    rw[hy] at h;simp only[EK] at h;split at h
    ·rename_i hc;simp only[aTL,aT8] at hc;obtain⟨ks,bs,h1,h2,h3,h4,h5,h6,h7,h8,h9,h10⟩:=TX h;simp only[aUr] at h3 h4 h5 h6 h9;have hnm:i∉rK a.ws.reverse:=fun hmem=>by
      have:=JO.2 ((TY _ _).1 hmem);rw[hc.2] at this;cases this
     have e5:a'.ws.reverse=a.ws.reverse++([qT.box i u x toks o]++ks.map qT.tok):=by rw[h5];simp only[aTN]
     refine⟨⟨by rw[h6];simp only;rw[h5,ha.n];simp [h1];omega,?_,?_⟩,_,e5,h3,?_⟩
     ·simp only;rw[h4,h5,ha.n];exact ha.m.box hb hy hc.1 hnm h1 h2 h7 h8 h9 h10
     ·simp only;rw[e5];exact LU (LT g w _ _) ha.args
     ·show v8 g a'.ws.reverse[a.n]? =_;rw[e5,ha.n,aTP (aTZ _),aVE];show (g.J i).map _=_;rw[hp];rfl
    ·cases h
  |grow=>simp [uU] at h
  |row=>simp [uU] at h
  |map=>simp [uU] at h
  |iter=>simp [uU] at h
  |dead=>simp [uU] at h
theorem aAD {H:rI}{f:FuncId}{args0:List pD}: ∀{ks:List (Ty×List Nat)}{cs ids:List (Nat×Nat)}{a a':s8},wM H f args0 ks cs ids (some a)=some a'->∃s more,a'.args=s::args0/\a'.ws.reverse=a.ws.reverse++more
 |[],[],ids,a,a',h=>by
  simp only[wM,aTE] at h;subst h;exact⟨_,[],rfl,by simp⟩
 |[],_::_,_,_,_,h=>by simp [wM] at h
 |_::_,[],_,_,_,h=>by simp [wM] at h
 |(t,os)::ks,(i,o)::cs,ids,a,a',h=>by
  simp only[wM] at h;cases hb:uU H t os i o a (pG H i) with
  |none=>rw[hb] at h;cases ks<;>cases cs<;>simp [wM] at h
  |some b=>
   rw[hb] at h;obtain⟨s,more,h1,h2⟩:=aAD h;obtain⟨more0,h3⟩: ∃more0,b.ws.reverse=a.ws.reverse++more0:=by
    unfold uU at hb;split at hb
    ·unfold EK at hb;split at hb
     ·split at hb
      ·obtain⟨ks,bs,_,_,_,_,h5,_⟩:=TX hb;exact⟨_,by rw[h5];simp only[aUr];exact aTN ..⟩
      ·cases hb
     ·cases hb
    ·cases hb
   exact⟨s,more0++more,h1,by rw[h2,h3,aTN]⟩
theorem aAE {g:Gh}{w:World}{H:rI}(hH:rT g w H) {f:FuncId}{args0:List pD}{vals:List Value}: ∀{ks:List (Ty×List Nat)}{cs:List (Nat×Nat)}{ids:List (Nat×Nat)}{vs us:List Value}{a a':s8},B7 g w H vals ⟨args0,a.H,a.ws,a.n⟩->
  xB g cs vs->xB (uH g a.ws.reverse) ids.reverse us->wM H f args0 ks cs ids (some a)=some a'->
  B7 g w H vals ⟨args0,a'.H,a'.ws,a'.n⟩/\∃ids',a'.args=(.val .clo (some (f,ids')),none)::args0/\(∃more,a'.ws.reverse=a.ws.reverse++more)/\xB (uH g a'.ws.reverse) ids' (us++vs)
 |[],[],ids,vs,us,a,a',ha,hv,hu,h=>by
  simp only[wM,aAB,List.append_nil,aTE] at h;subst h;rw[show vs=[] from hv,List.append_nil];exact⟨ha,_,rfl,⟨[],by simp⟩,hu⟩
 |[],_::_,_,_,_,_,_,_,_,_,h=>by simp [wM] at h
 |_::_,[],_,_,_,_,_,_,_,_,h=>by simp [wM] at h
 |(t,os)::ks,(i,o)::cs,ids,vs,us,a,a',ha,⟨p,vs',hp,hv1,hv2⟩,hu,h=>by
  simp only[wM] at h;cases hb:uU H t os i o a (pG H i) with
  |none=>rw[hb] at h;cases ks<;>cases cs<;>simp [wM] at h
  |some b=>
   rw[hb] at h;have hb':uU H t os i o ⟨args0,a.H,a.ws,a.n⟩ (pG H i)=some ⟨(.val .ref (some (a.n,0)),none)::args0,b.H,b.ws,b.n⟩:=aKe hb;obtain⟨q1,more,q2,q3,q4⟩:=aAC hH ha hp hb';simp only at q1 q2 q3 q4;have hmono:=LT g w a.ws.reverse more;rw[<-q2] at hmono;have hu2:xB (uH g b.ws.reverse) ((a.n,0)::ids).reverse (us++[.pointer (some ⟨p.1,p.2+o,none⟩)]):=by
    simp only[aUr];exact aAA (YG hmono.J hu) q4 (by simp)
   obtain⟨z1,ids',z2,⟨more',z3⟩,z4⟩:=aAE hH (a:=b) q1 hv2 hu2 h;refine⟨z1,ids',z2,⟨more++more',by rw[z3,q2,aTN]⟩,?_⟩;rw[hv1];rw[aTN] at z4;exact z4
theorem aAF {g:Gh}{w:World}{H:rI}(hH:rT g w H) {p:PK}{s:pD}{v:Value}{vals:List Value}{a a':s8}(ha:B7 g w H vals a) (hs:r5 g w s v) (h:x9 H a p s=some a'):B7 g w H (vals++[v]) a':=by
 unfold x9 at h;split at h
 ·rename_i f k;simp only[S3,aTE] at h;subst h;refine⟨ha.n,ha.m,?_⟩;simp only[aUr];refine HL ha.args ⟨?_,trivial⟩;rcases hs.1 with⟨h1,_⟩ |⟨h1,vs,h2,h3⟩
  ·cases h1
  ·rw[show vs=[] from h2] at h3;exact .inr ⟨rfl,[],rfl,h3⟩
 ·rename_i t x k _;simp only[S2] at h;split at h
  ·rename_i hp;simp only[aTE] at h;subst h;refine⟨ha.n,ha.m,?_⟩;simp only[aUr];exact HL ha.args (aKc hp hs)
  ·cases h
 ·rename_i t x k;cases hb:pG H k with
  |none=>rw[hb] at h;simp [BT] at h
  |some b=>
   rw[hb] at h;cases b with
   |grow e c m=>
    simp only[BT] at h;split at h
    ·rename_i hc;simp only[aTL,aT8] at hc;simp only[aTE] at h;subst h;have hnm:k∉rK a.ws.reverse:=fun hmem=>by
      have:=JO.2 ((TY _ _).1 hmem);rw[hc.2] at this;cases this
     refine⟨by simp [ha.n],by simpa using ha.m.tok (b0:= .grow e c m) hb hnm,?_⟩;simp only[aUr];refine HL (LU (LT g w _ _) ha.args) (TR (g:=g) (g':=uH g (a.ws.reverse++[.tok k])) (k':=some a.n) rfl hc.1 hs (fun c' e1=> ?_) (fun e1=>by cases e1));cases e1;refine⟨_,rfl,fun n u hu=> ?_⟩;show B6 g (a.ws.reverse++[qT.tok k])[a.n]? n=some u;rw[ha.n,aTP (aTZ _),aVE];exact hu
    ·cases h
   |cells=>simp [BT] at h
   |row=>simp [BT] at h
   |map=>simp [BT] at h
   |iter=>simp [BT] at h
   |dead=>simp [BT] at h
 ·rename_i t os i o k;obtain⟨p,hp,hv⟩:=AI hs.1;obtain⟨h1,more,h2,h3,h4⟩:=aAC hH ha hp h;refine⟨h1.n,h1.m,?_⟩;rw[h3];simp only[aUr];exact HL h1.args ⟨.inr ⟨rfl,_,h4,by rw[hv];rfl⟩,trivial⟩
 ·rename_i i k;cases hb:pG H i with
  |none=>rw[hb] at h;simp [BU] at h
  |some b=>
   rw[hb] at h;cases b with
   |map s t l=>
    simp only[BU] at h;split at h
    ·rename_i hc;simp only[aTL,aT8] at hc;simp only[aTE] at h;subst h;have hnm:i∉rK a.ws.reverse:=fun hmem=>by
      have:=JO.2 ((TY _ _).1 hmem);rw[hc.2] at this;cases this
     refine⟨by simp [ha.n],by simpa using ha.m.tok (b0:= .map s t l) ⟨hb,hc.1.1,hc.1.2⟩ hnm,?_⟩;simp only[aUr];obtain⟨p,hp,hv⟩: ∃p,g.J i=some p/\v= .map (some p.1):=by
      obtain⟨p,h1,e⟩:=C1 rfl hs.1;simp only[aUA,and_true] at e;exact⟨p,h1,e⟩
     refine HL (LU (LT g w _ _) ha.args) ⟨.inr ⟨rfl,p,?_,by rw[hv]⟩,trivial⟩;show v8 g (a.ws.reverse++[qT.tok i])[a.n]? =_;rw[ha.n,aTP (aTZ _),aVE];exact hp
    ·cases h
   |cells=>simp [BU] at h
   |row=>simp [BU] at h
   |grow=>simp [BU] at h
   |iter=>simp [BU] at h
   |dead=>simp [BU] at h
 ·rename_i k n k';cases hb:pG H k with
  |none=>rw[hb] at h;simp [BV] at h
  |some b=>
   rw[hb] at h;cases b with
   |row e t l m=>
    simp only[BV] at h;split at h
    ·rename_i hc;simp only[aTL,aT8] at hc;simp only[aTE] at h;subst h;have hnm:k∉rK a.ws.reverse:=fun hmem=>by
      have:=JO.2 ((TY _ _).1 hmem);rw[hc.2] at this;cases this
     refine⟨by simp [ha.n],by simpa using ha.m.tok (b0:= .row e t l m) ⟨hb,hc.1⟩ hnm,?_⟩;simp only[aUr];obtain⟨h1,h2⟩:=hs.1;refine HL (LU (LT g w _ _) ha.args) ⟨⟨?_,h2⟩,trivial⟩;show B6 g (a.ws.reverse++[qT.tok k])[a.n]? n=_;rw[ha.n,aTP (aTZ _),aVE];exact h1
    ·cases h
   |cells=>simp [BV] at h
   |grow=>simp [BV] at h
   |map=>simp [BV] at h
   |iter=>simp [BV] at h
   |dead=>simp [BV] at h
 ·rename_i ks f cs k';obtain⟨vs,hv1,hv2⟩: ∃vs,xB g cs vs/\v= .func (.func f) #[] vs.toArray:=by
   rcases hs.1 with⟨h1,_⟩ |⟨_,vs,h2,h3⟩
   ·cases h1
   ·simp only[aUA,and_true] at h3;exact⟨vs,h2,h3⟩
  obtain⟨z1,ids',z2,_,z4⟩:=aAE hH (ids:=[]) (a:=a) (us:=[]) ha hv1 rfl h;refine⟨z1.n,z1.m,?_⟩;rw[z2];simp only[aUr];exact HL z1.args ⟨.inr ⟨rfl,vs,by simpa using z4,by rw[hv2]⟩,trivial⟩
 ·cases h
theorem aAG {g:Gh}{w:World}{H:rI}(hH:rT g w H): ∀{ps:List PK}{ss:List pD}{vs vals:List Value}{a a':s8},B7 g w H vals a->uP g w ss vs->wN H ps ss (some a)=some a'->B7 g w H (vals++vs) a'
 |[],[],vs,vals,a,a',ha,hs,h=>by
  simp only[wN,aTE] at h;subst h;rw[show vs=[] from hs,List.append_nil];exact ha
 |p::ps,s::ss,vs,vals,a,a',ha,⟨v,vs',e,h1,h2⟩,h=>by
  simp only[wN] at h;cases ho:x9 H a p s with
  |none=>rw[ho] at h;cases ps<;>cases ss<;>simp [wN] at h
  |some a1=>
   rw[ho] at h;have:=aAG hH (aAF hH ha h1 ho) h2 h;rw[e];simpa using this
 |[],_::_,_,_,_,_,_,_,h=>by simp [wN] at h
 |_::_,[],_,_,_,_,_,_,h=>by simp [wN] at h
theorem B7.nil (g:Gh) (w:World) (H:rI):B7 g w H [] ⟨[],[],[],0⟩:=
 ⟨rfl,⟨rfl,fun c wh b h _=>by simp at h,by simp [rK]⟩,rfl⟩
theorem aAH: ∀(l:List pC) (n:Nat),H9 l n=l[n]?
 |[],_=>by simp [H9]
 |_::_,0=>rfl
 |_::r,n+1=>by simpa[H9] using aAH r n
theorem aKf {g:Gh}{w:World}: ∀{t:Ty}{x:t.den}{cs:List Value}{o:Nat}{y:Option (Nat×Nat)},Rd g w t x cs->FO t x o=some y->∃cs',HI g y cs':=by
 intro t
 induction t with
 |pair a b iha ihb=>
  intro x cs o y r h;obtain⟨c1,c2,_,r1,r2⟩:=r;simp only[FO] at h;split at h
  ·exact iha r1 h
  ·exact ihb r2 h
 |rl e u=>
  intro x cs o y r h;cases o with
  |zero=>simp only[FO,aTE] at h;subst h;exact⟨cs,r⟩
  |succ o=>simp [FO] at h
 |_=>intro x cs o y r h;cases o<;>simp [FO] at h
theorem aKg {g:Gh}{w:World}{H:rI}(hH:rT g w H) {vals:List Value}{a:s8}(ha:B7 g w H vals a) (c q:Nat) (pk:PK): ∃v,r5 g w (J7 q pk (H9 a.H c)) v:=by
 rw[aAH];have any: ∃v,r5 g w (.any,none) v:=⟨undef,trivial,trivial⟩;cases hb:a.H[c]? with
 |none=>cases pk<;>exact any
 |some b=>
  cases b with
  |cells t y ts=>
   have hlt:c<a.H.length:=(aTU.1 hb).1;have hb':a.H.reverse[a.H.length-1-c]? =some (.cells t y ts):=by
    rw[List.getElem?_reverse (by omega),show a.H.length-1- (a.H.length-1-c)=c by omega];exact hb
   obtain⟨wh,hwh⟩: ∃wh,a.ws.reverse[a.H.length-1-c]? =some wh:=by
    have hl:=ha.m.len;simp only[List.length_reverse] at hl;exact⟨_,aTM (by rw[List.length_reverse];omega)⟩
   have hw:=ha.m.ok _ wh _ hwh hb';cases wh with
   |tok k=>exact hw.elim
   |box i u x toks off=>
    obtain⟨h1,h2,_⟩:=hw;obtain⟨p,cs,hp,hR,_⟩:=hH.blk i _ h1;obtain⟨c1,c2,c3,hcs,hl,hR2⟩:=EQ hR h2;cases pk with
    |p t' os=>
     simp only[J7];cases hg:qK .ref t y q with
     |none=>exact any
     |some z=>
      cases z with
      |none=>exact any
      |some z=>
       obtain⟨d1,d2,d3,_,_,hR3⟩:=EQ hR2 hg;obtain⟨p',hp',e⟩:=hR3;exact⟨_,.inr ⟨rfl,p',hp',rfl⟩,trivial⟩
    |m=>
     simp only[J7];cases hg:qK .mp t y q with
     |none=>exact any
     |some z=>
      cases z with
      |none=>exact any
      |some z=>
       obtain⟨d1,d2,d3,_,_,hR3⟩:=EQ hR2 hg;obtain⟨p',hp',e⟩:=hR3;exact⟨_,.inr ⟨rfl,p',hp',rfl⟩,trivial⟩
    |v=>exact any
    |own=>exact any
    |f ks=>exact any
    |r=>
     simp only[J7];cases hg:FO t y q with
     |none=>exact any
     |some z=>
      cases z with
      |none=>exact any
      |some z=>
       obtain⟨cs',hR3⟩:=aKf hR2 hg;obtain⟨v,hv,_,hsh⟩:=hR3;exact⟨v,⟨hv,hsh⟩,trivial⟩
  |_=>cases pk<;>exact any
theorem aAI {g:Gh}{w:World}{H:rI}(hH:rT g w H) {vals:List Value}: ∀{gs:List (Nat×Nat×PK)}{a a':s8},B7 g w H vals a->B1 H gs (some a)=some a'->B7 g w H vals a'
 |[],a,a',ha,h=>by
  simp only[B1,aTE] at h;subst h;exact ha
 |(c,q,pk)::gs,a,a',ha,h=>by
  simp only[B1] at h;obtain⟨v,hv⟩:=aKg hH ha (a.n-1-c) q pk;cases hp:x9 H a pk (J7 q pk (H9 a.H (a.n-1-c))) with
  |none=>
   rw[hp] at h;simp only[L6] at h;cases gs<;>simp [B1] at h
  |some b=>
   rw[hp] at h;simp only[L6] at h;have hb:=aAF hH ha hv hp;refine aAI hH (a:=⟨a.args,b.H,b.ws,b.n⟩) ⟨hb.n,hb.m,?_⟩ h;obtain⟨s,more,e1,e2⟩: ∃s more,b.args=s::a.args/\b.ws.reverse=a.ws.reverse++more:=by
    have hp':=hp;unfold x9 at hp';split at hp'
    ·simp only[S3,aTE] at hp';subst hp';exact⟨_,[],rfl,by simp⟩
    ·simp only[S2] at hp';split at hp'
     ·simp only[aTE] at hp';subst hp';exact⟨_,[],rfl,by simp⟩
     ·cases hp'
    ·unfold BT at hp';split at hp'
     ·split at hp'
      ·simp only[aTE] at hp';subst hp';exact⟨_,[_],rfl,aUr ..⟩
      ·cases hp'
     ·cases hp'
    ·unfold uU at hp';split at hp'
     ·unfold EK at hp';split at hp'
      ·split at hp'
       ·obtain⟨ks,bs,_,_,h3,_,h5,_⟩:=TX hp';exact⟨_,_,h3,by rw[h5];simp only[aUr];exact aTN ..⟩
       ·cases hp'
      ·cases hp'
     ·cases hp'
    ·unfold BU at hp';split at hp'
     ·split at hp'
      ·simp only[aTE] at hp';subst hp';exact⟨_,[_],rfl,aUr ..⟩
      ·cases hp'
     ·cases hp'
    ·unfold BV at hp';split at hp'
     ·split at hp'
      ·simp only[aTE] at hp';subst hp';exact⟨_,[_],rfl,aUr ..⟩
      ·cases hp'
     ·cases hp'
    ·exact aAD hp'
    ·cases hp'
   rw[e2];exact LU (LT g w _ _) ha.args
theorem aKh {b:Option pC}{l:Option (List pC)}{r:List pC}(h:XI b l=some r): ∃b' l',b=some b'/\l=some l'/\r=b'::l':=by
 cases b<;>cases l<;>simp [XI] at h
 exact⟨_,_,rfl,rfl,h.symm⟩
theorem aAJ {W:List qT}: ∀{L0 L:List pC},HA W L0=some L->L.length=L0.length/\∀(c:Nat) (b:pC),L[c]? =some b->∃b0,L0[c]? =some b0/\S5 W b0=some b
 |[],L,h=>by
  simp only[HA,aTE] at h;subst h;exact⟨rfl,fun c b h=>by simp at h⟩
 |b0::L0,L,h=>by
  simp only[HA] at h;obtain⟨b',l',h1,h2,rfl⟩:=aKh h;obtain⟨k1,k2⟩:=aAJ h2;refine⟨by simp [k1],fun c b hc=> ?_⟩;cases c with
  |zero=>simp only[aUb,aTE] at hc;subst hc;exact⟨b0,rfl,h1⟩
  |succ c=>obtain⟨b1,q1,q2⟩:=k2 c b (by simpa using hc);exact⟨b1,by simpa using q1,q2⟩
theorem G0.ren {H:rI}{ws:List qT}{L0 L:List pC}(h:G0 H ws L0) (hc:HA ws L0=some L):OX H ws L:=by
 obtain⟨k1,k2⟩:=aAJ hc;refine⟨h.len.trans k1.symm,fun c wh b hw hb=> ?_,h.nodup⟩;obtain⟨b0,q1,q2⟩:=k2 c b hb;have hok:=h.ok c wh b0 hw q1;cases b0 with
 |cells t y ts=>
  cases wh with
  |tok k=>exact hok.elim
  |box i u x toks o=>
   obtain⟨h1,h2,h3⟩:=hok;simp only[S5] at q2;split at q2
   ·rename_i hp;obtain rfl:=aTI q2;exact⟨h1,⟨y,h2,.inl ⟨hp,rfl⟩⟩,h3⟩
   ·cases hy:CM ws t y with
    |none=>rw[hy] at q2;cases q2
    |some z=>
     rw[hy] at q2;obtain rfl:=aTI q2;exact⟨h1,⟨y,h2,.inr hy⟩,h3⟩
 |_=>
  simp only[S5,aTE] at q2;subst q2;cases wh<;>exact hok
theorem zP: ∀(W:List qT) (c:Nat),AG W c=W[c]?
  |[],c=>by simp [AG]
  |_::_,0=>rfl
  |_::W,c+1=>by simpa[AG] using zP W c
theorem aAK: ∀L:List pC,pW L=L.length
  |[]=>rfl
  |_::L=>by simp [pW,aAK L]
theorem aAL {α:Type}: ∀(l acc:List α),yR l acc=l.reverse++acc
  |[],_=>rfl
  |x::l,acc=>by simp [yR,aAL l]
theorem ZC {a:Option (Nat×pC)}{b:Option (List (Nat×pC))}{l:List (Nat×pC)}(h:O0 a b=some l): ∃q r,a=some q∧b=some r∧l=q::r:=by
  cases a<;>cases b<;>simp [O0] at h
  exact⟨_,_,rfl,rfl,h.symm⟩
def HN (base n:Nat) (W ws:List qT) (R:List pC) (c0:Nat) (id:Nat) (b:pC):Prop:=
  (∃(c:Nat) (i:Nat) (u:Ty) (x:u.den) (toks:List (Nat×Nat)) (o:Nat) (b0:pC),ws[c]? =some (.box i u x toks o)∧id=i∧R[c]? =some b0∧wO base n i o W u x toks b0=some (i,b))∨
  (∃(c k:Nat) (b0:pC),ws[c]? =some (.tok k)∧id=k∧R[c]? =some b0∧zH k b0=some (k,b))∨
  (∃(c:Nat) (b0:pC),R[c]? =some b0∧id=base+(c0+c)∧ws[c]? =none∧D9 base n (c0+c) W b0=some (id,b))
theorem HN.succ {base n:Nat}{W:List qT}{wh:qT}{ws:List qT}{b0:pC}{R:List pC}{c0 id:Nat}{b:pC}(h:HN base n W ws R (c0+1) id b):HN base n W (wh::ws) (b0::R) c0 id b:=by
  rcases h with⟨c,i,u,x,toks,o,b1,h1,h2,h3,h4⟩ |⟨c,k,b1,h1,h2,h3,h4⟩ |⟨c,b1,h1,h2,h3,h4⟩
  ·exact .inl ⟨c+1,i,u,x,toks,o,b1,by simpa using h1,h2,by simpa using h3,h4⟩
  ·exact .inr (.inl ⟨c+1,k,b1,by simpa using h1,h2,by simpa using h3,h4⟩)
  ·exact .inr (.inr ⟨c+1,b1,by simpa using h1,by rw[h2];omega,by simpa using h3,by rw[show c0+(c+1)=c0+1+c from by omega];exact h4⟩)
theorem HN.succ0 {base n:Nat}{W:List qT}{b0:pC}{R:List pC}{c0 id:Nat}{b:pC}(h:HN base n W [] R (c0+1) id b):HN base n W [] (b0::R) c0 id b:=by
  rcases h with⟨c,i,u,x,toks,o,b1,h1,_⟩ |⟨c,k,b1,h1,_⟩ |⟨c,b1,h1,h2,h3,h4⟩
  ·simp at h1
  ·simp at h1
  ·exact .inr (.inr ⟨c+1,b1,by simpa using h1,by rw[h2];omega,by simp,by rw[show c0+(c+1)=c0+1+c from by omega];exact h4⟩)
theorem aAM {i:Nat}{t:Ty}{ts:List (Nat×Nat)}{o:Option t.den}{q:Nat×pC}(h:a9j i t ts o=some q): ∃y,o=some y∧q=(i,.cells t y ts):=by
  cases o with
  |none=>cases h
  |some y=>exact⟨y,rfl,(aTI h).symm⟩
theorem aKi {base n c:Nat}{W:List qT}{b:pC}{q:Nat×pC}(h:D9 base n c W b=some q):q.1=base+c:=by
  cases b<;>simp only[D9] at h
  · split at h
    ·exact(aTI h)▸rfl
    ·obtain⟨y,_,rfl⟩:=aAM h;rfl
  ·exact(aTI h)▸rfl
  · split at h
    ·exact(aTI h)▸rfl
    ·cases h
  · split at h
    ·exact(aTI h)▸rfl
    ·cases h
  ·cases h
  ·exact(aTI h)▸rfl
def bY (base n:Nat) (W:List qT) (t:Ty) (x y:t.den):Prop:=(t.pure=true∧y=x)∨BW base n W t x=some y
theorem ZD {base n i o:Nat}{W:List qT}{u t:Ty}{x:u.den}{y:t.den}{toks ts:List (Nat×Nat)}{q:Nat×pC}(h:wO base n i o W u x toks (.cells t y ts)=some q):
    ∃y2 z,bY base n W t y y2∧rX t y2 u x o=some z∧q=(i,.cells u z (pX (D8 base n W o ts) (uN toks o t.cells))):=by
  simp only[wO] at h;split at h
  · rename_i hp
    cases hs:rX t y u x o with
    |none=>rw[hs] at h;simp [S7] at h
    |some z=>rw[hs] at h;exact⟨y,z,.inl ⟨hp,rfl⟩,hs,(aTI h).symm⟩
  · cases hy:BW base n W t y with
    |none=>rw[hy] at h;cases h
    | some y2=>
      rw[hy] at h;simp only[a9k] at h;cases hs:rX t y2 u x o with
      |none=>rw[hs] at h;simp [S7] at h
      |some z=>rw[hs] at h;exact⟨y2,z,.inr hy,hs,(aTI h).symm⟩
theorem aKj {k:Nat}{b:pC}{q:Nat×pC}(h:zH k b=some q):q.1=k:=by
  cases b<;>simp only[zH] at h
  ·cases h
  ·exact(aTI h)▸rfl
  · split at h
    ·exact(aTI h)▸rfl
    ·cases h
  · split at h
    ·exact(aTI h)▸rfl
    ·cases h
  ·cases h
  ·exact(aTI h)▸rfl
theorem aKk {base n i o:Nat}{W:List qT}{u:Ty}{x:u.den}{toks:List (Nat×Nat)}{b:pC}{q:Nat×pC}(h:wO base n i o W u x toks b=some q):q.1=i:=by
  cases b with
  |cells t y ts=>obtain⟨y2,z,_,_,rfl⟩:=ZD h;rfl
  |grow=>simp [wO] at h
  |row=>simp [wO] at h
  |map=>simp [wO] at h
  |iter=>simp [wO] at h
  |dead=>simp only[wO,aTE] at h;exact h▸rfl
theorem LV {base n:Nat}{W:List qT}: ∀{ws:List qT}{R:List pC}{c0:Nat}{upd:List (Nat×pC)},B2 base n W c0 ws R=some upd→
    ws.length≤R.length∧(∀id b,pG upd id=some b→HN base n W ws R c0 id b)∧(∀id,id∈pH upd→∃b,pG upd id=some b)∧
    (∀(c:Nat) wh,ws[c]? =some wh→wh.id∈pH upd)∧(∀(c:Nat) b,R[c]? =some b→ws[c]? =none→base+(c0+c)∈pH upd)
  | [],[],_,upd,h=>by
    simp only[B2,aTE] at h;subst h;exact⟨aTZ _,fun _ _ h=>by simp [pG] at h,fun _ h=>by simp [pH] at h,fun _ _ h=>by simp at h,fun _ _ h=>by simp at h⟩
  | [],b::R,c0,upd,h=>by
    simp only[B2] at h;obtain⟨q,r,h1,h2,rfl⟩:=ZC h;obtain⟨k1,k2,k3,k4,k5⟩:=LV h2;have hq:=aKi h1;obtain⟨q1,q2⟩:=q;simp only at hq;subst hq;refine⟨by simp,fun id b' hg=> ?_,fun id hi=> ?_,fun c wh hw=>by simp at hw,fun c b' hb hn=> ?_⟩
    · simp only[pG] at hg
      split at hg
      · rename_i e
        obtain rfl:=aTI hg;subst e;exact .inr (.inr ⟨0,b,rfl,rfl,by simp,h1⟩)
      ·exact(k2 id b' hg).succ0
    · simp only[pG]
      by_cases e:base+c0=id
      ·rw[aTD e];exact⟨_,rfl⟩
      · rw[aTG e]
        simp only[pH,aTW] at hi;exact k3 id (hi.resolve_left (Ne.symm e))
    · cases c with
      |zero=>simp [pH]
      | succ c=>
        have:=k5 c b' (by simpa using hb) (by simp);simp only[pH,aTW];right;rw[show base+(c0+(c+1))=base+(c0+1+c) from by omega];exact this
  | .box i u x toks o::ws,[],c0,upd,h=>by simp [B2] at h
  | .tok k::ws,[],c0,upd,h=>by simp [B2] at h
  | .box i u x toks o::ws,b::R,c0,upd,h=>by
    simp only[B2] at h;obtain⟨q,r,h1,h2,rfl⟩:=ZC h;obtain⟨k1,k2,k3,k4,k5⟩:=LV h2;have hq:=aKk h1;obtain⟨q1,q2⟩:=q;simp only at hq;subst hq;refine⟨by simp;omega,fun id b' hg=> ?_,fun id hi=> ?_,fun c wh hw=> ?_,fun c b' hb hn=> ?_⟩
    · simp only[pG] at hg
      split at hg
      · rename_i e
        obtain rfl:=aTI hg;subst e;exact .inl ⟨0,q1,u,x,toks,o,b,rfl,rfl,rfl,h1⟩
      ·exact(k2 id b' hg).succ
    · simp only[pG]
      by_cases e:q1=id
      ·rw[aTD e];exact⟨_,rfl⟩
      · rw[aTG e]
        simp only[pH,aTW] at hi;exact k3 id (hi.resolve_left (Ne.symm e))
    · cases c with
      |zero=>simp only[aUb,aTE] at hw;subst hw;simp [pH,qT.id]
      |succ c=>simp only[pH,aTW];exact .inr (k4 c wh (by simpa using hw))
    · cases c with
      |zero=>simp at hn
      | succ c=>
        have:=k5 c b' (by simpa using hb) (by simpa using hn);simp only[pH,aTW];right;rw[show base+(c0+(c+1))=base+(c0+1+c) from by omega];exact this
  | .tok k::ws,b::R,c0,upd,h=>by
    simp only[B2] at h;obtain⟨q,r,h1,h2,rfl⟩:=ZC h;obtain⟨k1,k2,k3,k4,k5⟩:=LV h2;have hq:=aKj h1;obtain⟨q1,q2⟩:=q;simp only at hq;subst hq;refine⟨by simp;omega,fun id b' hg=> ?_,fun id hi=> ?_,fun c wh hw=> ?_,fun c b' hb hn=> ?_⟩
    · simp only[pG] at hg
      split at hg
      · rename_i e
        obtain rfl:=aTI hg;subst e;exact .inr (.inl ⟨0,q1,b,rfl,rfl,rfl,h1⟩)
      ·exact(k2 id b' hg).succ
    · simp only[pG]
      by_cases e:q1=id
      ·rw[aTD e];exact⟨_,rfl⟩
      · rw[aTG e]
        simp only[pH,aTW] at hi;exact k3 id (hi.resolve_left (Ne.symm e))
    · cases c with
      |zero=>simp only[aUb,aTE] at hw;subst hw;simp [pH,qT.id]
      |succ c=>simp only[pH,aTW];exact .inr (k4 c wh (by simpa using hw))
    · cases c with
      |zero=>simp at hn
      | succ c=>
        have:=k5 c b' (by simpa using hb) (by simpa using hn);simp only[pH,aTW];right;rw[show base+(c0+(c+1))=base+(c0+1+c) from by omega];exact this
def sK (g g':Gh) (base:Nat) (W:List qT) (ids:List Nat):Gh:=
  ⟨g'.S,fun i=>if base≤i∧i∈ids then g'.J (i-base) else match vE i W 0 with|some c=>g'.J c|none=>g.J i,
   fun i=>if base≤i∧i∈ids then g'.cur (i-base) else match vE i W 0 with|some c=>g'.cur c|none=>g.cur i⟩
theorem TZ {n c:Nat}{wh:Option qT}:L7 n c wh=true↔c<n∧wh=none:=by
  cases wh with
  |none=>simp [L7]
  |some wh=>simp [L7]
theorem aKl {base n c i:Nat}{wh:Option qT}(h:AH base n c wh=some i):wh=some (.tok i)∨(wh=none∧c<n∧i=base+c):=by
  cases wh with
  | none=>
    simp only[AH] at h;split at h
    ·rename_i hc;exact .inr ⟨rfl,hc,(aTI h).symm⟩
    ·cases h
  | some wh=>
    cases wh with
    |box=>cases h
    |tok k=>simp only[AH,aTE] at h;subst h;exact .inl rfl
theorem U0 {i:Nat}: ∀{ws:List qT}{c0:Nat},(∀c:Nat,ws[c]? ≠some (.tok i))→vE i ws c0=none
  |[],_,_=>rfl
  | .tok j::r,c0,h=>by
    simp only[vE];split
    ·rename_i e;subst e;exact absurd rfl (h 0)
    ·exact U0 (fun c=>by have:=h (c+1);simpa using this)
  | .box _ _ _ _ _::r,c0,h=>by
    simp only[vE];exact U0 (fun c=>by have:=h (c+1);simpa using this)
theorem aKm {i c:Nat}{ws:List qT}(hnd:(rK ws).Nodup) (h:ws[c]? =some (.tok i)):vE i ws 0=some c:=by
  cases hc:vE i ws 0 with
  | none=>
    exfalso
    have: ∀{ws:List qT}{c0 c:Nat},ws[c]? =some (.tok i)→vE i ws c0≠none:=by
      intro ws
      induction ws with
      |nil=>intro c0 c h;simp at h
      | cons wh r ih=>
        intro c0 c h;cases c with
        | zero=>
          simp only[aUb,aTE] at h;subst h;simp [vE]
        | succ c=>
          simp only[aUo] at h;cases wh with
          |box=>exact ih h
          | tok j=>
            simp only[vE];split
            ·simp
            ·exact ih h
    exact this h hc
  | some d=>
    obtain⟨d',e1,h2⟩:=LS hc;rw[aUg] at e1;subst e1;rw[TW hnd h h2 rfl]
theorem Fr.mono {A B:Nat→Nat→Prop}{w w':World}{S S':Nat→Nat→Prop}(h:Fr A w w' S S') (hAB: ∀b o,A b o→B b o):Fr B w w' S S':=
  ⟨h.os,h.tape,h.output,h.size,fun b hb hn=>h.blk b hb (fun o ho=>hn o (hAB b o ho)),fun b o hb hn=>h.cell b o hb (fun ho=>hn (hAB b o ho)),fun b o hs=>(h.new b o hs).imp id (Or.imp id (hAB b o)),fun b s hs=>(h.shape b s hs).imp id fun h o=>hAB b o (h o)⟩
theorem U1 {base n:Nat}{W:List qT}{o:Nat}: ∀{ts:List (Nat×Nat)}{q k:Nat},(q,k)∈D8 base n W o ts→∃q' c,(q',c)∈ts∧AH base n c (AG W c)=some k∧q=o+q'
  |[],_,_,h=>by simp [D8] at h
  | (q',c)::r,q,k,h=>by
    simp only[D8] at h;cases hn:AH base n c (AG W c) with
    | none=>
      rw[hn] at h;obtain⟨a,b,h1,h2⟩:=U1 h;exact⟨a,b,aTS _ h1,h2⟩
    | some k'=>
      rw[hn] at h;rcases aTW.1 h with h|h
      · simp only[aUa] at h
        obtain⟨rfl,rfl⟩:=h;exact⟨q',c,by simp,hn,rfl⟩
      · obtain⟨a,b,h1,h2⟩:=U1 h
        exact⟨a,b,aTS _ h1,h2⟩
theorem vX {α:Type}{x:α}: ∀{l m:List α},x∈pX l m↔x∈l∨x∈m
  |[],m=>by simp [pX]
  |y::l,m=>by simp [pX,vX (l:=l),or_assoc]
theorem ZE: ∀{toks:List (Nat×Nat)}{off n q k:Nat},(q,k)∈uN toks off n→(q,k)∈toks∧¬(off≤q∧q<off+n)
  |[],_,_,_,_,h=>by simp [uN] at h
  | (q',k')::r,off,n,q,k,h=>by
    simp only[uN] at h;split at h
    · obtain⟨h1,h2⟩:=ZE h
      exact⟨aTS _ h1,h2⟩
    · rename_i hn
      rcases aTW.1 h with h|h
      · cases h
        exact⟨by simp,hn⟩
      · obtain⟨h1,h2⟩:=ZE h
        exact⟨aTS _ h1,h2⟩
section
variable {g g':Gh}{w w':World}{H:rI}{W:List qT}{L:List pC}{r:pJ}{v:Value}{base:Nat}{upd:List (Nat×pC)}
variable (hH:rT g w H) (hm:OX H W L) (hr:JN (uH g W) w L r g' w' v) (hb:B2 base r.H.length W 0 W r.H=some upd) (hf: ∀i,i∈pH upd→base≤i→g.J i=none∧∀n,g.cur i n=none)
include hH hm hr hb hf
theorem ES {c:Nat}{wh:qT}(hw:W[c]? =some wh):wh.id∈pH upd∧wh.id<base∧∃b,L[c]? =some b∧TT H W wh b:=by
  have hin:=(LV hb).2.2.2.1 c wh hw;have hlt:c<L.length:=hm.len▸(aTU.1 hw).1;have hok:=hm.ok c wh _ hw (aTM hlt);refine⟨hin,Nat.lt_of_not_le fun hle=> ?_,_,aTM hlt,hok⟩;have hfr:=hf _ hin hle;cases wh with
  | box i u x toks o=>
    cases hL:L[c] with
    | cells t y ts=>
      rw[hL] at hok;obtain⟨p,cs,hp,_⟩:=hH.blk i _ hok.1;rw[show (qT.box i u x toks o).id=i from rfl] at hfr;rw[hfr.1] at hp;cases hp
    |_=>rw[hL] at hok;exact hok.elim
  | tok k=>
    cases hL:L[c] with
    | grow e cc m=>
      rw[hL] at hok;obtain⟨v,xs,hv,_⟩:=hH.blk k _ hok;rw[show (qT.tok k).id=k from rfl] at hfr;rw[hfr.2] at hv;cases hv
    | map s t l=>
      rw[hL] at hok;obtain⟨p,es,cl,hp,_⟩:=hH.blk k _ hok.1;rw[show (qT.tok k).id=k from rfl] at hfr;rw[hfr.1] at hp;cases hp
    | row e t l m=>
      rw[hL] at hok;obtain⟨_,v,xs,hv,_⟩:=hH.blk k _ hok.1;rw[show (qT.tok k).id=k from rfl] at hfr;rw[hfr.2] at hv;cases hv
    |_=>rw[hL] at hok;exact hok.elim
theorem aKn {c:Nat}(hc:c<r.H.length) (hn:W[c]? =none):base+c∈pH upd:=by
  have:=(LV hb).2.2.2.2 c _ (aTM hc) hn;simpa using this
theorem LW {c:Nat}(hc:c<r.H.length) (hn:W[c]? =none):(sK g g' base W (pH upd)).J (base+c)=g'.J c∧(sK g g' base W (pH upd)).cur (base+c)=g'.cur c:=by
  have hin:=aKn hH hm hr hb hf hc hn;refine⟨?_,?_⟩
  · show (if base≤base+c∧base+c∈pH upd then _ else _)=_
    rw[aTD ⟨by omega,hin⟩,aUw]
  · show (if base≤base+c∧base+c∈pH upd then _ else _)=_
    rw[aTD ⟨by omega,hin⟩,aUw]
theorem aAN {i:Nat}(hi: ¬(base≤i∧i∈pH upd)) (hn:vE i W 0=none):(sK g g' base W (pH upd)).J i=g.J i∧(sK g g' base W (pH upd)).cur i=g.cur i:=by
  refine⟨?_,?_⟩
  · show (if base≤i∧i∈pH upd then _ else _)=_
    rw[aTG hi,hn]
  · show (if base≤i∧i∈pH upd then _ else _)=_
    rw[aTG hi,hn]
theorem aAO {c k:Nat}(hw:W[c]? =some (.tok k)):(sK g g' base W (pH upd)).J k=g'.J c∧(sK g g' base W (pH upd)).cur k=g'.cur c:=by
  have hlt:=(ES hH hm hr hb hf hw).2.1;simp only[qT.id] at hlt;have hc:=aKm hm.nodup hw;refine⟨?_,?_⟩
  · show (if base≤k∧k∈pH upd then _ else _)=_
    rw[aTG (by omega),hc]
  · show (if base≤k∧k∈pH upd then _ else _)=_
    rw[aTG (by omega),hc]
theorem OY {c i:Nat}{u:Ty}{x:u.den}{toks:List (Nat×Nat)}{o:Nat}(hw:W[c]? =some (.box i u x toks o)):(sK g g' base W (pH upd)).J i=g.J i∧(sK g g' base W (pH upd)).cur i=g.cur i:=by
  have hlt:=(ES hH hm hr hb hf hw).2.1;simp only[qT.id] at hlt;refine aAN hH hm hr hb hf (by omega) (U0 fun d hd=> ?_);have:=TW hm.nodup hw hd rfl;subst this;rw[hw] at hd;cases hd
theorem JP {c i:Nat}(hi:AH base r.H.length c W[c]? =some i):(sK g g' base W (pH upd)).J i=g'.J c∧(sK g g' base W (pH upd)).cur i=g'.cur c:=by
  rcases aKl hi with h|⟨h1,h2,rfl⟩
  ·exact aAO hH hm hr hb hf h
  ·exact LW hH hm hr hb hf h2 h1
theorem aAP:Le g w (sK g g' base W (pH upd)) w':=by
  have len: ∀{i c:Nat},vE i W 0=some c→W[c]? =some (.tok i)∧c<L.length:=by
    intro i c h;obtain⟨d,e1,h2⟩:=LS h;rw[aUg] at e1;subst e1;exact⟨h2,hm.len▸(aTU.1 h2).1⟩
  refine⟨fun b o h=>(hr.shut b o h).1,fun b o h=>(hr.shut b o h).2,fun i p h=> ?_,fun i n u h=> ?_⟩
  · show (if base≤i∧i∈pH upd then _ else _)=_
    rw[aTG (fun⟨h1,h2⟩=>by rw[(hf i h2 h1).1] at h;cases h)];cases hc:vE i W 0 with
    |none=>exact h
    | some c=>
      obtain⟨h1,h2⟩:=len hc;refine hr.Jt c p h2 ?_;show v8 g W[c]? =_;rw[h1];exact h
  · show (if base≤i∧i∈pH upd then g'.cur (i-base) else match vE i W 0 with|some c=>g'.cur c|none=>g.cur i) n=_
    rw[aTG (fun⟨h1,h2⟩=>by rw[(hf i h2 h1).2] at h;cases h)];cases hc:vE i W 0 with
    |none=>exact h
    | some c=>
      obtain⟨h1,h2⟩:=len hc;refine hr.cur c n u h2 ?_;show B6 g W[c]? n=_;rw[h1];exact h
theorem aKo {t:Ty}{x y:t.den}{cs:List Value}(hx:Rd g' w' t x cs) (h:BW base r.H.length W t x=some y):Rd (sK g g' base W (pH upd)) w' t y cs:=by
  refine TV (g:=g') (g':=sK g g' base W (pH upd)) rfl (BW base r.H.length W) (fun a b x=>rfl) (fun t x=>rfl) (fun _=>rfl) (fun _ _=>rfl) (fun _=>rfl) (fun _=>rfl) (fun _=>rfl) (fun _ _ x y cs h hx=> ?_) (fun x y cs h hx=> ?_) (fun x y cs h hx=> ?_) (fun x y cs h hx=> ?_) (fun _=>rfl) hx h
  · cases x with
    |none=>cases h;exact hx
    | some q=>
      obtain⟨c,n⟩:=q;simp only[BW,a9i,zP] at h;obtain⟨i,hi,rfl⟩:=aTT.1 h;obtain⟨v,hv,hs⟩:=hx;exact⟨v,by rw[(JP hH hm hr hb hf hi).2];exact hv,hs⟩
  · cases x with
    |none=>cases h;exact hx
    | some q=>
      obtain⟨c,o⟩:=q;simp only[BW,JA] at h;obtain⟨p,hp,hv⟩:=hx;unfold JA.back2 at h;split at h
      · rename_i i uu x toks o' hwh
        cases h;rw[zP] at hwh;obtain⟨_,hlt,b,hL,hok⟩:=ES hH hm hr hb hf hwh;cases b with
        | cells t y ts=>
          have hJ:=hr.J c t y ts hL;rw[hp] at hJ;have hJ':v8 g W[c]? =some p:=hJ.symm;rw[hwh] at hJ';obtain⟨p0,hp0,rfl⟩:=aTT.1 hJ';exact⟨p0,by rw[(OY hH hm hr hb hf hwh).1];exact hp0,by have:=hv.1;rwa [aUn] at this,hv.2.imp id fun hv=>by rw[hv];simp [aUn]⟩
        |_=>exact hok.elim
      · split at h
        · rename_i hn
          cases h;obtain⟨h1,h2⟩:=TZ.1 hn;rw[zP] at h2;exact⟨p,by rw[(LW hH hm hr hb hf h1 h2).1];exact hp,hv⟩
        ·cases h
  · cases x with
    |none=>cases h;exact hx
    | some q=>
      obtain⟨c,o⟩:=q;simp only[BW,JA] at h;obtain⟨p,hp,hv⟩:=hx;unfold JA.back2 at h;split at h
      · rename_i i uu x toks o' hwh
        cases h;rw[zP] at hwh;obtain⟨_,hlt,b,hL,hok⟩:=ES hH hm hr hb hf hwh;cases b with
        | cells t y ts=>
          have hJ:=hr.J c t y ts hL;rw[hp] at hJ;have hJ':v8 g W[c]? =some p:=hJ.symm;rw[hwh] at hJ';obtain⟨p0,hp0,rfl⟩:=aTT.1 hJ';exact⟨p0,by rw[(OY hH hm hr hb hf hwh).1];exact hp0,by rw[hv];simp [aUn]⟩
        |_=>exact hok.elim
      · split at h
        · rename_i hn
          cases h;obtain⟨h1,h2⟩:=TZ.1 hn;rw[zP] at h2;exact⟨p,by rw[(LW hH hm hr hb hf h1 h2).1];exact hp,hv⟩
        ·cases h
  · cases x with
    |none=>cases h;exact hx
    | some c=>
      simp only[BW,a9h,zP] at h;obtain⟨i,hi,rfl⟩:=aTT.1 h;obtain⟨p,hp,hv⟩:=hx;exact⟨p,by rw[(JP hH hm hr hb hf hi).1];exact hp,hv⟩
theorem aAQ {t:Ty}{x y:t.den}{cs:List Value}(hx:Rd g' w' t x cs) (h:bY base r.H.length W t x y):Rd (sK g g' base W (pH upd)) w' t y cs:=by
  rcases h with⟨hp,rfl⟩ |h
  ·exact uV (g:=g') (g':=sK g g' base W (pH upd)) rfl hp hx
  ·exact aKo hH hm hr hb hf hx h
omit hH hm hr hb hf in
theorem aAR {n:Nat}{t u:Ty}{x y:t.den}{o:Nat}{l:List u.den}(h:bY base n W t x y) (hg:qK (.list u) t x o=some l):qK (.list u) t y o=some l:=by
  rcases h with⟨_,rfl⟩ |h
  ·exact hg
  ·exact ZA (BW base n W) (fun _ _ _=>rfl) (fun _ _=>rfl) h hg
theorem aAS: ∀(cs:List (Nat×Nat)) {l:List (Nat×Nat)}{vs:List Value},xB g' cs vs→L8 base r.H.length W cs=some l→xB (sK g g' base W (pH upd)) l vs
  |[],l,vs,h,e=>by cases e;exact h
  | (c,o)::cs,l,vs,⟨p,vs',hp,hv,hr'⟩,e=>by
    unfold L8 at e;cases h1:XJ base r.H.length c o (AG W c) with
    |none=>rw[h1] at e;cases e
    | some q=>
      cases h2:L8 base r.H.length W cs with
      |none=>rw[h1,h2] at e;cases e
      | some l'=>
        rw[h1,h2] at e;cases e;refine(?_ : ∃p vs',_);have ih:=aAS cs hr' h2;unfold XJ at h1;split at h1
        · rename_i i uu x toks o' hwh
          cases h1;rw[zP] at hwh;obtain⟨_,hlt,b,hL,hok⟩:=ES hH hm hr hb hf hwh;cases b with
          | cells t y ts=>
            have hJ:=hr.J c t y ts hL;rw[hp] at hJ;have hJ':v8 g W[c]? =some p:=hJ.symm;rw[hwh] at hJ';obtain⟨p0,hp0,rfl⟩:=aTT.1 hJ';exact⟨p0,vs',by rw[(OY hH hm hr hb hf hwh).1];exact hp0,by rw[hv];simp [aUn],ih⟩
          |_=>exact hok.elim
        · split at h1
          · rename_i hn
            cases h1;obtain⟨h3,h4⟩:=TZ.1 hn;rw[zP] at h4;exact⟨p,vs',by rw[(LW hH hm hr hb hf h3 h4).1];exact hp,hv,ih⟩
          ·cases h1
theorem aKp {s:pD}{u:Value}(h:r5 g' w' s u):r5 (sK g g' base W (pH upd)) w' (S6 base r.H.length W s) u:=by
  obtain⟨d,k⟩:=s
  have tokk: ∀{t:Ty}(hp:t.pure=true) {x:t.den}{k:Option Nat},r5 g' w' (.val t x,k) u→r5 (sK g g' base W (pH upd)) w' (.val t x,J9 base r.H.length W k) u:=by
    intro t hp x k h;cases k with
    |none=>exact TR (g:=g') (g':=sK g g' base W (pH upd)) (k:=none) (k':=none) rfl hp h (fun c e=>by cases e) (fun _=>rfl)
    | some c=>
      simp only[J9,zP];cases hn:AH base r.H.length c W[c]? with
      | some i=>
        refine TR (g:=g') (g':=sK g g' base W (pH upd)) (k:=some c) (k':=some i) rfl hp h (fun c' e=> ?_) (fun e=>by cases e);cases e;refine⟨_,rfl,fun n u hu=> ?_⟩;rw[(JP hH hm hr hb hf hn).2];exact hu
      | none=>
        exact TR (g:=g') (g':=sK g g' base W (pH upd)) (k:=none) (k':=none) rfl hp ⟨h.1,trivial⟩ (fun c e=>by cases e) (fun _=>rfl)
  unfold S6;split
  · rename_i c m k' heq
    simp only[aUa] at heq;obtain⟨rfl,rfl⟩:=heq;simp only[J9,zP];cases hn:AH base r.H.length c W[c]? with
    | some i=>
      obtain⟨h3,h4⟩:=h.1;exact⟨⟨by rw[(JP hH hm hr hb hf hn).2];exact h3,h4⟩,trivial⟩
    |none=>exact⟨trivial,trivial⟩
  · rename_i c o k' heq
    simp only[aUa] at heq;obtain⟨rfl,rfl⟩:=heq;obtain⟨p,hp,hv⟩:=AI h.1;unfold a9g;split
    · rename_i i uu x toks o' hwh
      rw[zP] at hwh;obtain⟨_,hlt,b,hL,hok⟩:=ES hH hm hr hb hf hwh;cases b with
      | cells t y ts=>
        have hJ:=hr.J c t y ts hL;rw[hp] at hJ;have hJ':v8 g W[c]? =some p:=hJ.symm;rw[hwh] at hJ';obtain⟨p0,hp0,rfl⟩:=aTT.1 hJ';refine⟨.inr ⟨rfl,p0,by rw[(OY hH hm hr hb hf hwh).1];exact hp0,?_⟩,trivial⟩;rw[hv];simp [aUn]
      |_=>exact hok.elim
    · split
      · rename_i hn
        obtain⟨h1,h2⟩:=TZ.1 hn;rw[zP] at h2;exact⟨.inr ⟨rfl,p,by rw[(LW hH hm hr hb hf h1 h2).1];exact hp,by rw[hv]⟩,trivial⟩
      ·exact⟨trivial,trivial⟩
  · rename_i k' heq
    simp only[aUa] at heq;obtain⟨rfl,rfl⟩:=heq;rcases h.1 with⟨h1,_⟩ |⟨h1,h2⟩
    ·cases h1
    ·exact⟨.inr ⟨h1,h2⟩,trivial⟩
  · rename_i c k' heq
    simp only[aUa] at heq;obtain⟨rfl,rfl⟩:=heq;simp only[J9,zP];cases hn:AH base r.H.length c W[c]? with
    | some i=>
      obtain⟨p,hp,hv⟩:LL g' (some c) [u]:=C1 rfl h.1;exact⟨.inr ⟨rfl,p,by rw[(JP hH hm hr hb hf hn).1];exact hp,hv⟩,trivial⟩
    |none=>exact⟨trivial,trivial⟩
  · rename_i f cs k' heq
    simp only[aUa] at heq;obtain⟨rfl,rfl⟩:=heq;cases hc:L8 base r.H.length W cs with
    |none=>exact⟨trivial,trivial⟩
    | some l=>
      rcases h.1 with⟨h1,_⟩ |⟨_,vs,h2,h3⟩
      ·cases h1
      ·exact⟨.inr ⟨rfl,vs,aAS hH hm hr hb hf cs h2 hc,h3⟩,trivial⟩
  · rename_i t x k' hno hno0 hno2 hno3 heq
    simp only[aUa] at heq;obtain⟨rfl,rfl⟩:=heq;split
    · rename_i hp
      exact tokk hp (aAq h)
    ·exact⟨trivial,trivial⟩
  ·exact⟨trivial,trivial⟩
end
theorem aAT {g:Gh}{w:World}{H:rI}{W:List qT}{L:List pC}(hH:rT g w H) (hm:OX H W L) {bb oo:Nat}(h:yW (uH g W) (pN 0 L) bb oo):
  ∃(c:Nat) (wh:qT) (b blk:pC),W[c]? =some wh/\L[c]? =some b/\rJ (uH g W) c b bb oo/\pG H wh.id=some blk/\rJ g wh.id blk bb oo:=by
 obtain⟨c,b,hc,ho⟩:=h;rw[xC] at hc;have hlt:c<W.length:=hm.len▸(aTU.1 hc).1;have hwh:W[c]? =some W[c]:=aTM hlt;have hw:=hm.ok c _ b hwh hc;refine⟨c,W[c],b,?_⟩;generalize W[c]=wh at hwh hw;cases wh with
 |box i u x toks off=>
  cases b with
  |cells t y ts=>
   obtain⟨h1,⟨y0,h2,h3⟩,h4⟩:=hw;obtain⟨p,hp,e1,e2,e3⟩:=ho;have hp':v8 g W[c]? =some p:=hp;rw[hwh] at hp';obtain⟨p0,hp0,rfl⟩:=aTT.1 hp';obtain⟨p1,cs,hp1,hR,_⟩:=hH.blk i _ h1;obtain⟨c1,c2,c3,hcs,hl,hR2⟩:=EQ hR h2;have l1:=s0 hR;have l2:=s0 hR2;rw[hcs] at l1;simp only[aTH] at l1;exact⟨_,hwh,hc,⟨_,hp,e1,e2,e3⟩,h1,p0,hp0,e1,by simp at e2;omega,by simp at e3;omega⟩
  |_=>exact hw.elim
 |tok k=>
  cases b with
  |grow e cc m=>
   obtain⟨v,hv,hb⟩:=ho;have hv':B6 g W[c]? m=some v:=hv;rw[hwh] at hv';exact⟨_,hwh,hc,⟨v,hv,hb⟩,hw,v,hv',hb⟩
  |map s t l=>
   obtain⟨p,hp,hb⟩:=ho;have hp':v8 g W[c]? =some p:=hp;rw[hwh] at hp';exact⟨_,hwh,hc,⟨p,hp,hb⟩,hw.1,p,hp',hb⟩
  |row e t l m=>
   obtain⟨v,hv,hb⟩:=ho;have hv':B6 g W[c]? m=some v:=hv;rw[hwh] at hv';exact⟨_,hwh,hc,⟨v,hv,hb⟩,hw.1,v,hv',hb⟩
  |_=>exact hw.elim
section
variable {g g':Gh}{w w':World}{H:rI}{W:List qT}{L:List pC}{r:pJ}{v:Value}{base:Nat}{upd:List (Nat×pC)}
variable (hH:rT g w H) (hm:OX H W L) (hr:JN (uH g W) w L r g' w' v) (hb:B2 base r.H.length W 0 W r.H=some upd) (hf: ∀i,i∈pH upd->base<=i->g.J i=none/\∀n,g.cur i n=none)
include hH hm hr hb hf
theorem ZF {b o:Nat}(h:yW (uH g W) (pN 0 L) b o):s9 g H (pH upd) b o:=by
 obtain⟨c,wh,b0,blk,h1,h2,h3,h4,h5⟩:=aAT hH hm h;exact⟨wh.id,blk,(ES hH hm hr hb hf h1).1,h4,h5⟩
theorem aKq:Fr (s9 g H (pH upd)) w w' g.S (sK g g' base W (pH upd)).S:=hr.fr.mono fun _ _ h=>ZF hH hm hr hb hf h
theorem U2 {id:Nat}{b:pC}(hi:id∈pH upd) (hg:pG (pX upd H) id=some b):HN base r.H.length W W r.H 0 id b:=by
 obtain⟨_,k2,k3,_⟩:=LV hb;obtain⟨b',hb'⟩:=k3 id hi;have:pG (pX upd H) id=some b':=by
  have: ∀{u:List (Nat×pC)},pG u id=some b'->pG (pX u H) id=some b':=by
   intro u
   induction u with
   |nil=>intro h;cases h
   |cons q u ih=>
    intro h;simp only[pX,pG] at h⊢;split
    ·rename_i e;rw[aTD e] at h;exact h
    ·rename_i e;rw[aTG e] at h;exact ih h
  exact this hb'
 rw[this] at hg;obtain rfl:=aTI hg;exact k2 id b' hb'
theorem ZG {c i o:Nat}{u:Ty}{x:u.den}{toks:List (Nat×Nat)}{b0 b:pC}(hW:W[c]? =some (.box i u x toks o)) (hR:r.H[c]? =some b0) (hbb:wO base r.H.length i o W u x toks b0=some (i,b)):
  zL (sK g g' base W (pH upd)) w' i b/\(∀bb oo,rJ (sK g g' base W (pH upd)) i b bb oo->rJ g i (.cells u x toks) bb oo/\pG H i=some (.cells u x toks))/\
   ∀bb oo,rJ (sK g g' base W (pH upd)) i b bb oo->rJ g' c b0 bb oo\/(bb<w.heap.size/\¬yW (uH g W) (pN 0 L) bb oo):=by
 obtain⟨hin,hlt,bL,hL,hok⟩:=ES hH hm hr hb hf hW;have hJi:=(OY hH hm hr hb hf hW).1;have hle:=aAP hH hm hr hb hf;cases bL with
 |grow=>exact hok.elim
 |row=>exact hok.elim
 |map=>exact hok.elim
 |iter=>exact hok.elim
 |dead=>exact hok.elim
 |cells tL yL tsL=>
  obtain⟨h1,h2,h4⟩:=hok;obtain⟨p,cs,hp,hRd,hra,hth,hns,htk⟩:=hH.blk i _ h1;cases b0 with
  |grow=>simp [wO] at hbb
  |row=>simp [wO] at hbb
  |map=>simp [wO] at hbb
  |iter=>simp [wO] at hbb
  |dead=>
   simp only[wO,aTE,aUa,true_and] at hbb;subst hbb;exact⟨trivial,fun _ _ h=>h.elim,fun _ _ h=>h.elim⟩
  |cells t y ts=>
   have htt:=hr.ty c _ _ _ _ _ _ hL hR;subst htt;obtain⟨y2,z,hbY,hset,hq⟩:=ZD hbb
   ·simp only[aUa,true_and] at hq;subst hq;have hblk:=hr.heap.blk c _ (by rw[xC];exact hR);obtain⟨p',cs',hp',hRd',hra',hth',hns',htk'⟩:=hblk;have hJc:=hr.J c _ _ _ hL;have hpc:g'.J c=some ⟨p.1,p.2+o,p.3⟩:=by
     rw[hJc];show v8 g W[c]? =_;rw[hW];simp [v8,hp]
    rw[hpc] at hp';obtain rfl:=aTI hp';have hRdx:Rd (sK g g' base W (pH upd)) w' u x cs:=wS hle hRd;have hRdy:Rd (sK g g' base W (pH upd)) w' t y2 cs':=aAQ hH hm hr hb hf hRd' hbY;obtain⟨c1,c2,c3,hcs,hl1,hl2,hz⟩:=TC hRdy hRdx hset;subst hcs;subst hl1;have l0:=s0 hRd;have l1:=s0 hRd';simp only[aTH] at l0;have hfar: ∀q,q<u.cells->¬(c1.length<=q/\q<c1.length+t.cells)->¬yW (uH g W) (pN 0 L) p.1 (p.2+q):=by
     intro q hq hno hown;obtain⟨c',wh',b',blk',k1,k2,k3,k4,k5⟩:=aAT hH hm hown;by_cases hcc:c'=c
     ·subst hcc;rw[hW] at k1;obtain rfl:=aTI k1;rw[hL] at k2;obtain rfl:=aTI k2;obtain⟨pp,hpp,e1,e2,e3⟩:=k3;have hpp':v8 g W[c']? =some pp:=hpp;rw[hW] at hpp';simp only[v8,hp,Option.map_some,aTE] at hpp';subst hpp';simp only at e2 e3;exact hno ⟨by omega,by omega⟩
     ·have hid:wh'.id≠i:=fun e=>hcc (TW hm.nodup k1 hW e);exact hH.dis wh'.id i blk' _ p.1 (p.2+q) hid k4 h1 k5 ⟨p,hp,rfl,by omega,by omega⟩
    have hlt': ∀q,q<u.cells->p.1<w.heap.size:=fun q hq=>ON (hH.blk i _ h1) (b:=p.1) (o:=p.2+q) ⟨p,hp,rfl,by omega,by omega⟩;have hkeep: ∀q,q<u.cells->¬(c1.length<=q/\q<c1.length+t.cells)->w'.cell? ⟨p.1,p.2+q,none⟩=w.cell? ⟨p.1,p.2+q,none⟩/\w'.frozen? ⟨p.1,p.2+q,none⟩=w.frozen? ⟨p.1,p.2+q,none⟩:=fun q hq hno=>hr.fr.cell _ _ (hlt' q hq) (hfar q hq hno);refine⟨⟨p,c1++cs'++c3,by rw[hJi];exact hp,hz,fun q vv hv=> ?_,⟨fun q hq=> ?_,fun h0 s hs=> ?_⟩,fun q hq hs=> ?_,?_⟩,fun bb oo ho=>⟨?_,h1⟩,fun bb oo ho=> ?_⟩
    ·by_cases a1:q<c1.length
     ·rw[(hkeep q (by omega) (by omega)).1];refine hra q vv ?_;rw[aTN,aTY a1] at hv⊢;exact hv
     ·by_cases a2:q<c1.length+t.cells
      ·rw[aTN,aTP (by omega),aTY (by omega)] at hv;have:=hra' (q-c1.length) vv hv;rwa [show p.2+c1.length+(q-c1.length)=p.2+q from by omega] at this
      ·rw[aTN,aTP (by omega),aTP (by omega)] at hv;have hq:q<u.cells:=by
        have:=(aTU.1 hv).1;omega
       rw[(hkeep q hq (by omega)).1];refine hra q vv ?_;rw[aTN,aTP (by omega),aTP (by omega),hl2];rw[l1] at hv;exact hv
    ·by_cases a1:c1.length<=q/\q<c1.length+t.cells
     ·have:=hth'.1 (q-c1.length) (by omega);rwa [show p.2+c1.length+(q-c1.length)=p.2+q from by omega] at this
     ·rw[(hkeep q hq a1).1,(hkeep q hq a1).2];exact hth.1 q hq
    ·by_cases ht0:0<t.cells
     ·exact hth'.2 ht0 s hs
     ·exact(hr.fr.shape p.1 s (hth.2 h0 s hs)).resolve_right fun h=>hfar 0 h0 (by omega) (h (p.2+0))
    ·by_cases a1:c1.length<=q/\q<c1.length+t.cells
     ·exact hns' (q-c1.length) (by omega) (by rw[show p.2+c1.length+(q-c1.length)=p.2+q from by omega];exact hs)
     ·rcases hr.fr.new _ _ hs with k|k|k
      ·exact hns q hq k
      ·have:=hlt' q hq;omega
      ·exact hfar q hq a1 k
    ·intro q kk hmem;rcases vX.1 hmem with hmem|hmem
     ·obtain⟨q',c',k1,k2,rfl⟩:=U1 hmem;rw[zP] at k2;obtain⟨u',l,vv,g1,g2,g3⟩:=htk' q' c' k1;have hq':=aAi g1;refine⟨u',l,vv,aAh hset (aAR hbY g1) hq',?_,?_⟩
      ·rw[aTN,aTP (by omega),aUw,aTY (by omega)];exact g2
      ·rw[(JP hH hm hr hb hf k2).2];exact g3
     ·obtain⟨k1,k2⟩:=ZE hmem;obtain⟨u',l,vv,g1,g2,g3⟩:=htk q kk k1;refine⟨u',l,vv,a98 hH hset g1 k2,?_,hle.cur _ _ _ g3⟩;rcases aUX q c1.length with a1|a1
      ·rw[aTN,aTY a1] at g2⊢;exact g2
      ·rw[aTN,aTP (by omega),aTP (by omega)] at g2⊢;rw[l1];rw[hl2] at g2;exact g2
    ·obtain⟨pp,hpp,e1,e2,e3⟩:=ho;rw[hJi,hp] at hpp;obtain rfl:=aTI hpp;exact⟨p,hp,e1,e2,e3⟩
    ·obtain⟨pp,hpp,e1,e2,e3⟩:=ho;rw[hJi,hp] at hpp;obtain rfl:=aTI hpp;subst e1;by_cases a1:c1.length<=oo-p.2/\oo-p.2<c1.length+t.cells
     ·exact .inl ⟨_,hpc,rfl,by simp only;omega,by simp only;omega⟩
     ·right;refine⟨hlt' (oo-p.2) (by omega),?_⟩;have:=hfar (oo-p.2) (by omega) a1;rwa [show p.2+(oo-p.2)=oo from by omega] at this
theorem ZH {c:Nat}{b0 b:pC}(hn:W[c]? =none) (hR:r.H[c]? =some b0) (hbn:D9 base r.H.length c W b0=some (base+c,b)):
  zL (sK g g' base W (pH upd)) w' (base+c) b/\∀bb oo,rJ (sK g g' base W (pH upd)) (base+c) b bb oo->rJ g' c b0 bb oo:=by
 have hc:=(aTU.1 hR).1;obtain⟨hJ,hcur⟩:=LW hH hm hr hb hf hc hn;have hblk:=hr.heap.blk c _ (by rw[xC];exact hR);cases b0 with
 |dead=>
  simp only[D9,aTE,aUa,true_and] at hbn;subst hbn;exact⟨trivial,fun _ _ h=>h.elim⟩
 |grow e m k=>
  simp only[D9,aTE,aUa,true_and] at hbn;subst hbn;obtain⟨u,xs,hv,h1,h2,h3⟩:=hblk;exact⟨⟨u,xs,by rw[hcur];exact hv,h1,fun m hm'=>by rw[hcur];exact h2 m hm',h3⟩,fun bb oo ⟨v',hv',hb'⟩=>⟨v',by rw[hcur] at hv';exact hv',hb'⟩⟩
 |row e t l n=>
  simp only[D9] at hbn;split at hbn
  ·rename_i hp;simp only[aTE,aUa,true_and] at hbn;subst hbn;obtain⟨h0,u,xs,hv,h1,h4,h2,h3⟩:=hblk;exact⟨⟨h0,u,xs,by rw[hcur];exact hv,h1,CQ (fun _ _ h=>uV (g:=g') (g':=sK g g' base W (pH upd)) rfl hp h) h4,fun m hm'=>by rw[hcur];exact h2 m hm',h3⟩,fun bb oo ⟨v',hv',hb'⟩=>⟨v',by rw[hcur] at hv';exact hv',hb'⟩⟩
  ·cases hbn
 |iter s n=>simp [D9] at hbn
 |map k v l=>
  simp only[D9] at hbn;split at hbn
  ·rename_i hp;rw[aTL] at hp;simp only[aTE,aUa,true_and] at hbn;subst hbn;obtain⟨p,es,cl,hp1,hp0,hh,hM,hS⟩:=hblk;exact⟨⟨p,es,cl,by rw[hJ];exact hp1,hp0,hh,OK (g:=g') (g':=sK g g' base W (pH upd)) rfl hp.1 hp.2 hM,hS⟩,fun bb oo ⟨pp,hpp,e⟩=>⟨pp,by rw[hJ] at hpp;exact hpp,e⟩⟩
  ·cases hbn
 |cells t y ts=>
  have wA: ∀y2,bY base r.H.length W t y y2->zL (sK g g' base W (pH upd)) w' (base+c) (.cells t y2 (D8 base r.H.length W 0 ts))/\∀bb oo,rJ (sK g g' base W (pH upd)) (base+c) (.cells t y2 (D8 base r.H.length W 0 ts)) bb oo->rJ g' c (.cells t y ts) bb oo:=by
   intro y2 hbY;obtain⟨p,cs,hp1,hR1,h1,h2,h3,h4⟩:=hblk;refine⟨⟨p,cs,by rw[hJ];exact hp1,aAQ hH hm hr hb hf hR1 hbY,h1,h2,h3,fun q kk hmem=> ?_⟩,fun bb oo ⟨pp,hpp,e⟩=>⟨pp,by rw[hJ] at hpp;exact hpp,e⟩⟩;obtain⟨q',c',k1,k2,rfl⟩:=U1 hmem;rw[zP] at k2;obtain⟨u',l,vv,g1,g2,g3⟩:=h4 q' c' k1;exact⟨u',l,vv,by rw[aUg];exact aAR hbY g1,by rw[aUg];exact g2,by rw[(JP hH hm hr hb hf k2).2];exact g3⟩
  simp only[D9] at hbn;split at hbn
  ·rename_i hp;simp only[aTE,aUa,true_and] at hbn;subst hbn;exact wA y (.inl ⟨hp,rfl⟩)
  ·obtain⟨y2,hy,hq⟩:=aAM hbn;simp only[aUa,true_and] at hq;subst hq;exact wA y2 (.inr hy)
theorem ZI {c k:Nat}{b0 b:pC}(hW:W[c]? =some (.tok k)) (hR:r.H[c]? =some b0) (hbk:zH k b0=some (k,b)):
  zL (sK g g' base W (pH upd)) w' k b/\∀bb oo,rJ (sK g g' base W (pH upd)) k b bb oo->rJ g' c b0 bb oo:=by
 obtain⟨hJ,hcur⟩:=aAO hH hm hr hb hf hW;have hblk:=hr.heap.blk c _ (by rw[xC];exact hR);cases b0 with
 |dead=>
  simp only[zH,aTE,aUa,true_and] at hbk;subst hbk;exact⟨trivial,fun _ _ h=>h.elim⟩
 |grow e m n=>
  simp only[zH,aTE,aUa,true_and] at hbk;subst hbk;obtain⟨u,xs,hv,h1,h2,h3⟩:=hblk;exact⟨⟨u,xs,by rw[hcur];exact hv,h1,fun m hm'=>by rw[hcur];exact h2 m hm',h3⟩,fun bb oo ⟨v',hv',hb'⟩=>⟨v',by rw[hcur] at hv';exact hv',hb'⟩⟩
 |row e t l n=>
  simp only[zH] at hbk;split at hbk
  ·rename_i hp;simp only[aTE,aUa,true_and] at hbk;subst hbk;obtain⟨h0,u,xs,hv,h1,h4,h2,h3⟩:=hblk;exact⟨⟨h0,u,xs,by rw[hcur];exact hv,h1,CQ (fun _ _ h=>uV (g:=g') (g':=sK g g' base W (pH upd)) rfl hp h) h4,fun m hm'=>by rw[hcur];exact h2 m hm',h3⟩,fun bb oo ⟨v',hv',hb'⟩=>⟨v',by rw[hcur] at hv';exact hv',hb'⟩⟩
  ·cases hbk
 |iter s n=>simp [zH] at hbk
 |map s v l=>
  simp only[zH] at hbk;split at hbk
  ·rename_i hp;rw[aTL] at hp;simp only[aTE,aUa,true_and] at hbk;subst hbk;obtain⟨p,es,cl,hp1,hp0,hh,hM,hS⟩:=hblk;exact⟨⟨p,es,cl,by rw[hJ];exact hp1,hp0,hh,OK (g:=g') (g':=sK g g' base W (pH upd)) rfl hp.1 hp.2 hM,hS⟩,fun bb oo ⟨pp,hpp,e⟩=>⟨pp,by rw[hJ] at hpp;exact hpp,e⟩⟩
  ·cases hbk
 |cells t y ts=>simp [zH] at hbk
theorem aKr {side:List Prop}{s:pD}{rds:List Nat}{vv:Value}(hs:r5 (sK g g' base W (pH upd)) w' s vv):rG g w H ⟨side,s,upd,rds⟩ (sK g g' base W (pH upd)) w' vv:=by
 have le:=aAP hH hm hr hb hf;have fr:=aKq hH hm hr hb hf;have gho: ∀i,i∉pH upd->(sK g g' base W (pH upd)).J i=g.J i/\(sK g g' base W (pH upd)).cur i=g.cur i:=fun i hi=>
  aAN hH hm hr hb hf (fun h=>hi h.2) (U0 fun c hc=>hi ((ES hH hm hr hb hf hc).1))
 have perm: ∀i blk b o,i∈pH upd->pG (pX upd H) i=some blk->rJ (sK g g' base W (pH upd)) i blk b o->w.heap.size<=b\/s9 g H (pH upd) b o:=by
  intro i blk b o hi hg ho;rcases U2 hH hm hr hb hf hi hg with⟨c,i',u,x,toks,off,b0,h1,h2,h3,h4⟩ |⟨c,k,b0,h1,h2,h3,h4⟩ |⟨c,b0,h1,h2,h3,h4⟩
  ·subst h2;obtain⟨_,k2,_⟩:=ZG hH hm hr hb hf h1 h3 h4;exact .inr ⟨i,_,hi,(k2 b o ho).2,(k2 b o ho).1⟩
  ·subst h2;obtain⟨_,k2⟩:=ZI hH hm hr hb hf h1 h3 h4;exact(hr.perm c b0 b o h3 (k2 b o ho)).imp id fun h=>ZF hH hm hr hb hf h
  ·rw[aUg] at h2 h4;subst h2;obtain⟨_,k2⟩:=ZH hH hm hr hb hf h3 h1 h4;exact(hr.perm c b0 b o h1 (k2 b o ho)).imp id fun h=>ZF hH hm hr hb hf h
 refine⟨le,hs,hH.upd le fr perm gho (fun i blk hi hg=> ?_) (fun i j bi bj b o hi hj hij hgi hgj hoi hoj=> ?_) (fun b o h=>hr.heap.sl b o h),fr,perm,gho,fun i u' y us h=> ?_⟩
 ·rcases U2 hH hm hr hb hf hi hg with⟨c,i',u,x,toks,off,b0,h1,h2,h3,h4⟩ |⟨c,k,b0,h1,h2,h3,h4⟩ |⟨c,b0,h1,h2,h3,h4⟩
  ·subst h2;exact(ZG hH hm hr hb hf h1 h3 h4).1
  ·subst h2;exact(ZI hH hm hr hb hf h1 h3 h4).1
  ·rw[aUg] at h2 h4;subst h2;exact(ZH hH hm hr hb hf h3 h1 h4).1
 ·have cls: ∀{i:Nat}{blk:pC},i∈pH upd->pG (pX upd H) i=some blk->rJ (sK g g' base W (pH upd)) i blk b o->
    (∃c u x toks off b0,W[c]? =some (.box i u x toks off)/\r.H[c]? =some b0/\rJ g i (.cells u x toks) b o/\pG H i=some (.cells u x toks)/\(rJ g' c b0 b o\/(b<w.heap.size/\¬yW (uH g W) (pN 0 L) b o)))\/
    (∃c b0,AH base r.H.length c W[c]? =some i/\r.H[c]? =some b0/\rJ g' c b0 b o):=by
   intro i blk hi hg ho;rcases U2 hH hm hr hb hf hi hg with⟨c,i',u,x,toks,off,b0,h1,h2,h3,h4⟩ |⟨c,k,b0,h1,h2,h3,h4⟩ |⟨c,b0,h1,h2,h3,h4⟩
   ·subst h2;obtain⟨_,k2,k3⟩:=ZG hH hm hr hb hf h1 h3 h4;exact .inl ⟨c,u,x,toks,off,b0,h1,h3,(k2 b o ho).1,(k2 b o ho).2,k3 b o ho⟩
   ·subst h2;obtain⟨_,k2⟩:=ZI hH hm hr hb hf h1 h3 h4;exact .inr ⟨c,b0,by rw[h1];rfl,h3,k2 b o ho⟩
   ·rw[aUg] at h2 h4;subst h2;obtain⟨_,k2⟩:=ZH hH hm hr hb hf h3 h1 h4;exact .inr ⟨c,b0,by rw[h3];simp only[AH];rw[aTD (aTU.1 h1).1],h1,k2 b o ho⟩
  have cross: ∀{c c':Nat}{b0 b1:pC},c≠c'->r.H[c]? =some b0->r.H[c']? =some b1->rJ g' c b0 b o->rJ g' c' b1 b o->False:=fun hne h1 h2 o1 o2=>
   hr.heap.dis _ _ _ _ b o hne (by rw[xC];exact h1) (by rw[xC];exact h2) o1 o2
  rcases cls hi hgi hoi with⟨c,u,x,toks,off,b0,h1,h2,h3,h4,h5⟩ |⟨c,b0,h1,h3,h4⟩<;>rcases cls hj hgj hoj with⟨c',u',x',toks',off',b0',k1,k2,k3,k4,k5⟩ |⟨c',b0',k1,k3,k4⟩
  ·exact hH.dis i j _ _ b o hij h4 k4 h3 k3
  ·rcases h5 with h5|⟨h5,h6⟩
   ·exact cross (fun e=>by subst e;rw[h1] at k1;cases k1) h2 k3 h5 k4
   ·rcases hr.perm c' b0' b o k3 k4 with h|h
    ·omega
    ·exact h6 h
  ·rcases k5 with k5|⟨k5,k6⟩
   ·exact cross (fun e=>by subst e;rw[k1] at h1;cases h1) h3 k2 h4 k5
   ·rcases hr.perm c b0 b o h3 h4 with h|h
    ·omega
    ·exact k6 h
  ·exact cross (fun e=>by subst e;rw[h1] at k1;exact hij (aTI k1)) h3 k3 h4 k4
 ·by_cases hi:i∈pH upd
  ·rcases U2 hH hm hr hb hf hi h with⟨c,i',u,x,toks,off,b0,h1,h2,h3,h4⟩ |⟨c,k,b0,h1,h2,h3,h4⟩ |⟨c,b0,h1,h2,h3,h4⟩
   ·subst h2;obtain⟨_,_,bL,hL,hok⟩:=ES hH hm hr hb hf h1;cases b0 with
    |cells t y0 ts=>
     obtain⟨y2,z,_,hset,hq⟩:=ZD h4;simp only[aUa,pC.cells.injEq,true_and] at hq;obtain⟨rfl,_⟩:=hq;cases bL with
     |cells=>exact .inl ⟨x,toks,hok.1⟩
     |_=>exact hok.elim
    |grow=>simp [wO] at h4
    |row=>simp [wO] at h4
    |map=>simp [wO] at h4
    |iter=>simp [wO] at h4
    |dead=>simp [wO] at h4
   ·cases b0 with
    |cells t y0 ts=>simp [zH] at h4
    |iter=>simp [zH] at h4
    |map=>simp only[zH] at h4;split at h4<;>simp at h4
    |row=>simp only[zH] at h4;split at h4<;>simp at h4
    |_=>simp [zH] at h4
   ·rw[aUg] at h2;exact .inr (hf i hi (by omega))
  ·exact .inl ⟨y,us,(C0 hi).symm.trans h⟩
end
section
variable {P:Program}{g:Gh}{w:World}
def aKs (P:Program) (g:Gh) (w:World) (d:Nat) (ty:Ty) (x y:ty.den):YJ->Prop
 | .ty t=> ∀vx vy,sE g w ty x vx->sE g w ty y vy->∃b,BR ty x y=some b/\(Op.equalIn (d+1) t vx vy).run P w= .ok b w
 | .fs o l=> ∀px py cx cy,px.length=o->py.length=o->Rd g w ty x cx->Rd g w ty y cy->∃b,BR ty x y=some b/\(Op.eqFields (d+1) (px++cx).toArray (py++cy).toArray l).run P w= .ok b w
 | .el e i m=> ∀px py cx cy,px.length=i*P.cellsOf e->py.length=i*P.cellsOf e->Rd g w ty x cx->Rd g w ty y cy->∃b,BR ty x y=some b/\(Op.eqItems (d+1) e (P.cellsOf e) (px++cx).toArray (py++cy).toArray (List.range' i m)).run P w= .ok b w
theorem aKt {e:TypeId}{n:Nat}(h:(P.info? e).map (·.size)=some n):P.cellsOf e=n:=by
 obtain⟨i,h1,h2⟩:=aTT.1 h;simp [Program.cellsOf,h1,h2]
theorem xT.run {n:Nat}{ix:YJ}{ty:Ty}(h:xT P n ix ty): ∀(d:Nat),n<=d->∀x y:ty.den,aKs P g w d ty x y ix:=by
 induction h with
 |bool hu=>
  intro d _ x y vx vy hx hy;obtain rfl:=wF hx;obtain rfl:=wF hy;exact⟨_,rfl,run_equalIn_bool' w d _ _ _ hu⟩
 |int hu=>
  intro d _ x y vx vy hx hy;obtain rfl:=v7 hx;obtain rfl:=v7 hy;refine⟨_,rfl,(run_equalIn_int w d _ _ _ _ _ hu).trans ?_⟩;congr 1
 |str hu=>
  intro d _ x y vx vy hx hy;obtain rfl:=yB hx;obtain rfl:=yB hy;refine⟨_,rfl,(run_equalIn_string w d _ _ _ hu).trans ?_⟩;congr 1;rw[ByteArray.toList_eq,ByteArray.toList_eq];exact OQ _ _
 | @struct h0 t0 fs0 ty0 hr hu hs _ ih=>
  intro d hd x y vx vy hx hy;obtain⟨cx,rfl,rx⟩:=JL hr hx;obtain⟨cy,rfl,ry⟩:=JL hr hy;obtain⟨d,rfl⟩: ∃d',d=d'+1:=⟨d-1,by omega⟩;obtain⟨b,h1,h2⟩:=ih d (by omega) x y [] [] cx cy rfl rfl rx ry;refine⟨b,h1,?_⟩;have hf:P.fieldsOf t0=fs0:=by unfold Program.fieldsOf;rw[hu]
  rw[run_equalIn_struct w _ _ _ _ (by rw[hf];exact hu) hs,hf];simpa using h2
 |arr hr hu hi _ ih=>
  intro d hd x y vx vy hx hy;obtain⟨cx,rfl,rx⟩:=JL hr hx;obtain⟨cy,rfl,ry⟩:=JL hr hy;obtain⟨d,rfl⟩: ∃d',d=d'+1:=⟨d-1,by omega⟩;obtain⟨b,h1,h2⟩:=ih d (by omega) x y [] [] cx cy (by simp) (by simp) rx ry;refine⟨b,h1,?_⟩;obtain⟨i,hi⟩:=aTF.1 hi;rw[run_equalIn_array w _ _ _ hu hi,List.range_eq_range'];simpa using h2
 |nil=>
  intro d _ x y px py cx cy _ _ _ _;exact⟨true,rfl,by simp [Op.eqFields]⟩
 |anil=>
  intro d _ x y px py cx cy _ _ _ _;exact⟨true,rfl,by simp [Op.eqItems]⟩
 | @cons h o f r a b hn ho hsz hrow _ _ iha ihb=>
  intro d hd x y px py cx cy hpx hpy ⟨x1,x2,ex,rx1,rx2⟩ ⟨y1,y2,ey,ry1,ry2⟩;subst ex;subst ey;obtain⟨vx,p1,v1⟩:=OR (P:=P) (c1:=px) (c3:=x2) hsz hrow rx1;obtain⟨vy,p2,v2⟩:=OR (P:=P) (c1:=py) (c3:=y2) hsz hrow ry1;obtain⟨b1,e1,r1⟩:=iha d hd x.1 y.1 vx vy v1 v2;obtain⟨b2,e2,r2⟩:=ihb d hd x.2 y.2 (px++x1) (py++y1) x2 y2 (by rw[aTH,hpx,s0 rx1]) (by rw[aTH,hpy,s0 ry1]) rx2 ry2;refine⟨b1&&b2,by simp only[BR,e1,e2,BR.eqAnd],?_⟩;rw[aTN] at p1 p2 r2;rw[aTN] at r2;rw[hpx,<-ho] at p1;rw[hpy,<-ho] at p2;simp only[Op.eqFields,aTD hn,aTV,p1,p2,aTO,r1];cases b1
  ·simp
  ·simpa using r2
 | @acons h e i m a b hsz hrow _ _ iha ihb=>
  intro d hd x y px py cx cy hpx hpy ⟨x1,x2,ex,rx1,rx2⟩ ⟨y1,y2,ey,ry1,ry2⟩;subst ex;subst ey;have hc:=aKt hsz;obtain⟨vx,p1,v1⟩:=OR (P:=P) (c1:=px) (c3:=x2) hsz hrow rx1;obtain⟨vy,p2,v2⟩:=OR (P:=P) (c1:=py) (c3:=y2) hsz hrow ry1;obtain⟨b1,e1,r1⟩:=iha d hd x.1 y.1 vx vy v1 v2;obtain⟨b2,e2,r2⟩:=ihb d hd x.2 y.2 (px++x1) (py++y1) x2 y2 (by rw[aTH,hpx,s0 rx1,hc,aUJ]) (by rw[aTH,hpy,s0 ry1,hc,aUJ]) rx2 ry2;refine⟨b1&&b2,by simp only[BR,e1,e2,BR.eqAnd],?_⟩;rw[aTN] at p1 p2 r2;rw[aTN] at r2;rw[hpx] at p1;rw[hpy] at p2;simp only[aVl,Op.eqItems,aTV,p1,p2,aTO,r1];cases b1
  ·simp
  ·simpa using r2
variable {o:Oper}{a:Act}{H:rI}{T:rZ}(hT:wE P T) (hH:rT g w H)
include hT hH
theorem aKu {op:BinOp}{xt yt:TypeId}{x y:Operand}(ho:o.op= .binOp op xt x y yt) {sx sy:pD}(hx:r5 g w sx (a.eval x)) (hy:r5 g w sy (a.eval y)) {e:pQ}
  (hr:AZ (XE (r7 T xt) op sx sy)=some e):qV P o a g w H e:=by
 obtain⟨q,hq,rfl⟩:=JM hr;have go: ∀{u v:Value},a.eval x=u->a.eval y=v->(∃z,(do eqGuard op xt x y u v;Go.binOp op xt u v:Sem Value).run P w= .ok z w/\zK g w q.2 z)->qV P o a g w H ⟨q.1,(q.2,none),[],[]⟩:=by
  rintro u v rfl rfl ⟨z,hz,hd⟩;refine qV.pure hH (v:=z) ?_ hd;unfold execOp;rw[ho];simp only[aTV,aT7] at hz⊢;rw[hz];rfl
 replace hx:=hx.1;replace hy:=hy.1;generalize hti:r7 T xt=oti at hq;unfold XE at hq;split at hq
 ·rename_i u el by' ar ls_ t l k k';have hd:=(sD hT hti).2;simp only[xU] at hd;obtain⟨ax,cx,ex,hle,hll⟩:=DH hx;have hnil:ax=none->l=[]:=fun h=>by
   rcases hll with h1|⟨b,o,h1,_⟩
   ·exact h1
   ·rw[h] at h1;cases h1
  have ey:a.eval y= .slice none 0 0:=hy;refine go ex ey ?_;unfold RY at hq;split at hq
  ·cases hq;have h1:(do eqGuard .eql xt x y (.slice ax (List.length l) cx) (.slice none 0 0);Go.binOp .eql xt (.slice ax (List.length l) cx) (.slice none 0 0):Sem Value).run P w= .ok (.bool ax.isNone) w:=by
    simp only[aTV];rw[show (eqGuard .eql xt x y (.slice ax (List.length l) cx) (.slice none 0 0)).run P w= .ok () w from by simp [eqGuard]];exact Lib.run_eql_slice_nil (P:=P) w xt _ ax (List.length l) cx 0 0 hd.1
   exact⟨_,h1,_,rfl,fun h=>hnil (by simpa using h),fun _=>trivial⟩
  ·cases hq;have h1:(do eqGuard .neq xt x y (.slice ax (List.length l) cx) (.slice none 0 0);Go.binOp .neq xt (.slice ax (List.length l) cx) (.slice none 0 0):Sem Value).run P w= .ok (.bool (!ax.isNone)) w:=by
    simp only[aTV];rw[show (eqGuard .neq xt x y (.slice ax (List.length l) cx) (.slice none 0 0)).run P w= .ok () w from by simp [eqGuard]];exact run_neq_slice_nil_any (P:=P) w xt _ ax (List.length l) cx 0 0 hd.1
   exact⟨_,h1,_,rfl,fun _=>trivial,fun h=>hnil (by simpa using h)⟩
  ·cases hq
 ·rename_i u el by' ar ls_ k t l k';have hd:=(sD hT hti).2;simp only[xU] at hd;obtain⟨ay,cy,ey,hle,hll⟩:=DH hy;have hnil:ay=none->l=[]:=fun h=>by
   rcases hll with h1|⟨b,o,h1,_⟩
   ·exact h1
   ·rw[h] at h1;cases h1
  have ex:a.eval x= .slice none 0 0:=hx;refine go ex ey ?_;unfold RY at hq;split at hq
  ·cases hq;have h1:(do eqGuard .eql xt x y (.slice none 0 0) (.slice ay (List.length l) cy);Go.binOp .eql xt (.slice none 0 0) (.slice ay (List.length l) cy):Sem Value).run P w= .ok (.bool ay.isNone) w:=by
    simp only[aTV];rw[show (eqGuard .eql xt x y (.slice none 0 0) (.slice ay (List.length l) cy)).run P w= .ok () w from by simp [eqGuard]];exact run_eql_nil_slice (P:=P) w xt _ ay (List.length l) cy 0 0 hd.1
   exact⟨_,h1,_,rfl,fun h=>hnil (by simpa using h),fun _=>trivial⟩
  ·cases hq;have h1:(do eqGuard .neq xt x y (.slice none 0 0) (.slice ay (List.length l) cy);Go.binOp .neq xt (.slice none 0 0) (.slice ay (List.length l) cy):Sem Value).run P w= .ok (.bool (!ay.isNone)) w:=by
    simp only[aTV];rw[show (eqGuard .neq xt x y (.slice none 0 0) (.slice ay (List.length l) cy)).run P w= .ok () w from by simp [eqGuard]];exact run_neq_nil_slice (P:=P) w xt _ ay (List.length l) cy 0 0 hd.1
   exact⟨_,h1,_,rfl,fun _=>trivial,fun h=>hnil (by simpa using h)⟩
  ·cases hq
 ·rename_i u el b ar ls_ t x' k t' y' k';unfold a9a at hq;split at hq
  ·rename_i htt;subst htt;split at hq
   ·rename_i hc;obtain⟨rfl,hc⟩:=hc;simp only[tI] at hq;obtain⟨r,hr1,hr2⟩: ∃r,BR t' x' y'=some r/\((op= .eql/\q=([],.val .bool r))\/(op= .neq/\q=([],.val .bool (!r)))):=by
     generalize hgen:BR t' x' y'=od at hq;unfold a89 at hq;split at hq
     ·rename_i r;cases hq;exact⟨r,rfl,.inl ⟨rfl,rfl⟩⟩
     ·rename_i r;cases hq;exact⟨r,rfl,.inr ⟨rfl,rfl⟩⟩
     ·cases hq
    have hti':=sD hT hti;rcases hc with rfl|⟨hrow,rfl⟩
    ·have hd:=hti'.2;simp only[xU] at hd;obtain hbx:=wF hx;obtain hby:=wF hy;refine go hbx hby ?_;have hrr:r=(x'==y'):=(aTI hr1).symm;subst hrr;have hrun:=run_equalIn_bool' (P:=P) w 9999 xt x' y' hd;rcases hr2 with⟨rfl,rfl⟩ |⟨rfl,rfl⟩
     ·refine⟨.bool (x'==y'),?_,vP _ _ _⟩;simp only[aTV];rw[show (eqGuard .eql xt x y (.bool x') (.bool y')).run P w= .ok () w from by simp [eqGuard]];simp only[aTO,Go.binOp,Op.equal,Op.maxDepth,aTV,hrun,aT7]
     ·refine⟨.bool (!(x'==y')),?_,vP _ _ _⟩;simp only[aTV];rw[show (eqGuard .neq xt x y (.bool x') (.bool y')).run P w= .ok () w from by simp [eqGuard]];simp only[aTO,Go.binOp,Op.equal,Op.maxDepth,aTV,hrun,aT7]
    ·have h2:=hti'.2;have heq:P.eqGuardType P.depth xt=false/\∃h,h<9000/\xT P h (.ty xt) t':=by
      unfold xU at h2;cases t'<;>simp only[Ty.isRow,aUU] at hrow
      all_goals exact h2.2 rfl
     obtain⟨hg1,hh,hlt,hE⟩:=heq;obtain⟨cx,ex,rx⟩:=JL hrow hx;obtain⟨cy,ey,ry⟩:=JL hrow hy;obtain⟨b',hb1,hb2⟩:=hE.run (g:=g) (w:=w) 9999 (by omega) x' y' _ _ hx hy;rw[hr1] at hb1;obtain rfl:=aTI hb1;rw[ex,ey] at hb2;refine go ex ey ?_;rcases hr2 with⟨rfl,rfl⟩ |⟨rfl,rfl⟩
     ·refine⟨.bool r,?_,vP _ _ _⟩;simp only[aTV];rw[run_eqGuard_agg w _ _ _ _ _ _ hg1];simp only[aTO];rw[run_eql_struct,hb2];rfl
     ·refine⟨.bool (!r),?_,vP _ _ _⟩;simp only[aTV];rw[run_eqGuard_agg w _ _ _ _ _ _ hg1];simp only[aTO];rw[run_neq_struct,hb2];rfl
   ·cases hq
  ·cases hq
 ·cases hq
end
end Go.Proofs.YtbbpilohihldiaaGreatDoor.Vc
namespace Go.Proofs.YtbbpilohihldiaaGreatDoor.Vc
open Go.RowKit
theorem aKv (s:List UInt8):Lib.strCells ⟨s.toArray⟩=s.map fun b=>Value.int .u8 b.toNat:=by
 simp [Lib.strCells]
theorem aKw {P:Program}(w:World) (t u ty e:TypeId) (i:TypeInfo) (ht:P.underlying t=some (.slice e)) (hu:P.underlying u=some .string) (hi:P.info? e=some i) (hz:i.zero=some (.int .u8 0))
  (hsize:i.size=1) (hby:i.bytes=1) (v:Value) (n:Nat) (xs:List Value) (hown:w.ownsRow 0 e 1 v n xs) (s:ByteArray) (hm:0<s.size)
  (h63:n+s.size<=maxLen) (hbytes:n+s.size<=140737488355328):
  ∃q cap w',(Builtin.append_ #[t,u] ty #[v,.string s]).run P w= .ok (.slice (some ⟨q,0,none⟩) (n+s.size) cap) w'/\w'.ownsRow 0 e 1 (.slice (some ⟨q,0,none⟩) (n+s.size) cap) (n+s.size) (xs++Lib.strCells s)/\
   (q=w.heap.size\/v.ownBlock=some q)/\w.grownBy w' v.ownBlock/\n+s.size<=cap/\
   ∀b o,b<w.heap.size->(v.ownBlock=some b->o<n*1)->w'.cell? ⟨b,o,none⟩=w.cell? ⟨b,o,none⟩:=by
 have hsmall:n+s.size<=9223372036854775807:=by simp only[maxLen] at h63;omega
 have hxl:xs.length=n:=by simpa using hown.1
 have hlen:(xs++Lib.strCells s).length=(n+s.size)*1:=by rw[aTH,hxl,Lib.strCells_length,aVO]
 have grown: ∀(old:Nat),old<n+s.size->∀(row:Option Nat),
   (w.drew.alloc (.cells (xs.toArray++(Lib.strCells s).toArray++Builtin.zeroCells (Value.int .u8 0).cells (grownCap w (n+s.size) old e- (n+s.size))) e)).ownsRow 0 e 1
    (.slice (some ⟨w.heap.size,0,none⟩) (n+s.size) (grownCap w (n+s.size) old e)) (n+s.size) (xs++Lib.strCells s)/\
   w.grownBy (w.drew.alloc (.cells (xs.toArray++(Lib.strCells s).toArray++Builtin.zeroCells (Value.int .u8 0).cells (grownCap w (n+s.size) old e- (n+s.size))) e)) row/\n+s.size<=grownCap w (n+s.size) old e/\
   ∀b o,b<w.heap.size->(w.drew.alloc (.cells (xs.toArray++(Lib.strCells s).toArray++Builtin.zeroCells (Value.int .u8 0).cells (grownCap w (n+s.size) old e- (n+s.size))) e)).cell? ⟨b,o,none⟩=w.cell? ⟨b,o,none⟩:=by
  intro old ho row;have hge:=grownCap_ge w (n+s.size) old e;have hcm:grownCap w (n+s.size) old e<=maxLen:=grownCap_le_maxLen w (n+s.size) old e h63;refine⟨⟨hlen,.inr ⟨w.heap.size,_,_,rfl,aUC _,aVR w.drew _,hge,hcm,?_,?_⟩⟩,⟨rfl,rfl,rfl,by simp,fun k hk _=>aT9 w.drew _ k hk⟩,hge,fun b o hb=>aT4 (w:=w) (a:=⟨b,o,none⟩) (aT9 w.drew _ b hb)⟩
  ·have hz1:(Value.int IntKind.u8 0).cells.size=1:=rfl;simp only[aVQ,aUu,size_zeroCells,hz1,hxl,Lib.strCells_length];omega
  ·simp only[Array.toList_append,aTN];rw[<-aTN,<-hlen];exact aUR
 rcases hown.2 with⟨rfl,rfl⟩ |⟨g,cap,cur,rfl,hbg,hg,hnc,hcm,hcs,htake⟩
 ·have hx:xs=[]:=aUc hxl;subst hx;have hr:=run_append_nil_string (P:=P) w t u ty e i (.int .u8 0) ht hu hi hz s (by omega) (by omega) (by rw[hby];omega);have hgr:=grown 0 (by omega) (Value.ownBlock (.slice none 0 0));simp only[aUg,List.nil_append,Array.empty_append] at hgr⊢;have e1:(s.data.map fun b=>Value.int .u8 b.toNat)=(Lib.strCells s).toArray:=by
   apply Array.ext';simp [Lib.strCells]
  rw[e1] at hr;exact⟨_,_,_,hr,hgr.1,.inl rfl,hgr.2.1,hgr.2.2.1,fun b o hb _=>hgr.2.2.2 b o hb⟩
 ·by_cases hroom:n+s.size<=cap
  ·have hcs':cur.size=cap:=by simpa using hcs
   have hr:=Lib.run_append_room_string (P:=P) w t u ty e i ht hu hi hsize g n cap cur hg s hroom (by omega);refine⟨_,_,_,hr,⟨hlen,.inr ⟨g,cap,_,rfl,hbg,aVB w g cur _ e _ hg,hroom,hcm,?_,?_⟩⟩,.inr rfl,⟨rfl,rfl,rfl,by simp,fun k _ hk=>aVc w g k _ (fun e=>hk (by simp [Value.ownBlock,e]))⟩,hroom,fun b o hb hso=> ?_⟩
   ·simp only[aUu,aTH,aT5,aTR,aUd,Lib.strCells_length];omega
   ·have ht':cur.toList.take n=xs:=by simpa using htake
    rw[ht',<-hlen];exact aUR
   ·by_cases hbg':b=g
    ·subst hbg';have ho:=hso rfl;rw[cell_setRow_same w b o cur _ e _ hg,cell_of_row w b o cur e (0,0) hg];have hlt:o<(cur.toList.take n).length:=by rw[aT5,aUd];omega
     have hlt2:o<cur.size:=by rw[aT5,aUd] at hlt;omega
     simp only[List.getElem?_toArray,aTN];rw[aTY hlt,aVq,aTD (by omega)];simp
    ·exact aT4 (a:=⟨b,o,none⟩) (aVc w g b _ hbg')
  ·have holds: ∀j u,xs[j]? =some u->w.cell? ((⟨g,0,none⟩:Addr).add j)=some u:=hown.cells (g:=g) rfl;have hr:=Lib.run_append_grow_string (P:=P) w t u ty e i (.int .u8 0) ht hu hi hz ⟨g,0,none⟩ n cap xs (by rw[hsize];simpa using hxl) holds s (by omega) (by omega) (by rw[hby];exact growslice_fits (by omega) (by omega));have hgr:=grown cap (by omega) (Value.ownBlock (.slice (some ⟨g,0,none⟩) n cap));exact⟨_,_,_,hr,hgr.1,.inl rfl,hgr.2.1,hgr.2.2.1,fun b o hb _=>hgr.2.2.2 b o hb⟩
theorem aKx {P:Program}(w:World) (t u ty e:TypeId) (i:TypeInfo) (ht:P.underlying t=some (.slice e)) (hu:P.underlying u=some .string) (hi:P.info? e=some i) (hsize:i.size=1) (ad:Option Addr) (n c:Nat) (hle:n<=c):
  (Builtin.append_ #[t,u] ty #[.slice ad n c,.string ⟨#[]⟩]).run P w= .ok (.slice ad n c) w:=by
 have hf:=Lib.run_firstCells_string (P:=P) w 1 ⟨#[]⟩;have hm:(⟨#[]⟩:ByteArray).size=0:=rfl;rw[hm] at hf;cases ad<;>simp [Builtin.append_,aTX ht,aTX hu,sizeOf,typeInfo,hi,hsize,Builtin.lenOf,hm,hf,hle,Lib.strCells,storeCells]
theorem aAU (g:Gh) (w:World): ∀s:List UInt8,sI (Rd g w (.int .u8)) 1 (sJ s) (s.map fun b=>Value.int .u8 b.toNat)
 |[]=>rfl
 |b::s=>⟨[.int .u8 b.toNat],_,rfl,rfl,rfl,aAU g w s⟩
section
variable {P:Program}{o:Oper}{a:Act}{g:Gh}{w:World}{H:rI}{T:rZ}(hT:wE P T) (hH:rT g w H)
include hT hH
theorem aKy {t t':TypeId}{x:Operand}(ho:o.op= .convert t t' x) {sx:pD}(hx:r5 g w sx (a.eval x)) {e:pQ}
  (hr:AZ (XG T (r7 T t) (r7 T t') sx)=some e):qV P o a g w H e:=by
 obtain⟨q,hq,rfl⟩:=JM hr;replace hx:=hx.1;generalize h1:r7 T t=o1 at hq;generalize h2:r7 T t'=o2 at hq;unfold XG at hq;split at hq
 ·rename_i e b1 a1 l1 e2 b2 a2 l2 l k;generalize h3:r7 T e=o3 at hq;unfold a9c at hq;split at hq
  ·cases hq;have d1:=(sD hT h1).2;have d2:=(sD hT h2).2;have d3:=(sD hT h3).2;simp only[xU] at d1 d2 d3;obtain⟨ad,cap,hv,hle,hl⟩:=DH hx;refine qV.pure hH (v:= .string ⟨(s5 l).toArray⟩) ?_ (FX _ _ _);simp only[execOp,ho,hv,aTV];have run:(convert t t' (.slice ad (List.length l) cap)).run P w= .ok (.string ⟨(s5 l).toArray⟩) w:=by
    rcases hl with rfl|⟨b,off,rfl,hL⟩
    ·rw[run_convert_bytes_string w t t' e ad _ cap d1.1 d3 d2];cases ad with
     |none=>simp [Conv.bytesToString,s5];rfl
     |some ad=>simp [Conv.bytesToString,loadCells,loadCellsFrom,s5];rfl
    ·have:=run_convert_bytes_arg (P:=P) w t e d1.1 d3 b off (List.length l) cap l rfl (fun i hi=>by
      obtain⟨cs,_,c2,_,c4⟩:=TG hL (aTM hi);have c5:cs=[.int .u8 (l[i]:Int)]:=c4;subst c5;have:=c2 0 _ rfl;have hcell:Ty.cells (.int .u8)=1:=rfl;rw[hcell,aVO,aVd] at this;rw[this,aT6,aTM hi];rfl) t' d2
     exact this
   rw[run];rfl
  ·cases hq
 ·cases hq
theorem aKz {args:Array Operand}{tys:Array TypeId}(ho:o.op= .call ⟨.builtin .append,args,tys⟩) {ρ:Operand->pD}(hρ: ∀x∈args.toList,r5 g w (ρ x) (a.eval x)) {e:pQ}
  (hr:SY T H (uO ρ args.toList) tys.toList=some e) (hs: ∀p∈e.side,p):qV P o a g w H e:=by
 unfold SY at hr;split at hr
 ·rename_i t u htu;have htys:tys= #[t,u]:=by apply aUP.1;rw[htu]
  split at hr
  ·rename_i e1;subst e1;exact aJV hT hH ho hρ htys hr hs
  ·clear htu;subst htys;generalize hst:r7 T t=ot at hr;generalize hsu:r7 T u=ou at hr;generalize hss:uO ρ args.toList=ss at hr;unfold Y6 at hr;split at hr
   ·rename_i el ar ls_ e2 b2 a2 ls2 l k s k2;generalize hk:pG H k=ob at hr;unfold SX at hr;split at hr
    ·rename_i e' c n;split at hr
     ·rename_i hec;obtain⟨rfl,rfl⟩:=hec;cases hr;rw[aTH];have hsl:List.length (sJ s)=List.length s:=by simp [sJ]
      rw[hsl];have hln:=hs _ (by simp:(List.length l=n)∈_);have hby:=hs _ (by simp:(List.length l+List.length s<=140737488355328)∈_);obtain⟨v,vr,hv,hs1,hs2⟩:=TL hT hH hρ hss;obtain⟨h2,h3,_⟩:=(sD hT hst).2;have hu:=(sD hT hsu).2;simp only[xU] at hu;obtain⟨ei,hei,hz⟩:=aTT.1 h3;simp only[aUa] at hz;obtain⟨cs,hx⟩:=FZ (a:=a) hT hH ho;obtain⟨v0,xs,hv0,hown,hnone,hseal⟩:=hH.blk k _ hk;have hcur:g.cur k (List.length l)=some v:=hs1.2;rw[hln,hv0] at hcur;obtain rfl:=aTI hcur;obtain⟨adl,capl,hvl,hlel,hll⟩:=DH hs1.1;have hvr:=yB hs2.1;have hsz:(⟨List.toArray s⟩:ByteArray).size=List.length s:=by simp [ByteArray.size]
      by_cases hm:List.length s=0
      ·obtain rfl:s=[]:=aUc hm;have hget: ∀i,pG (pX [(k,pC.grow e' 1 (List.length l+List.length ([]:List UInt8)))] H) i=pG H i:=by
        intro i;simp only[pX,pG];by_cases hi:k=i
        ·subst hi;rw[aTD rfl,hk,hln];rfl
        ·rw[aTG hi]
       have hkeep:rG g w H ⟨[List.length l=n,List.length l+List.length ([]:List UInt8)<=140737488355328],(.val (.list (.int .u8)) (l++sJ []),some k),[(k,.grow e' 1 (List.length l+List.length ([]:List UInt8)))],[k]⟩ g w v0:=by
        refine⟨.refl _ _,?_,⟨fun i b h=>hH.blk i b ((hget i).symm.trans h),fun i j bi bj b o' hij h1 h2=>hH.dis i j bi bj b o' hij ((hget i).symm.trans h1) ((hget j).symm.trans h2),hH.sl,hH.tab.1,fun i blk b o' h ho'=>hH.tab.2 i blk b o' ((hget i).symm.trans h) ho'⟩,.refl _ _ _,fun i blk b o' hi hg ho'=> .inr ⟨i,blk,hi,(hget i).symm.trans hg,ho'⟩,fun _ _=>⟨rfl,rfl⟩,fun i u' y us h=> .inl ⟨y,us,(hget i).symm.trans h⟩⟩;rw[show l++sJ []=l from by simp [sJ]];exact hs1
       refine qV.value (v:=v0) (w':=w) ?_ hkeep;rw[hx,hv,hvr,hvl];have:=aKx (P:=P) w t u o.type e' ei h2 hu hei (by rw[hz.1];rfl) adl (List.length l) capl hlel;simp only[builtin,aTV];rw[this];simp only[aTO,aT7]
      ·have hxs:sI (Rd g w (.int .u8)) 1 l xs:=by
        by_cases h0:List.length l=0
        ·obtain rfl:l=[]:=aUc h0;have:xs=[]:=aUc (by rw[hown.1,<-hln];simp);exact this
        ·rcases hll with rfl|⟨b0,off0,rfl,hL0⟩
         ·exact absurd rfl h0
         ·obtain⟨ls,hF0,hra0,_⟩:=LP hL0;rcases hown.2 with⟨e1,e2⟩ |⟨q,cap,cur,e1,e2⟩
          ·exact absurd (hln.trans e2) h0
          ·rw[hvl] at e1;simp only[aVN,aTE,Addr.mk.injEq] at e1;obtain⟨⟨rfl,rfl,_⟩,_,rfl⟩:=e1;have hvn:v0= .slice (some ⟨b0,0,none⟩) n capl:=by rw[hvl,hln]
           have hrx:=YX (hvn▸hown);have:ls=xs:=by
            have hl1:=HJ hF0;have hl2:=hown.1;have hc1:Ty.cells (.int .u8)=1:=rfl;rw[hc1] at hl1;apply List.ext_getElem?;intro j;by_cases hj:j<ls.length
            ·have h1:=hra0 j ls[j] (aTM hj);have hj':j<xs.length:=by rw[hl2,<-hln,<-hl1];exact hj
             have h2:=hrx j xs[j] (aTM hj');rw[h1] at h2;rw[aTM hj,aTM hj',aTI h2]
            ·rw[aU4 (by omega),aU4 (by rw[hl2,<-hln,<-hl1];omega)]
           rw[<-this];exact hF0
       obtain⟨q,cap,w',hrun,hown',hq,hg,hcap,hcell⟩:=aKw (P:=P) w t u o.type e' ei h2 hu hei hz.2.2 hz.1 hz.2.1 v0 n xs hown ⟨List.toArray s⟩ (by rw[hsz];omega) (by rw[hsz];unfold maxLen;omega) (by rw[hsz];omega);rw[hsz] at hrun hown' hcap;rw[aKv] at hown';refine qV.value (v:= .slice (some ⟨q,0,none⟩) (n+List.length s) cap) (w':=w') ?_ (by
        have:=rG.append (side:=[List.length l=n,List.length l+List.length s<=140737488355328]) (rds:=[k]) (u:= .int .u8) (r:=sJ s) hH hk (show (1:Nat)=Ty.cells (.int .u8) from rfl) hln hv0 hown hnone hseal hxs (aAU g w s) (by rw[hsl];omega) (by rw[hsl];exact hown') hq hg (by rw[hsl];exact hcap) hcell;rw[hsl] at this;rw[hln];rw[hln] at this;exact this)
       rw[hx,hv,hvr];simp only[builtin,aTV,hrun,aTO,aT7]
     ·cases hr
    ·cases hr
   ·cases hr
 ·cases hr
end
theorem aKA {g g':Gh}{w:World}{f:pD→pD}(hf: ∀s u,r5 g w s u→r5 g' w (f s) u): ∀{l:List pD}{v:Value}{s:pD},OW g w l v→L9 (l.map f)=some s→r5 g' w s v:=by
  have un: ∀{l:List pD}{vs:List Value}{q},uP g w l vs→JB (l.map f)=some q→LM g' w q vs:=by
    intro l
    induction l with
    | nil=>
      intro vs q h hq;simp only[List.map_nil,JB,aTE] at hq;subst hq;exact h
    | cons s l ih=>
      rintro vs q ⟨v,vs',rfl,h1,h2⟩ hq;have h1':=hf s v h1;simp only[aUS] at hq;generalize f s=fs at hq h1';obtain⟨d,k⟩:=fs;cases d with
      | val t x=>
        simp only[JB] at hq;obtain⟨q',hq',rfl⟩:=aTT.1 hq;refine⟨v,vs',rfl,h1'.1,?_,ih h2 hq'⟩;cases k with
        |none=>trivial
        |some k=>exact h1'.2
      |_=>simp [JB] at hq
  intro l v s h hs
  match l,h,hs with
  | [],⟨vs,e,h⟩,hs=>
    simp only[List.map_nil,L9,aTE] at hs;subst hs;rw[show vs=[] from h] at e;exact⟨⟨[],e,rfl⟩,trivial⟩
  | [x],h,hs=>
    simp only[aUS,List.map_nil,L9,aTE] at hs;subst hs;exact hf x v h
  | x::y::l,⟨vs,e,h⟩,hs=>
    simp only[aUS,L9,aTE] at hs;subst hs;cases hq:JB (f x::f y::l.map f) with
    |none=>exact⟨trivial,trivial⟩
    |some q=>exact⟨⟨vs,e,un (l:=x::y::l) h (by simpa using hq)⟩,trivial⟩
theorem aAV {base n:Nat}{W:List qT}: ∀l:List pD,O2 base n W l=l.map (S6 base n W)
  |[]=>rfl
  |s::l=>by simp [O2,aAV l]
theorem aAW {P:Program}{f:FuncId}{sg:qC}(hcon:zO P f sg.C) {g:Gh}{w:World}{H:rI}(hH:rT g w H) {args:List pD}{vals:List Value}(hargs:uP g w args vals) {base:Nat}{e:pQ}
    (hr:FQ H base args (some sg)=some e) (hs: ∀p∈e.side,p) (hfr:zM g base e):Calls P f vals.toArray w (fun en w'=> ∃v g',en= .returned v∧rG g w H e g' w' v):=by
  simp only[FQ] at hr;cases hp0:wN H sg.ps args (some ⟨[],[],[],0⟩) with
  |none=>rw[hp0] at hr;cases hgs:sg.gs<;>(rw[hgs] at hr;simp [O3,B1] at hr)
  |some q0=>
   rw[hp0] at hr;cases hp:B1 H sg.gs (some q0) with
   |none=>rw[hp] at hr;simp [O3] at hr
   |some q=>
    rw[hp] at hr;simp only[O3,aAL,List.append_nil] at hr;have hpo0:=aAG hH (B7.nil g w H) hargs hp0;rw[List.nil_append] at hpo0;have hpo:=aAI hH hpo0 hp;cases hcl:HA q.ws.reverse q.H.reverse with
    |none=>rw[hcl] at hr;simp [SA] at hr
    |some L=>
    rw[hcl] at hr;simp only[SA] at hr;have hm:=hpo.m.ren hcl;cases hc:sg.C q.args.reverse L with
    |none=>rw[hc] at hr;simp [S8] at hr
    | some r=>
      rw[hc] at hr;simp only[S8,aAK] at hr;cases hbh:B2 base r.H.length q.ws.reverse 0 q.ws.reverse r.H with
      |none=>rw[hbh] at hr;simp [O1] at hr
      | some upd=>
        rw[hbh] at hr;cases hrs:L9 (O2 base r.H.length q.ws.reverse r.ret) with
        |none=>rw[hrs] at hr;simp [O1] at hr
        | some s=>
          rw[hrs] at hr;simp only[O1,aTE] at hr;subst hr;refine(hcon.2 (uH g q.ws.reverse) w q.args.reverse _ L r (aKb hH hm) hpo.args hc hs).mono ?_;rintro en w' ⟨v,g',rfl,hret⟩;refine⟨v,_,rfl,aKr hH hm hret hbh hfr ?_⟩;rw[aAV] at hrs;exact aKA (fun s u h=>aKp hH hm hret hbh hfr h) hret.ret hrs
theorem OZ {g g':Gh}{w w':World}: ∀{t:Ty}{x:t.den}{cs:List Value},HB t=true→Rd g w t x cs→Rd g' w' t x cs
  | .bool,_,_,_,r=>r
  | .int _,_,_,_,r=>r
  | .str,_,_,_,r=>r
  | .unit,_,_,_,r=>r
  | .fn,_,_,_,r=>r
  | .pair a b,_,_,h,⟨c1,c2,e,r1,r2⟩=>by
    simp only[HB,aTL] at h;exact⟨c1,c2,e,OZ h.1 r1,OZ h.2 r2⟩
  | .list _,_,_,h,_=>by cases h
  | .ref,_,_,h,_=>by cases h
  | .clo,_,_,h,_=>by cases h
  | .mp,_,_,h,_=>by cases h
  | .rl _ _,_,_,h,_=>by cases h
  | .mref,_,_,h,_=>by cases h
theorem aAX {g g':Gh}{w:World}{k n:Nat}{t:Ty}{l:List t.den}(le:Le g w g' w) (hk: ∀u,g.cur k n=some u→((u= .slice none 0 0∧n=0)∨∃b cap,u= .slice (some ⟨b,0,none⟩) n cap∧n≤cap)→sE g' w (.list t) l u):
    ∀{args:List pD}{vals:List Value},uP g w args vals→(∀p∈JC k n args,p)→uP g' w (O5 k t l args) vals
  |[],_,h,_=>h
  | s::ss,_,⟨v,vs,rfl,h1,h2⟩,hp=>by
    refine⟨v,vs,rfl,?_,aAX le hk h2 (fun p hp'=>hp p ?_)⟩
    · obtain⟨d,x⟩:=s
      cases d with
      | own j m=>
        simp only[a9l];split
        · rename_i e
          subst e;have hm:m=n:=hp (j=j→m=n) (by simp only[JC];exact aT1) rfl;subst hm;exact⟨hk _ h1.1.1 h1.1.2,trivial⟩
        ·exact B4 le h1
      |_=>exact B4 le h1
    · obtain⟨d,x⟩:=s
      cases d with
      |own j m=>simp only[JC];exact aTS _ hp'
      |_=>exact hp'
theorem aKB {P:Program}{f:FuncId}{sg:qC}(hcon:zO P f sg.C) {g:Gh}{w:World}{H:rI}(hH:rT g w H) {args:List pD}{vals:List Value}(hargs:uP g w args vals) {base:Nat}{e:pQ}{k:Nat}
    (hr:O6 H base args sg k (pG H k)=some e) (hs: ∀p∈e.side,p) (hfr:zM g base e):Calls P f vals.toArray w (fun en w'=> ∃v g',en= .returned v∧rG g w H e g' w' v):=by
  cases hk:pG H k with
  |none=>rw[hk] at hr;cases hr
  | some b=>
    rw[hk] at hr;cases b with
    | row e0 t l m=>
      simp only[O6] at hr;cases hi:FQ ((k,.dead)::H) base (O5 k t l args) (some sg) with
      |none=>rw[hi] at hr;cases hr
      | some e1=>
        rw[hi] at hr;unfold XL at hr;split at hr
        · rename_i side t' x kk U rds heq
          simp only[aTE] at heq;subst heq;split at hr
          · rename_i hnl
            simp only[aTL,aT8] at hnl;obtain⟨⟨hnl,hU⟩,hkU⟩:=hnl;have hkU':k∉pH U:=fun h=>by rw[JO.2 h] at hkU;cases hkU
            cases hr;obtain⟨hl,v,xs,hv,hown,hF,hnone,hseal⟩:=hH.blk k _ hk
            let g':Gh:={g with S:=fun b o=>g.S b o∨(v.ownBlock=some b∧o<m*t.cells)}
            have le:Le g w g' w:=⟨fun _ _ h=> .inl h,fun _ _ _=>rfl,fun _ _ h=>h,fun _ _ _ h=>h⟩;have hown2: ∀b,v.ownBlock=some b→∀o,rJ g k (.row e0 t l m) b o:=fun b hb o=>⟨v,hv,hb⟩
            have hlist: ∀u,g.cur k m=some u→((u= .slice none 0 0∧m=0)∨∃b cap,u= .slice (some ⟨b,0,none⟩) m cap∧m≤cap)→sE g' w (.list t) l u:=by
              intro u hu hshape;rw[hv] at hu;obtain rfl:=aTI hu;rcases hshape with⟨rfl,h0⟩ |⟨b,cap,rfl,hcap⟩
              · have:l=[]:=aUc (by rw[hl,h0])
                subst this;exact .inr ⟨rfl,none,0,rfl,aTZ _,.inl rfl⟩
              · refine .inr ⟨rfl,some ⟨b,0,none⟩,cap,by rw[hl],by rw[hl];exact hcap,.inr ⟨b,0,rfl,LQ (CQ (fun _ _ h=>wS le h) hF) (fun j u hu=> ?_) (fun j hj=> ?_)⟩⟩
                · have:=hown.cells (g:=b) rfl j u hu
                  rwa [aUQ] at this
                · right
                  exact⟨rfl,by rw[hl] at hj;omega⟩
            have hget: ∀i b,pG ((k,pC.dead)::H) i=some b→(i=k∧b= .dead)∨(i≠k∧pG H i=some b):=by
              intro i b hb;simp only[pG] at hb;split at hb
              ·rename_i e1;exact .inl ⟨e1.symm,(aTI hb).symm⟩
              ·rename_i e1;exact .inr ⟨Ne.symm e1,hb⟩
            have hH':rT g' w ((k,pC.dead)::H):=by
              refine⟨fun i b hb=> ?_,fun i j bi bj b o hij h1 h2 o1 o2=> ?_,fun b o hS=> ?_,hH.tab.1,fun i b bb oo hb ho=> ?_⟩
              · rcases hget i b hb with⟨rfl,rfl⟩ |⟨hne,h1⟩
                ·trivial
                ·exact LN (hH.blk i b h1) le rfl rfl (fun _ _ _=>⟨rfl,rfl⟩) (fun _ _=>rfl) (fun bb o ho hS=>by
                    rcases hS with hS|hS
                    ·exact hS
                    ·exact absurd (hown2 bb hS.1 o) (fun h5=>hH.dis i k b _ bb o hne h1 hk ho h5)) (fun _ _ _ _ h=>h)
              · rcases hget i bi h1 with⟨_,rfl⟩ |⟨_,h1⟩
                ·exact o1.elim
                · rcases hget j bj h2 with⟨_,rfl⟩ |⟨_,h2⟩
                  ·exact o2.elim
                  ·exact hH.dis i j bi bj b o hij h1 h2 ((yV (g':=g') (g:=g) rfl rfl).1 o1) ((yV (g':=g') (g:=g) rfl rfl).1 o2)
              · rcases hS with hS|hS
                ·exact hH.sl b o hS
                ·exact OM hown hS.1
              · rcases hget i b hb with⟨_,rfl⟩ |⟨_,h1⟩
                ·exact ho.elim
                ·exact hH.tab.2 i b bb oo h1 ((yV (g':=g') (g:=g) rfl rfl).1 ho)
            have hsp: ∀p,p∈JC k m args∨p∈side→p:=fun p hp=>hs p (OV.2 hp)
            have hget2: ∀i,i≠k→pG ((k,pC.dead)::H) i=pG H i:=fun i hi=>by
              simp only[pG];rw[aTG (Ne.symm hi)]
            have hin: ∀{i},i∈pH U→i≠k:=fun h e=>hkU' (e▸h)
            have hup: ∀{i blk},i∈pH U→pG (pX U H) i=some blk→pG (pX U ((k,pC.dead)::H)) i=some blk:=by
              intro i blk hi h
              have: ∀{U:List (Nat×pC)},i∈pH U→pG (pX U ((k,pC.dead)::H)) i=pG (pX U H) i:=by
                intro U
                induction U with
                |nil=>intro h;cases h
                | cons q U ih=>
                  intro h;obtain⟨j,b⟩:=q;simp only[pX,pG];split
                  ·rfl
                  · rename_i hne
                    simp only[pH,aTW] at h;exact ih (h.resolve_left (fun e=>hne e.symm))
              rw[this hi];exact h
            have hcells: ∀{i blk},i∈pH U→pG (pX U H) i=some blk→∃t y,blk= .cells t y []∧HB t=true:=by
              intro i blk hi h
              have: ∀{U:List (Nat×pC)},LA U=true→i∈pH U→pG (pX U H) i=some blk→∃t y,blk= .cells t y []∧HB t=true:=by
                intro U
                induction U with
                |nil=>intro _ h;cases h
                | cons q U ih=>
                  intro hU hi h;obtain⟨j,b⟩:=q;cases b with
                  | cells t y ts=>
                    cases ts with
                    |cons _ _=>simp [LA] at hU
                    | nil=>
                      simp only[LA,aTL] at hU;simp only[pX,pG] at h;split at h
                      · obtain rfl:=aTI h
                        exact⟨t,y,rfl,hU.1⟩
                      · rename_i hne
                        simp only[pH,aTW] at hi;exact ih hU.2 (hi.resolve_left (fun e=>hne e.symm)) h
                  |_=>simp [LA] at hU
              exact this hU hi h
            have hownI: ∀b o,s9 g' ((k,pC.dead)::H) (pH U) b o→s9 g H (pH U) b o:=fun b o ⟨i,blk,hi,h1,h2⟩=>⟨i,blk,hi,(hget2 i (hin hi)).symm.trans h1,(yV (g':=g') (g:=g) rfl rfl).1 h2⟩;refine(aAW hcon hH' (aAX le hlist hargs (fun p hp=>hsp p (.inl hp))) hi (fun p hp=>hsp p (.inr hp)) (fun i hi' hb=>hfr i hi' hb)).mono ?_;rintro en w' ⟨v1,g1,rfl,hE⟩
            let g2:Gh:={g1 with S:=g.S}
            have hle:Le g w g2 w':=⟨fun _ _ h=>h,fun b o h=>hE.le.cell b o (.inl h),fun i p h=>hE.le.J i p h,fun i n u h=>hE.le.cur i n u h⟩
            have hfr2:Fr (s9 g H (pH U)) w w' g.S g2.S:=
              ⟨hE.fr.os,hE.fr.tape,hE.fr.output,hE.fr.size,fun b hb hno=>hE.fr.blk b hb (fun o h=>hno o (hownI b o h)),fun b o hb hno=>hE.fr.cell b o hb (fun h=>hno (hownI b o h)),fun _ _ h=> .inl h,fun b s h=>(hE.fr.shape b s h).imp id fun h o=>hownI b o (h o)⟩
            have hgho: ∀i,i∉pH U→g2.J i=g.J i∧g2.cur i=g.cur i:=fun i hi=>hE.gho i hi
            have hperm: ∀i blk b o,i∈pH U→pG (pX U H) i=some blk→rJ g2 i blk b o→w.heap.size≤b∨s9 g H (pH U) b o:=fun i blk b o hi hg ho=>
              (hE.perm i blk b o hi (hup hi hg) ((yV (g':=g2) (g:=g1) rfl rfl).1 ho)).imp id (hownI b o)
            refine⟨v1,g2,rfl,hle,⟨?_,trivial⟩,hH.upd hle hfr2 hperm hgho (fun i blk hi hg=> ?_) (fun i j bi bj b o hi hj hij hgi hgj hoi hoj=> ?_) (fun b o h=>aUj (hH.sl b o h) hE.fr.size),hfr2,hperm,hgho,fun i u y us h=> ?_⟩
            ·exact hE.slot.1.imp (fun⟨a,cs,e,q⟩=>⟨a,cs,e,OZ hnl q⟩) (fun⟨a,q⟩=>⟨a,OZ hnl q⟩)
            · obtain⟨t2,y2,rfl,hn2⟩:=hcells hi hg
              obtain⟨p,cs,q1,q2,q3,q4,q5,_⟩:=hE.heap.blk i _ (hup hi hg);exact⟨p,cs,q1,OZ hn2 q2,q3,q4,fun j hj hS=>q5 j hj (hE.le.S _ _ (.inl hS)),fun _ _ hm=>by cases hm⟩
            ·exact hE.heap.dis i j bi bj b o hij (hup hi hgi) (hup hj hgj) ((yV (g':=g2) (g:=g1) rfl rfl).1 hoi) ((yV (g':=g2) (g:=g1) rfl rfl).1 hoj)
            · by_cases hiU:i∈pH U
              · rcases hE.ty i u y us (hup hiU h) with⟨x',ts',q⟩ |q
                ·exact .inl ⟨x',ts',(hget2 i (hin hiU)).symm.trans q⟩
                ·exact .inr q
              ·exact .inl ⟨y,us,(C0 hiU).symm.trans h⟩
          ·cases hr
        ·cases hr
    |_=>cases hr
theorem aKC {P:Program}{f:FuncId}{F:(t:Ty)→List t.den→Option (List t.den)}(hF:TQ P f F) {g:Gh}{w:World}{H:rI}(hH:rT g w H) {args:List pD}{vals:List Value}(hargs:uP g w args vals) {e:pQ}
    (hr:SB H F args=some e) (hs: ∀p∈e.side,p):Calls P f vals.toArray w (fun en w'=> ∃v g',en= .returned v∧rG g w H e g' w' v):=by
  unfold SB at hr;split at hr
  · rename_i k n x
    obtain⟨v,vs,rfl,ha,hv⟩:=hargs;rw[show vs=[] from hv];cases hk:pG H k with
    |none=>rw[hk] at hr;cases hr
    | some b=>
      rw[hk] at hr;cases b with
      | row e0 t l m=>
        simp only[XM] at hr;cases hf:F t l with
        |none=>rw[hf] at hr;cases hr
        | some l'=>
          rw[hf] at hr;cases hr;have hnm:n=m:=hs _ aT1;subst hnm;obtain⟨hl,v0,xs,hv0,hown,hFx,hnone,hseal⟩:=hH.blk k _ hk;have h1:=ha.1.1;rw[hv0] at h1;obtain rfl:=aTI h1;refine(hF g w e0 t l l' v0 n xs hH.tab.1 hown hFx hl (hs _ (by simp)) hf).mono ?_;rintro en w' ⟨rfl,hl',xs',k1,k2,k3⟩;have hownk: ∀b,v0.ownBlock=some b→∀o,s9 g H [k] b o:=fun b hb o=>⟨k,_,by simp,hk,v0,hv0,hb⟩;refine⟨_,_,rfl,rG.row (v:=v0) (xs:=xs') hH hl' k1 k2 hnone (fun u hu=>by rw[hv0] at hu;exact(aTI hu).symm) (.inr ⟨v0.ownBlock,k3,hownk⟩) (fun b o hS=> ?_) hseal (fun b hb=> .inr (hownk b hb)) ⟨⟨[],rfl,rfl⟩,trivial⟩⟩;have hne:v0.ownBlock≠some b:=fun e=>hseal b e o hS;exact aT4 (a:=⟨b,o,none⟩) (k3.block b (hH.sl b o hS) (fun e=>hne e.symm))
      |_=>cases hr
  ·cases hr
section
variable {P:Program}{o:Oper}{a:Act}{g:Gh}{w:World}{H:rI}{T:rZ}{Γ:tX}(hT:wE P T) (hΓ:DJ P Γ) (hH:rT g w H)
include hT hΓ hH
theorem aAY {f:FuncId}{args:List pD}{vals:List Value}(hargs:uP g w args vals) {base:Nat}{e:pQ}(hr:JF H base args (Γ f)=some e) (hs: ∀p∈e.side,p) (hfr:zM g base e):
    (∀args w,(callFunc f args).run P w= .ok (.enter f args) w)∧Calls P f vals.toArray w (fun en w'=> ∃v g',en= .returned v∧rG g w H e g' w' v):=by
  cases hg:Γ f with
  |none=>rw[hg] at hr;cases hr
  | some sg=>
    rw[hg] at hr;obtain⟨hcon,hrow⟩:=hΓ f sg hg;refine⟨hcon.1,?_⟩;simp only[JF] at hr;cases hF:sg.row with
    | some F=>
      rw[hF] at hr;exact aKC (hrow F hF) hH hargs hr hs
    | none=>
      rw[hF] at hr;simp only[SV] at hr;cases hn:O4 sg.ps args with
      | some k=>
        rw[hn] at hr;exact aKB hcon hH hargs hr hs hfr
      | none=>
        rw[hn] at hr;exact aAW hcon hH hargs hr hs hfr
theorem aKD {fop:Operand}{args:Array Operand}{tys:Array TypeId}(ho:o.op= .call ⟨.value fop,args,tys⟩) {ρ:Operand→pD}(hf:r5 g w (ρ fop) (a.eval fop)) (hρ: ∀x∈args.toList,r5 g w (ρ x) (a.eval x)) {base:Nat}{e:pQ}
    (hr:LD Γ H base (FS T ρ args.toList tys.toList) (ρ fop)=some e) (hs: ∀p∈e.side,p) (hfr:zM g base e) (hlen:args.size=tys.size):qV P o a g w H e:=by
  have hargs:=aAr (a:=a) (ρ:=ρ) hT hΓ hH (xs:=args.toList) (ts:=tys.toList) (by simpa using hlen) hρ;unfold LD at hr;split at hr
  · rename_i f caps k heq
    rw[heq] at hf
    obtain⟨vs,hcv,hfv⟩: ∃vs,xB g caps vs∧a.eval fop= .func (.func f) #[] vs.toArray:=by
      rcases hf.1 with⟨h1,_⟩ |⟨_,vs,h2,h3⟩
      ·cases h1
      · simp only[aUA,and_true] at h3
        exact⟨vs,h2,h3⟩
    obtain⟨hen,hc⟩:=aAY hT hΓ hH (aJ4 hT hΓ hH hargs (aAs hT hΓ hH hcv)) hr hs hfr;intro K Q hK;refine aAt ho hfv hen (hc.mono ?_);rintro en w' ⟨v,g',rfl,hE⟩;exact⟨v,rfl,hK _ w' v hE⟩
  · rename_i f k heq
    rw[heq] at hf
    have hfv:a.eval fop= .func (.func f) #[] ([]:List Value).toArray:=by
      rcases hf.1 with⟨h1,_⟩ |⟨_,h2⟩
      ·cases h1
      ·simpa[Rd,a9L] using h2
    obtain⟨hen,hc⟩:=aAY hT hΓ hH hargs hr hs hfr;intro K Q hK;refine aAt ho hfv hen ?_;rw[List.append_nil];refine hc.mono ?_;rintro en w' ⟨v,g',rfl,hE⟩;exact⟨v,rfl,hK _ w' v hE⟩
  ·cases hr
theorem aAZ: ∀{xs:List Operand}{ts:List TypeId},JG xs ts=true→xs.length=ts.length
  |[],[],_=>rfl
  |_::xs,_::ts,h=>by simp only[JG] at h;simp [aAZ h]
  |[],_::_,h=>by cases h
  |_::_,[],h=>by cases h
theorem ZJ {op:Op}(ho:o.op=op) {ρ:Operand→pD}(hρ: ∀x∈rU op,r5 g w (ρ x) (a.eval x)) {base:Nat}{e:pQ}(hr:tJ T Γ o.type ρ base H op=some e) (hs: ∀p∈e.side,p) (hf:zM g base e):qV P o a g w H e:=by
  unfold tJ at hr;split at hr
  · rename_i x
    exact a99 hT hH (.inl ho) (hρ x (by simp [rU])) hr hf
  · rename_i x
    exact a99 hT hH (.inr ho) (hρ x (by simp [rU])) hr hf
  ·exact aJP hT hH ho hr hf
  · rename_i t x
    exact aJO hT hH ho (Z7 hT hΓ hH (hρ x (by simp [rU]))) hr hf
  · rename_i t ps
    exact aJx hT hH ho (ρ:=ρ) (fun q hq=>hρ q.2 (by
      simp only[rU];generalize ps.toList=l at hq
      induction l with
      |nil=>cases hq
      |cons p l ih=>rcases aTW.1 hq with rfl|h<;>simp_all [rU.parts])) hr
  · rename_i t n ps
    exact aJU hT hH ho (ρ:=ρ) (fun q hq=>hρ q.2 (by
      simp only[rU];generalize ps.toList=l at hq
      induction l with
      |nil=>cases hq
      |cons p l ih=>rcases aTW.1 hq with rfl|h<;>simp_all [rU.parts])) hr hf
  · rename_i t x
    exact aJH hT hH ho (hρ x (by simp [rU])) hr hs
  · rename_i t x y
    exact aJT hT hH ho (hρ x (by simp [rU])) (Z7 hT hΓ hH (hρ y (by simp [rU]))) hr hs hf
  · rename_i x
    exact aJr hT hH ho (hρ x (by simp [rU])) hr
  · rename_i op t x y t'
    cases hb:RX op (ρ x) (ρ y) with
    | some r=>
      rw[hb] at hr;exact aJi hH ho (hρ x (by simp [rU])) (hρ y (by simp [rU])) (by rw[hb];exact hr) hs
    | none=>
      rw[hb] at hr;exact aKu hT hH ho (hρ x (by simp [rU])) (hρ y (by simp [rU])) hr
  · rename_i op t x
    exact aJj hH ho (hρ x (by simp [rU])) hr hs
  · rename_i t t' x
    cases hb:RZ (r7 T t) (r7 T t') (ρ x) with
    | some r=>
      rw[hb] at hr;exact aJk hT hH ho (hρ x (by simp [rU])) (by rw[hb];exact hr)
    | none=>
      rw[hb] at hr;exact aKy hT hH ho (hρ x (by simp [rU])) hr
  · rename_i f first caps
    have hfi:first= #[]:=by
      cases hl:first.toList with
      |nil=>apply aUP.1;simpa using hl
      |cons x l=>rw[hl] at hr;cases hr
    subst hfi;exact aJB hT hH ho (ρ:=ρ) (fun x hx=>hρ x (by simpa[rU] using hx)) hr
  · rename_i t x lo hi
    refine aJI hT hH ho (ρ:=ρ) (hρ x (by simp [rU])) (fun y hy=>hρ y ?_) (fun y hy=>hρ y ?_) hr hs
    · cases lo with
      |none=>simp at hy
      |some l=>simp at hy;subst hy;simp [rU,rU.opt,pX]
    · cases hi with
      |none=>simp at hy
      |some l=>simp at hy;subst hy;cases lo<;>simp [rU,rU.opt,pX]
  · rename_i t x f
    exact aJp hT hH ho (hρ x (by simp [rU])) hr
  · rename_i t x f
    exact aJo hT hH ho (hρ x (by simp [rU])) hr
  · rename_i t x ix
    exact aJt hT hH ho (hρ x (by simp [rU])) (hρ ix (by simp [rU])) hr hs
  · rename_i t x ix
    exact aJs hT hH ho (hρ x (by simp [rU])) (hρ ix (by simp [rU])) hr hs
  · rename_i x i
    exact aJq hT hH ho (hρ x (by simp [rU])) hr hs
  · rename_i t r
    exact aJX hT hH ho hr hf
  · rename_i t x
    exact aJ2 hT hH ho (hρ x (by simp [rU])) hr hf
  · rename_i x b
    exact aJ3 hT hH ho (hρ x (by simp [rU])) hr
  · rename_i t x i ok
    exact aJZ hT hH ho (hρ x (by simp [rU])) (hρ i (by simp [rU])) hr
  · rename_i t m k x
    exact aAo hT hH (.inl ho) (hρ m (by simp [rU])) (hρ k (by simp [rU])) (aAn (hρ x (by simp [rU]))) hr
  · rename_i t m k x
    exact aAo hT hH (.inr ho) (hρ m (by simp [rU])) (hρ k (by simp [rU])) (aAn (hρ x (by simp [rU]))) hr
  · rename_i c
    obtain⟨cal,args,tys⟩:=c;simp only at hr;unfold JH at hr;split at hr
    ·exact aJA hT hH ho (ρ:=ρ) (fun x hx=>hρ x (by simpa[rU] using hx)) hr
    ·exact aKz hT hH ho (ρ:=ρ) (fun x hx=>hρ x (by simpa[rU] using hx)) hr hs
    ·exact a90 (mx:=true) hT hH ho (ρ:=ρ) (fun x hx=>hρ x (by simpa[rU] using hx)) hr
    ·exact a90 (mx:=false) hT hH ho (ρ:=ρ) (fun x hx=>hρ x (by simpa[rU] using hx)) hr
    · rename_i f
      cases hsl:JG args.toList tys.toList with
      |false=>rw[hsl] at hr;cases hr
      | true=>
        rw[hsl] at hr;simp only[Y7] at hr;exact aKD hT hΓ hH ho (hρ f (by simp [rU])) (fun x hx=>hρ x (by simp [rU];right;simpa using hx)) hr hs hf (by simpa using aAZ hT hΓ hH hsl)
    ·cases hr
  ·cases hr
end
def B8 (g:Gh) (w:World) (env:List (Nat×pD)) (tmps:Array Value):Prop:= ∀t,r5 g w (lk env t) (tmps.getD t undef)
def yX (B:Nat) (w:World) (ds:List Deferred):Prop:=ds.Nodup/\∀d∈ds,∃D,d={target:= .collected D,args:= #[]}/\B<=D/\NG<=D/\w.heap[D]? =some (.deferred (some []))
theorem aA0 (B:Nat) (w:World):yX B w []:=⟨List.nodup_nil,fun d hd=>by cases hd⟩
theorem yX.same {B:Nat}{w w':World}{ds:List Deferred}(h:yX B w ds) (hb: ∀D:Nat,w.heap[D]? =some (Obj.deferred (some []))->w'.heap[D]? =some (Obj.deferred (some []))):yX B w' ds:=
 ⟨h.1,fun d hd=>by obtain⟨D,h1,h2,h0,h3⟩:=h.2 d hd;exact⟨D,h1,h2,h0,hb D h3⟩⟩
def G1:Obj->Bool
 | .deferred _=>true
 | .loop _=>true
 |_=>false
theorem ZK {w:World}{b:Nat}{ob:Obj}(hd:w.heap[b]? =some ob) (hm:G1 ob=true) (o:Nat):w.cell? ⟨b,o,none⟩=none:=by
 unfold World.cell?;simp only[hd];cases ob<;>first|rfl|cases hm
theorem U3 {g:Gh}{w:World}{i:Nat}{blk:pC}(h:zL g w i blk) {b o:Nat}(ho:rJ g i blk b o) {ob:Obj}(hd:w.heap[b]? =some ob) (hm:G1 ob=true):False:=by
 have hrow: ∀{e:TypeId}{c n:Nat}{v:Value}{xs:List Value},w.ownsRow 0 e c v n xs->v.ownBlock=some b->False:=by
  intro e c n v xs hr hb;rcases hr.2 with⟨rfl,_⟩ |⟨g',cap,cur,rfl,_,h3,_⟩
  ·cases hb
  ·simp only[Value.ownBlock,aTE] at hb;subst hb;rw[hd] at h3;cases h3;cases hm
 cases blk with
 |cells t x toks=>
  obtain⟨p,cs,hp,_,_,ht,_⟩:=h;obtain⟨q,hq,rfl,h1,h2⟩:=ho;rw[hp] at hq;obtain rfl:=aTI hq;have:=(ht.1 (o-p.2) (by omega)).1;rw[ZK hd hm] at this;cases this
 |grow e c n=>
  obtain⟨v,xs,hv,hr,_⟩:=h;obtain⟨v',hv',hb⟩:=ho;rw[hv] at hv';obtain rfl:=aTI hv';exact hrow hr hb
 |row e t l n=>
  obtain⟨_,v,xs,hv,hr,_⟩:=h;obtain⟨v',hv',hb⟩:=ho;rw[hv] at hv';obtain rfl:=aTI hv';exact hrow hr hb
 |map k v l=>
  obtain⟨p,es,cl,hp,h0,h2,_⟩:=h;obtain⟨q,hq,h1⟩:=ho;rw[hp] at hq;obtain rfl:=aTI hq;rw[show b=p.1 from h1] at hd;rw[h2] at hd;cases hd;cases hm
 |iter s n=>
  obtain⟨p,hp,h0,h2,_⟩:=h;obtain⟨q,hq,h1⟩:=ho;rw[hp] at hq;obtain rfl:=aTI hq;rw[show b=p.1 from h1] at hd;rw[h2] at hd;cases hd;cases hm
 |dead=>exact ho.elim
theorem yX.eff {B:Nat}{g g':Gh}{w w':World}{H:rI}{e:pQ}{v:Value}{ds:List Deferred}(h:yX B w ds) (hH:rT g w H) (k:rG g w H e g' w' v):yX B w' ds:=
 h.same fun D hD=>by
  rw[k.fr.blk D (aT3.1 hD).1 (fun o ⟨i,blk,_,h1,h2⟩=>U3 (hH.blk i blk h1) h2 hD rfl)];exact hD
structure uD (B:Nat) (g:Gh) (w:World) (s:St) (a:Act):Prop where
 env:B8 g w s.env a.tmps
 heap:rT g w s.H
 size:a.tmps.size=s.N
 nb: ∀i,s.nb<=i->g.J i=none/\∀n,g.cur i n=none
 def_:yX B w a.defers
 np:s.np<=s.nb
theorem aKE (g:Gh) (w:World) (v:Value):zK g w (XA v) v:=by
 unfold XA;split
 ·exact vP _ _ _
 ·exact vO _ _ _ _
 ·rename_i s;have:=FX g w s.data.toList;rw[aVa] at this;exact this
 ·exact rfl
 ·exact .inr ⟨rfl,rfl⟩
 ·exact .inr ⟨rfl,rfl⟩
 ·exact .inr ⟨rfl,rfl⟩
 ·exact trivial
theorem zQ {g:Gh}{w:World}{env:List (Nat×pD)}{a:Act}(h:B8 g w env a.tmps) (x:Operand):r5 g w (sY env x) (a.eval x):=by
 cases x with
 |tmp t=>exact h t
 |const v=>exact⟨aKE g w v,trivial⟩
 |func f=>exact⟨.inr ⟨rfl,[],rfl,rfl⟩,trivial⟩
 |global i=>exact⟨trivial,trivial⟩
theorem LX {g:Gh}{w:World}{G:Bool}(hG:G=true): ∀{ss:List pD}{s:pD}{v:Value},s∈ss->(∀p∈yA G ss,p)->r5 g w s v->r5 g w (wP s) v
 |x::ss,s,v,hm,hn,hs=>by
  have hcase: ∀{s:pD},(∀p∈yA G [s],p)->r5 g w s v->r5 g w (wP s) v:=by
   intro s hn hs;obtain⟨d,k⟩:=s;cases d with
   |cond p d=>
    refine⟨hs.1.1 (hn (G=true->p=true) (by simp [yA]) hG),?_⟩;simp only[wP]
   |_=>exact hs
  have hsplit: ∀p,p∈yA G [x]->p∈yA G (x::ss):=by
   intro p hp;unfold yA at hp⊢;split at hp
   ·cases hp
   ·rename_i heq;simp only[aUA] at heq;obtain⟨rfl,rfl⟩:=heq;rcases aTW.1 hp with h|h
    ·exact h▸aT1
    ·cases h
   ·rename_i h0 heq;simp only[aUA] at heq;obtain⟨_,rfl⟩:=heq;cases hp
  have hsplit2: ∀p,p∈yA G ss->p∈yA G (x::ss):=by
   intro p hp;generalize hL:yA G ss=L at hp;unfold yA;split
   ·rename_i h;cases h
   ·rename_i heq;simp only[aUA] at heq;obtain⟨_,rfl⟩:=heq;rw[hL];exact aTS _ hp
   ·rename_i heq;simp only[aUA] at heq;obtain⟨_,rfl⟩:=heq;rw[hL];exact hp
  rcases aTW.1 hm with rfl|hm
  ·exact hcase (fun p hp=>hn p (hsplit p hp)) hs
  ·exact LX hG hm (fun p hp=>hn p (hsplit2 p hp)) hs
theorem U4 {env:List (Nat×pD)}: ∀{xs:List Operand}{x:Operand},x∈xs->sY env x∈BY env xs
 |y::xs,x,h=>by
  simp only[BY];rcases aTW.1 h with rfl|h
  ·exact aT1
  ·exact aTS _ (U4 h)
theorem ZL: ∀(ops:List Oper) (j:Nat),DB ops j=(ops[j]?).bind (·.dst)
 |[],j=>by simp [DB]
 |o::_,0=>rfl
 |_::r,j+1=>by simpa[DB] using ZL r j
section
variable {P:Program}{g:Gh}{w:World}{T:rZ}{Γ:tX}(hT:wE P T) (hΓ:DJ P Γ)
include hT hΓ
theorem aKF {ops:List Oper}{o:Oper}{a:Act}{env:List (Nat×pD)}(henv:B8 g w env a.tmps) {j:Nat}{b:Bool}(hg:o.guard=some (j,b)) {G:Bool}(h:FU env b (DB ops j)=some G):Region.wanted o (yielded ops.toArray a.tmps)=G:=by
 rw[ZL] at h;unfold Region.wanted;rw[hg];simp only;cases hd:(ops[j]?).bind (·.dst) with
 |none=>rw[hd] at h;cases h
 |some t=>
  rw[hd] at h;simp only[FU] at h;have hy:yielded ops.toArray a.tmps j=match a.tmps[t]? with|some (.bool b)=>some b|_=>none:=by
   unfold yielded;have:(ops.toArray[j]?).bind (·.dst)=some t:=by simpa using hd
   rw[this];rfl
  have hv:=henv t;generalize hl:lk env t=s at h hv;unfold a9B at h;have hb: ∀c,a.tmps.getD t undef= .bool c->a.tmps[t]? =some (.bool c):=by
   intro c hc;rw[aUe] at hc;cases hq:a.tmps[t]? with
   |none=>rw[hq] at hc;simp [undef] at hc
   |some v=>rw[hq] at hc;simp at hc;rw[hc]
  split at h
  ·rename_i c k;simp only[aTE] at h;have:=hb _ (wF hv.1);rw[hy,this,<-h];cases c<;>cases b<;>rfl
  ·rename_i p c k;simp only[aTE] at h;subst h;cases p with
   |true=>
    have:=hb _ (wF (hv.1.1 rfl));rw[hy,this];cases c<;>cases b<;>rfl
   |false=>
    have hu:=hv.1.2 rfl;have: ∀c,a.tmps[t]? ≠some (.bool c):=by
     intro c hc;rw[aUe,hc] at hu;simp [undef] at hu
    rw[hy];cases hq:a.tmps[t]? with
    |none=>cases b<;>rfl
    |some v=>cases v<;>first|(exact absurd hq (this _)) |(cases b<;>rfl)
  ·cases h
theorem P0 {G:Bool}{p:Prop}: ∀{l:List Prop},p∈l->(G=true->p)∈OB G l
 |q::l,h=>by
  simp only[OB];rcases aTW.1 h with rfl|h
  ·exact aT1
  ·exact aTS _ (P0 h)
theorem ZM {o:Oper}{a:Act}{H:rI}(hH:rT g w H) {c x y:Operand}(hop:o.op= .pick c x y) {sc sx sy:pD}(hc:r5 g w sc (a.eval c)) (hx:r5 g w sx (a.eval x)) (hy:r5 g w sy (a.eval y)) {e:pQ}(hr:OA sc sx sy=some e) (hs: ∀p∈e.side,p):qV P o a g w H e:=by
 intro K Q hK;unfold OA at hr;split at hr
 ·rename_i z k;have hz:=wF hc.1;have run:(execOp a.eval o).run P w= .ok (.value (if z then a.eval x else a.eval y)) w:=by
   unfold execOp;rw[hop];simp [hz,asBool]
  have wA: ∀{v:Bool}{side:List Prop},(if z then a.eval x else a.eval y)= .bool v->e=⟨side,(.val .bool v,none),[],[]⟩->o.wp P a w K Q:=by
   intro v side hv he;subst he;refine qV.value (v:= .bool v) (g':=g) (w':=w) (H:=H) (by rw[run,hv]) (.pure hH (s:=(.val .bool v,none)) ⟨(vP g w v:zK g w (.val .bool v) (.bool v)),trivial⟩) K Q hK
  unfold a9C at hr;split at hr
  ·rename_i m1 _ m2 _;simp only[aTE] at hr;refine wA (v:=cond z m1 m2) ?_ hr.symm;cases z
   ·exact wF hy.1
   ·exact wF hx.1
  ·rename_i p m1 _ m2 _;simp only[aTE] at hr;refine wA (v:=cond z m1 m2) ?_ hr.symm;cases z
   ·exact wF hy.1
   ·exact wF (hx.1.1 (hs (true=true->p=true) (by rw[<-hr];simp) rfl))
  ·rename_i m1 _ p m2 _;simp only[aTE] at hr;refine wA (v:=cond z m1 m2) ?_ hr.symm;cases z
   ·exact wF (hy.1.1 (hs (false=false->p=true) (by rw[<-hr];simp) rfl))
   ·exact wF hx.1
  ·rename_i q m1 _ p m2 _;simp only[aTE] at hr;refine wA (v:=cond z m1 m2) ?_ hr.symm;cases z
   ·exact wF (hy.1.1 (hs (false=false->p=true) (by rw[<-hr];simp) rfl))
   ·exact wF (hx.1.1 (hs (true=true->q=true) (by rw[<-hr];simp) rfl))
  ·cases hr
 ·cases hr
theorem aA1 {ops:List Oper}{o:Oper}{a:Act}{s:St}{e:pQ}(henv:B8 g w s.env a.tmps) (hH:rT g w s.H) (hr:CN T Γ ops o s=some e) (hs: ∀p∈e.side,p) (hf:zM g s.nb e) {K:Act->World->Prop}{Q:Exit->Act->World->Prop}
  (hK: ∀g' w' v,rG g w s.H e g' w' v->K (a.put o.dst v) w'):
  if Region.wanted o (yielded ops.toArray a.tmps) then o.wp P a w K Q else K (a.put o.dst undef) w:=by
 unfold CN at hr;cases hgd:o.guard with
 |none=>
  rw[hgd] at hr;simp only at hr;have hw:Region.wanted o (yielded ops.toArray a.tmps)=true:=by unfold Region.wanted;rw[hgd]
  rw[aTD hw];cases hop:o.op with
  |pick c x y=>
   rw[hop] at hr;simp only[LI] at hr;exact ZM hT hΓ hH hop (zQ henv c) (zQ henv x) (zQ henv y) hr hs K Q hK
  |_=>
   rw[hop] at hr;simp only[LI] at hr;rw[<-hop] at hr;generalize hpl:tJ T Γ o.type (fun x=>wP (sY s.env x)) s.nb s.H o.op=op at hr;cases op with
   |none=>cases hr
   |some e0=>
    simp only[LG,aTE] at hr;subst hr;refine ZJ hT hΓ hH rfl (ρ:=fun x=>wP (sY s.env x)) (fun x hx=> ?_) hpl (fun p hp=>hs p (vX.2 (.inr hp))) hf K Q (fun g' w' v h=>hK g' w' v ⟨h.le,h.slot,h.heap,h.fr,h.perm,h.gho,h.ty⟩);exact LX rfl (U4 hx) (fun p hp=>hs p (vX.2 (.inl hp))) (zQ henv x)
 |some jb=>
  obtain⟨j,b⟩:=jb;rw[hgd] at hr;simp only at hr;generalize hG:FU s.env b (DB ops j)=oG at hr;cases oG with
  |none=>cases hr
  |some G=>
   have hw:=aKF hT hΓ henv hgd hG;rw[hw];by_cases hpk: ∃c x y,o.op= .pick c x y
   ·obtain⟨c,x,y,hop⟩:=hpk;rw[hop] at hr;simp only[LH] at hr;generalize hpl:OA (wP (sY s.env c)) (sY s.env x) (sY s.env y)=op at hr;cases op with
    |none=>cases hr
    |some e0=>
     unfold HD at hr;split at hr
     ·rename_i side d k rds heq;simp only[aTE] at hr heq;subst hr;subst heq;by_cases hGt:G=true
      ·rw[aTD hGt];refine ZM hT hΓ hH hop (LX hGt (ss:=[sY s.env c]) (by simp) (fun p hp=>hs p (vX.2 (.inl hp))) (zQ henv c)) (zQ henv x) (zQ henv y) hpl (fun p hp=>hs (G=true->p) (vX.2 (.inr (P0 hT hΓ hp))) hGt) K Q (fun g' w' v h=>hK g' w' v ⟨h.le,⟨⟨fun _=>h.slot.1,fun hc=>by rw[hGt] at hc;cases hc⟩,trivial⟩,h.heap,h.fr,h.perm,h.gho,h.ty⟩)
      ·rw[aTG hGt];exact hK g w undef (.pure hH ⟨⟨fun hc=>absurd hc hGt,fun _=>rfl⟩,trivial⟩)
     ·rename_i side sl u us rds heq;simp only[aTE] at hr heq;subst hr;subst heq;have hGt:G=true:=hs _ aT1;rw[aTD hGt];exact ZM hT hΓ hH hop (LX hGt (ss:=[sY s.env c]) (by simp) (fun p hp=>hs p (aTS _ (vX.2 (.inl hp)))) (zQ henv c)) (zQ henv x) (zQ henv y) hpl (fun p hp=>hs (G=true->p) (aTS _ (vX.2 (.inr (P0 hT hΓ hp)))) hGt) K Q (fun g' w' v h=>hK g' w' v ⟨h.le,h.slot,h.heap,h.fr,h.perm,h.gho,h.ty⟩)
     ·cases hr
   ·have e1:LH T Γ o s (some G) o.op=HD G (yA G (BY s.env (rU o.op))) (tJ T Γ o.type (fun x=>wP (sY s.env x)) s.nb s.H o.op):=by
     cases ho:o.op<;>first|rfl|(exact absurd ⟨_,_,_,ho⟩ hpk)
    rw[e1] at hr;generalize hpl:tJ T Γ o.type (fun x=>wP (sY s.env x)) s.nb s.H o.op=op at hr;cases op with
    |none=>cases hr
    |some e0=>
     unfold HD at hr;split at hr
     ·rename_i side d k rds heq;simp only[aTE] at hr heq;subst hr;subst heq;by_cases hGt:G=true
      ·rw[aTD hGt];refine ZJ hT hΓ hH rfl (ρ:=fun x=>wP (sY s.env x)) (fun x hx=> ?_) hpl (fun p hp=>hs (G=true->p) (vX.2 (.inr (P0 hT hΓ hp))) hGt) (fun i hi=>by cases hi) K Q (fun g' w' v h=>hK g' w' v ⟨h.le,⟨⟨fun _=>h.slot.1,fun hc=>by rw[hGt] at hc;cases hc⟩,trivial⟩,h.heap,h.fr,h.perm,h.gho,h.ty⟩);exact LX hGt (U4 hx) (fun p hp=>hs p (vX.2 (.inl hp))) (zQ henv x)
      ·rw[aTG hGt];exact hK g w undef (.pure hH ⟨⟨fun hc=>absurd hc hGt,fun _=>rfl⟩,trivial⟩)
     ·rename_i side sl u us rds heq;simp only[aTE] at hr heq;subst hr;subst heq;have hGt:G=true:=hs _ aT1;rw[aTD hGt];refine ZJ hT hΓ hH rfl (ρ:=fun x=>wP (sY s.env x)) (fun x hx=> ?_) hpl (fun p hp=>hs (G=true->p) (aTS _ (vX.2 (.inr (P0 hT hΓ hp)))) hGt) hf K Q (fun g' w' v h=>hK g' w' v ⟨h.le,h.slot,h.heap,h.fr,h.perm,h.gho,h.ty⟩);exact LX hGt (U4 hx) (fun p hp=>hs p (aTS _ (vX.2 (.inl hp)))) (zQ henv x)
     ·cases hr
end
structure sB (A:Nat->Nat->Prop) (L:List pC) (g0:Gh) (w0:World) (g:Gh) (w:World) (H:rI):Prop where
 shut: ∀b o,g0.S b o->g.S b o/\w.cell? ⟨b,o,none⟩=w0.cell? ⟨b,o,none⟩
 fr:Fr A w0 w g0.S g.S
 perm: ∀i blk b o,pG H i=some blk->rJ g i blk b o->w0.heap.size<=b\/A b o
 J: ∀i p,i<L.length->g0.J i=some p->g.J i=some p
 live: ∀i,i<L.length->(∃p,g.J i=some p)\/(∃n v,g.cur i n=some v)
 ty: ∀i u y us,i<L.length->pG H i=some (.cells u y us)->∃x ts,L[i]? =some (.cells u x ts)
 cur: ∀i n v,i<L.length->g0.cur i n=some v->g.cur i n=some v
theorem sB.eff {A:Nat->Nat->Prop}{L:List pC}{g0 g g':Gh}{w0 w w':World}{H:rI}{e:pQ}{v:Value}(h:sB A L g0 w0 g w H) (k:rG g w H e g' w' v):sB A L g0 w0 g' w' (pX e.upd H):=by
 have hown: ∀b o,s9 g H (pH e.upd) b o->w0.heap.size<=b\/A b o:=fun b o ⟨i,blk,_,h2,h3⟩=>h.perm i blk b o h2 h3;refine⟨fun b o hs=> ?_,h.fr.trans k.fr hown,fun i blk b o hg ho=> ?_,fun i p hi hp=>k.le.J _ _ (h.J i p hi hp),fun i hi=> ?_,fun i u y us hi hg=> ?_,fun i n u hi hu=>k.le.cur _ _ _ (h.cur i n u hi hu)⟩
 ·obtain⟨h1,h2⟩:=h.shut b o hs;exact⟨k.le.S b o h1,(k.le.cell b o h1).trans h2⟩
 ·by_cases hi:i∈pH e.upd
  ·rcases k.perm i blk b o hi hg ho with h1|h1
   ·exact .inl (aUE h.fr.size h1)
   ·exact hown b o h1
  ·exact h.perm i blk b o ((C0 hi).symm.trans hg) ((yV (k.gho i hi).1 (k.gho i hi).2).1 ho)
 ·rcases h.live i hi with⟨p,hp⟩ |⟨n,u,hu⟩
  ·exact .inl ⟨p,k.le.J _ _ hp⟩
  ·exact .inr ⟨n,u,k.le.cur _ _ _ hu⟩
 ·rcases k.ty i u y us hg with⟨x,ts,h1⟩ |⟨h1,h2⟩
  ·exact h.ty i u x ts hi h1
  ·rcases h.live i hi with⟨p,hp⟩ |⟨n,u,hu⟩
   ·rw[h1] at hp;cases hp
   ·rw[h2] at hu;cases hu
def yY:List (Nat×Nat)->Nat->Option Nat
 |[],_=>none
 |(n,o)::r,k=>if n=k then some o else yY r k
def tQ (g:Gh) (np:Nat) (m:List (Nat×Nat)):Gh:=
 ⟨g.S,fun i=>if i<np then g.J i else(yY m i).bind g.J,fun i n=>if i<np then g.cur i n else(yY m i).bind fun o=>g.cur o n⟩
theorem U5 {n o:Nat}: ∀{m:List (Nat×Nat)},LK n o m=false->∀n' o',(n',o')∈m->n'≠n/\o'≠o
 |[],_,_,_,h=>by cases h
 |(a,b)::m,h,n',o',hm=>by
  simp only[LK,aUW,aUh] at h;rcases aTW.1 hm with h1|h1
  ·cases h1;exact h.1
  ·exact U5 h.2 n' o' h1
theorem ZN {np:Nat}: ∀{m:List (Nat×Nat)},wQ np m=true->∀{n o:Nat},(n,o)∈m->yY m n=some o/\(n<np->o=n)
 |[],_,_,_,h=>by cases h
 |(a,b)::m,hk,n,o,h=>by
  simp only[wQ,aTL,aT8,aUt,aTK] at hk;obtain⟨⟨h1,h2⟩,h3⟩:=hk;simp only[yY];rcases aTW.1 h with h4|h4
  ·cases h4;rw[aTD rfl];exact⟨rfl,fun h5=>by rcases h1 with h1|h1<;>omega⟩
  ·have h5:=U5 h2 n o h4;rw[aTG (Ne.symm h5.1)];exact ZN h3 h4
theorem CR: ∀{m:List (Nat×Nat)}{k j:Nat},vW m k=some j->(j,k)∈m
 |[],_,_,h=>by cases h
 |(a,b)::m,k,j,h=>by
  simp only[vW] at h;split at h
  ·rename_i e;subst e;simp only[aTE] at h;subst h;exact aT1
  ·exact aTS _ (CR h)
theorem AJ {g:Gh}{np:Nat}{m:List (Nat×Nat)}(hk:wQ np m=true) {n o:Nat}(h:(n,o)∈m):(tQ g np m).J n=g.J o/\(tQ g np m).cur n=g.cur o:=by
 obtain⟨h1,h2⟩:=ZN hk h;refine⟨?_,?_⟩
 ·show (if n<np then g.J n else(yY m n).bind g.J)=_;by_cases hn:n<np
  ·rw[aTD hn,h2 hn]
  ·rw[aTG hn,h1];rfl
 ·funext q;show (if n<np then g.cur n q else(yY m n).bind fun o=>g.cur o q)=_;by_cases hn:n<np
  ·rw[aTD hn,h2 hn]
  ·rw[aTG hn,h1];rfl
theorem ZO {g:Gh}{np:Nat}{m:List (Nat×Nat)}(hk:wQ np m=true): ∀(l l':List (Nat×Nat)) (vs:List Value),xB g l vs->BZ m l=some l'->xB (tQ g np m) l' vs
 |[],l',vs,h,hr=>by simp only[BZ,aTE] at hr;subst hr;exact h
 |(i,o)::l,l',vs,⟨p,vs',h1,h2,h3⟩,hr=>by
  simp only[BZ] at hr;cases hi:vW m i with
  |none=>rw[hi] at hr;cases hr2:BZ m l<;>rw[hr2] at hr<;>cases hr
  |some j=>
   rw[hi] at hr;cases hr2:BZ m l with
   |none=>rw[hr2] at hr;cases hr
   |some l2=>
    rw[hr2] at hr;simp only[BZ.renCons,aTE] at hr;subst hr;exact⟨p,vs',by rw[(AJ hk (CR hi)).1];exact h1,h2,ZO hk l l2 vs' h3 hr2⟩
theorem aKG {m:List (Nat×Nat)}{u t:Ty}{x y:t.den}{o:Nat}{l:List u.den}(h:yU m t x=some y) (hg:qK (.list u) t x o=some l):qK (.list u) t y o=some l:=
 ZA (yU m) (fun _ _ _=>rfl) (fun _ _=>rfl) h hg
theorem P9 {g:Gh}{w:World}{np:Nat}{m:List (Nat×Nat)}(hk:wQ np m=true): ∀{t:Ty}{x y:t.den}{cs:List Value},Rd g w t x cs->yU m t x=some y->Rd (tQ g np m) w t y cs
 | .bool,_,_,_,r,h=>by cases h;exact r
 | .int _,_,_,_,r,h=>by cases h;exact r
 | .str,_,_,_,r,h=>by cases h;exact r
 | .unit,_,_,_,r,h=>by cases h;exact r
 | .list t,x,y,_,r,h=>by
  simp only[yU] at h;split at h
  ·rename_i hp;cases h;exact uV (g:=g) (g':=tQ g np m) rfl (t:= .list t) (by simpa[Ty.pure] using hp) r
  ·cases h
 | .ref,none,y,_,r,h=>by cases h;exact r
 | .ref,some (i,o),y,_,⟨p,h1,h2⟩,h=>by
  simp only[yU,T7] at h;cases hi:vW m i with
  |none=>rw[hi] at h;cases h
  |some j=>
   rw[hi] at h;cases h;exact⟨p,by rw[(AJ hk (CR hi)).1];exact h1,h2⟩
 | .clo,none,y,_,r,h=>by cases h;exact r
 | .clo,some (f,l),y,_,⟨vs,h1,h2⟩,h=>by
  simp only[yU,a9G] at h;cases hi:BZ m l with
  |none=>rw[hi] at h;cases h
  |some l'=>
   rw[hi] at h;cases h;exact⟨vs,ZO hk l l' vs h1 hi,h2⟩
 | .fn,_,_,_,r,h=>by cases h;exact r
 | .rl _ _,none,y,_,r,h=>by cases h;exact r
 | .rl _ _,some (k,n),y,_,⟨v,h1,h2⟩,h=>by
  simp only[yU,a9I] at h;cases hi:vW m k with
  |none=>rw[hi] at h;cases h
  |some j=>
   rw[hi] at h;cases h;exact⟨v,by rw[(AJ hk (CR hi)).2];exact h1,h2⟩
 | .mref,none,y,_,r,h=>by cases h;exact r
 | .mref,some (i,o),y,_,⟨p,h1,h2⟩,h=>by
  simp only[yU,T7] at h;cases hi:vW m i with
  |none=>rw[hi] at h;cases h
  |some j=>
   rw[hi] at h;cases h;exact⟨p,by rw[(AJ hk (CR hi)).1];exact h1,h2⟩
 | .mp,none,y,_,r,h=>by cases h;exact r
 | .mp,some i,y,_,⟨p,h1,h2⟩,h=>by
  simp only[yU,a9H] at h;cases hi:vW m i with
  |none=>rw[hi] at h;cases h
  |some j=>
   rw[hi] at h;cases h;exact⟨p,by rw[(AJ hk (CR hi)).1];exact h1,h2⟩
 | .pair a b,x,y,_,⟨c1,c2,e,r1,r2⟩,h=>by
  simp only[yU] at h;obtain⟨h1,h2⟩:=Z9 h;refine⟨c1,c2,e,?_,?_⟩
  ·split at h1
   ·rename_i hp;exact(aTI h1)▸uV (g:=g) (g':=tQ g np m) rfl hp r1
   ·exact P9 hk r1 h1
  ·split at h2
   ·rename_i hp;exact(aTI h2)▸uV (g:=g) (g':=tQ g np m) rfl hp r2
   ·exact P9 hk r2 h2
theorem U6 {g:Gh}{w:World}{np:Nat}{m:List (Nat×Nat)}(hk:wQ np m=true) {s:pD}{v:Value}(h:r5 g w s v):r5 (tQ g np m) w (zJ m s) v:=by
 have caps: ∀(l l':List (Nat×Nat)) (vs:List Value),xB g l vs->BZ m l=some l'->xB (tQ g np m) l' vs:=ZO hk;unfold zJ;split
 ·rename_i k n k';cases hi:vW m k with
  |none=>exact⟨trivial,trivial⟩
  |some j=>
   obtain⟨h1,h2⟩:=h.1;exact⟨⟨by rw[(AJ hk (CR hi)).2];exact h1,h2⟩,trivial⟩
 ·obtain h1:=h.1;refine⟨?_,trivial⟩;rcases h1 with⟨h1,_⟩ |⟨_,h2⟩
  ·cases h1
  ·exact .inr ⟨rfl,h2⟩
 ·rename_i p k;obtain⟨i,o⟩:=p;simp only[a9E];cases hi:vW m i with
  |none=>exact⟨trivial,trivial⟩
  |some j=>
   simp only[Option.map_some,zJ.refSlot];obtain⟨q,hq,hv⟩:=AI h.1;exact⟨.inr ⟨rfl,q,by rw[(AJ hk (CR hi)).1];exact hq,by rw[hv]⟩,trivial⟩
 ·rename_i f l k;cases hl:BZ m l with
  |none=>exact⟨trivial,trivial⟩
  |some l'=>
   simp only[zJ.cloSlot];rcases h.1 with⟨h1,_⟩ |⟨_,vs,h2,h3⟩
   ·cases h1
   ·exact⟨.inr ⟨rfl,vs,caps l l' vs h2 hl,h3⟩,trivial⟩
 ·rename_i i k;cases hi:vW m i with
  |none=>exact⟨trivial,trivial⟩
  |some j=>
   simp only[zJ.mpSlot];rcases h.1 with⟨h1,_⟩ |⟨_,p,h2,h3⟩
   ·cases h1
   ·exact⟨.inr ⟨rfl,p,by rw[(AJ hk (CR hi)).1];exact h2,h3⟩,trivial⟩
 ·rename_i t x k _ _ _ _;split
  ·rename_i hp;have hv:sE (tQ g np m) w t x v:=h.1.imp (fun⟨a,cs,e,q⟩=>⟨a,cs,e,uV (g:=g) (g':=tQ g np m) rfl hp q⟩) (fun⟨a,q⟩=>⟨a,uV (g:=g) (g':=tQ g np m) rfl hp q⟩);refine⟨hv,?_⟩;replace h:=aAq h;generalize htk:FN t k=k' at h⊢;cases k' with
   |none=>trivial
   |some k=>
    simp only[a9F];cases hj:vW m k with
    |none=>trivial
    |some j=>
     have h2:=h.2;cases t with
     |list u=>
      show (tQ g np m).cur j _=_;rw[(AJ hk (CR hj)).2];exact h2
     |pair a b=>exact h2
     |_=>exact h2.elim
  ·cases hy:yU m t x with
   |none=>exact⟨trivial,trivial⟩
   |some y=>
    simp only[zJ.valSlot];exact⟨h.1.imp (fun⟨a,cs,e,q⟩=>⟨a,cs,e,P9 hk q hy⟩) (fun⟨a,q⟩=>⟨a,P9 hk q hy⟩),trivial⟩
 ·rename_i t x k;split
  ·rename_i hp;obtain⟨b,o,cs,h1,h2,h3,h4⟩:=h.1;exact⟨⟨b,o,cs,h1,h2,h3,uV (g:=g) (g':=tQ g np m) rfl hp h4⟩,trivial⟩
  ·exact⟨trivial,trivial⟩
 ·exact⟨trivial,trivial⟩
theorem aA2 {q j:Nat}{x:Nat×Nat}: ∀{r:List (Nat×Nat)},x∈T8 q j r->x=(q,j)\/x∈r
 |[],h=> .inl (aTQ.1 h)
 |(a,b)::r,h=>by
  simp only[T8] at h;split at h
  ·exact aTW.1 h
  ·rcases aTW.1 h with h|h
   ·exact .inr (by rw[h];exact aT1)
   ·exact(aA2 h).imp id (aTS _)
theorem U7 {m:List (Nat×Nat)}: ∀{ts:List (Nat×Nat)}{q j:Nat},(q,j)∈JK m ts->∃k,(q,k)∈ts/\vW m k=some j
 |[],_,_,h=>by cases h
 |(a,b)::ts,q,j,h=>by
  simp only[JK] at h;cases hb:vW m b with
  |none=>
   rw[hb] at h;obtain⟨k,h1,h2⟩:=U7 h;exact⟨k,aTS _ h1,h2⟩
  |some j'=>
   rw[hb] at h;simp only[JK.renTok1] at h;rcases aA2 h with h1|h1
   ·cases h1;exact⟨b,aT1,hb⟩
   ·obtain⟨k,h1,h2⟩:=U7 h1;exact⟨k,aTS _ h1,h2⟩
theorem JQ {g:Gh}{w:World}{np:Nat}{m:List (Nat×Nat)}(hk:wQ np m=true) {n o:Nat}(hm:(n,o)∈m) {b:Option pC}(h: ∀c,b=some c->zL g w o c):
  zL (tQ g np m) w n (HG m b)/\∀bb oo,rJ (tQ g np m) n (HG m b) bb oo->∃c,b=some c/\rJ g o c bb oo:=by
 obtain⟨hJ,hcur⟩:=AJ (g:=g) hk hm;unfold HG;split
 ·rename_i t x toks;split
  ·rename_i hp;obtain⟨p,cs,h1,h2,h3,h4,h5,h6⟩:=h _ rfl;refine⟨⟨p,cs,by rw[hJ];exact h1,uV (g:=g) (g':=tQ g np m) rfl hp h2,h3,h4,h5,fun q j hmem=> ?_⟩,fun bb oo ⟨pp,e1,e2⟩=>⟨_,rfl,pp,by rw[hJ] at e1;exact e1,e2⟩⟩;obtain⟨k,k1,k2⟩:=U7 hmem;obtain⟨u,l,v,g1,g2,g3⟩:=h6 q k k1;exact⟨u,l,v,g1,g2,by rw[(AJ hk (CR k2)).2];exact g3⟩
  ·cases hy:yU m t x with
   |none=>exact⟨trivial,fun _ _ h=>h.elim⟩
   |some y=>
    obtain⟨p,cs,h1,h2,h3,h4,h5,h6⟩:=h _ rfl;simp only[YE];refine⟨⟨p,cs,by rw[hJ];exact h1,P9 hk h2 hy,h3,h4,h5,fun q j hmem=> ?_⟩,fun bb oo ⟨pp,e1,e2⟩=>⟨_,rfl,pp,by rw[hJ] at e1;exact e1,e2⟩⟩;obtain⟨k,k1,k2⟩:=U7 hmem;obtain⟨u,l,v,g1,g2,g3⟩:=h6 q k k1;exact⟨u,l,v,aKG hy g1,g2,by rw[(AJ hk (CR k2)).2];exact g3⟩
 ·rename_i e c k;obtain⟨v,xs,h1,h2,h3,h4⟩:=h _ rfl;exact⟨⟨v,xs,by rw[hcur];exact h1,h2,fun q hq=>by rw[hcur];exact h3 q hq,h4⟩,fun bb oo ⟨v',e1,e2⟩=>⟨_,rfl,v',by rw[hcur] at e1;exact e1,e2⟩⟩
 ·rename_i e t l n;split
  ·rename_i hp;obtain⟨h0,v,xs,h1,h2,h5,h3,h4⟩:=h _ rfl;exact⟨⟨h0,v,xs,by rw[hcur];exact h1,h2,CQ (fun _ _ h=>uV (g:=g) (g':=tQ g np m) rfl hp h) h5,fun q hq=>by rw[hcur];exact h3 q hq,h4⟩,fun bb oo ⟨v',e1,e2⟩=>⟨_,rfl,v',by rw[hcur] at e1;exact e1,e2⟩⟩
  ·exact⟨trivial,fun _ _ h=>h.elim⟩
 ·rename_i k v l;split
  ·rename_i hp;rw[aTL] at hp;obtain⟨p,es,cl,h1,h0,h2,h3,h4⟩:=h _ rfl;exact⟨⟨p,es,cl,by rw[hJ];exact h1,h0,h2,OK (g:=g) (g':=tQ g np m) rfl hp.1 hp.2 h3,h4⟩,fun bb oo ⟨pp,e1,e2⟩=>⟨_,rfl,pp,by rw[hJ] at e1;exact e1,e2⟩⟩
  ·exact⟨trivial,fun _ _ h=>h.elim⟩
 ·obtain⟨p,h1,h0,h2,h4⟩:=h _ rfl;exact⟨⟨p,by rw[hJ];exact h1,h0,h2,h4⟩,fun bb oo ⟨pp,e1,e2⟩=>⟨_,rfl,pp,by rw[hJ] at e1;exact e1,e2⟩⟩
 ·exact⟨trivial,fun _ _ h=>h.elim⟩
theorem HO {m:List (Nat×Nat)}{H:rI}: ∀{l:List (Nat×Nat)}{n:Nat}{b:pC},pG (T9 m H l) n=some b->∃o,(n,o)∈l/\b=HG m (pG H o)
 |[],_,_,h=>by cases h
 |(a,c)::l,n,b,h=>by
  simp only[T9,pG] at h;split at h
  ·rename_i e;subst e;exact⟨c,aT1,(aTI h).symm⟩
  ·obtain⟨o,h1,h2⟩:=HO h;exact⟨o,aTS _ h1,h2⟩
theorem aA3 {m:List (Nat×Nat)}{env:List (Nat×pD)}: ∀(l:List Nat) (t:Nat),lk (OE m env l) t=(.any,none)\/lk (OE m env l) t=zJ m (lk env t)
 |[],_=> .inl rfl
 |a::l,t=>by
  simp only[OE,lk];split
  ·rename_i e;subst e;exact .inr rfl
  ·exact aA3 l t
theorem aA4: ∀{m:List (Nat×Nat)}{n o:Nat},(n,o)∈m->n<TA m
 |(a,b)::m,n,o,h=>by
  simp only[TA];rcases aTW.1 h with h1|h1
  ·cases h1;omega
  ·have:=aA4 h1;omega
theorem ZP: ∀{m:List (Nat×Nat)}{n o:Nat},yY m n=some o->(n,o)∈m
 |[],_,_,h=>by cases h
 |(a,b)::m,n,o,h=>by
  simp only[yY] at h;split at h
  ·rename_i e;subst e;simp only[aTE] at h;subst h;exact aT1
  ·exact aTS _ (ZP h)
theorem ZQ {B:Nat}{A:Nat->Nat->Prop}{L:List pC}{g0 g:Gh}{w0 w:World}{s:St}{a:Act}(h:uD B g w s a) (hg:sB A L g0 w0 g w s.H) (hnp:s.np=L.length) (k:vH) (hk:wQ s.np k.ids=true):
  uD B (tQ g s.np k.ids) w (s.keep k) a/\sB A L g0 w0 (tQ g s.np k.ids) w (s.keep k).H/\(s.keep k).np=L.length/\(s.keep k).N=s.N:=by
 unfold St.keep;rw[hk];refine⟨⟨fun t=> ?_,⟨fun i b hb=> ?_,fun i j bi bj b o hij h1 h2 o1 o2=> ?_,h.heap.sl,h.heap.tab.1,fun i b bb oo hb ho=>by
   obtain⟨o,h1,rfl⟩:=HO hb;obtain⟨c1,e1,o1'⟩:=(JQ hk h1 fun c hc=>h.heap.blk o c hc).2 bb oo ho;exact h.heap.tab.2 o c1 bb oo e1 o1'⟩,h.size,fun i hi=> ?_,h.def_,Nat.le_max_left _ _⟩,⟨hg.shut,hg.fr,fun i blk b o hb ho=> ?_,fun i p hi hp=> ?_,fun i hi=> ?_,fun i u y us hi hb=> ?_,fun i n u hi hu=>(by
   show (if i<s.np then g.cur i n else _)=_;rw[aTD (by omega)];exact hg.cur i n u hi hu)⟩,hnp,rfl⟩
 ·rcases aA3 (m:=k.ids) (env:=s.env) k.slots t with e|e
  ·exact⟨by rw[show lk (OF s k true).env t=_ from e];trivial,by rw[show lk (OF s k true).env t=_ from e];trivial⟩
  ·have:=U6 hk (h.env t);rw[show lk (OF s k true).env t=_ from e];exact this
 ·obtain⟨o,h1,rfl⟩:=HO hb;exact(JQ hk h1 fun c hc=>h.heap.blk o c hc).1
 ·obtain⟨p,k1,rfl⟩:=HO h1;obtain⟨q,k2,rfl⟩:=HO h2;obtain⟨c1,e1,o1'⟩:=(JQ hk k1 fun c hc=>h.heap.blk p c hc).2 b o o1;obtain⟨c2,e2,o2'⟩:=(JQ hk k2 fun c hc=>h.heap.blk q c hc).2 b o o2;refine h.heap.dis p q c1 c2 b o (fun e=> ?_) e1 e2 o1' o2';subst e;have inj: ∀{m:List (Nat×Nat)},wQ s.np m=true->∀{i j o:Nat},(i,o)∈m->(j,o)∈m->i=j:=by
   intro m
   induction m with
   |nil=>intro _ _ _ _ h;cases h
   |cons z m ih=>
    obtain⟨z1,z2⟩:=z;intro hk i j o h1 h2;simp only[wQ,aTL,aT8] at hk;rcases aTW.1 h1 with h1|h1<;>rcases aTW.1 h2 with h2|h2
    ·cases h1;cases h2;rfl
    ·cases h1;exact absurd rfl (U5 hk.1.2 _ _ h2).2
    ·cases h2;exact absurd rfl (U5 hk.1.2 _ _ h1).2
    ·exact ih hk.2 h1 h2
  exact hij (inj hk k1 k2)
 ·have hi': ¬i<s.np:=by have:=aUE (Nat.le_max_left _ _) hi;omega
  have hold:yY k.ids i=none:=by
   cases ho:yY k.ids i with
   |none=>rfl
   |some o=>
    have:=aA4 (ZP ho);have:=aUE (Nat.le_max_right _ _) hi;omega
  refine⟨?_,fun n=> ?_⟩
  ·show (if i<s.np then g.J i else(yY k.ids i).bind g.J)=none;rw[aTG hi',hold];rfl
  ·show (if i<s.np then g.cur i n else(yY k.ids i).bind fun o=>g.cur o n)=none;rw[aTG hi',hold];rfl
 ·obtain⟨p,h1,rfl⟩:=HO hb;obtain⟨c,e1,e2⟩:=(JQ hk h1 fun c hc=>h.heap.blk p c hc).2 b o ho;exact hg.perm p c b o e1 e2
 ·show (if i<s.np then g.J i else _)=_;rw[aTD (by omega)];exact hg.J i p hi hp
 ·rcases hg.live i hi with⟨p,hp⟩ |⟨n,v,hv⟩
  ·left;refine⟨p,?_⟩;show (if i<s.np then g.J i else _)=_;rw[aTD (by omega)];exact hp
  ·right;refine⟨n,v,?_⟩;show (if i<s.np then g.cur i n else _)=_;rw[aTD (by omega)];exact hv
 ·obtain⟨o,h1,h2⟩:=HO hb;have ho:=(ZN hk h1).2 (by omega);subst ho;unfold HG at h2;split at h2
  ·rename_i t x toks heq;split at h2
   ·simp only[pC.cells.injEq] at h2;obtain⟨rfl,_⟩:=h2;exact hg.ty o u x toks hi heq
   ·cases hy:yU k.ids t x with
    |none=>rw[hy] at h2;cases h2
    |some y=>
     rw[hy] at h2;simp only[YE,pC.cells.injEq] at h2;obtain⟨rfl,_⟩:=h2;exact hg.ty o u x toks hi heq
  ·cases h2
  ·split at h2<;>cases h2
  ·split at h2<;>cases h2
  ·cases h2
  ·cases h2
theorem G2 {B:Nat}{A:Nat->Nat->Prop}{L:List pC}{g0 g:Gh}{w0 w:World}{s:St}{a:Act}(h:uD B g w s a) (hg:sB A L g0 w0 g w s.H) (hnp:s.np=L.length) (k:vH):
  ∃g',uD B g' w (s.keep k) a/\sB A L g0 w0 g' w (s.keep k).H/\(s.keep k).np=L.length/\(s.keep k).N=s.N:=by
 unfold St.keep;cases hk:wQ s.np k.ids with
 |false=>
  refine⟨g,⟨fun t=>⟨trivial,trivial⟩,⟨(fun i b h=>by cases h),(fun i j bi bj b o _ h=>by cases h),h.heap.sl,h.heap.tab.1,(fun i b bb oo h=>by cases h)⟩,h.size,h.nb,h.def_,h.np⟩,⟨hg.shut,hg.fr,(fun i blk b o h=>by cases h),hg.J,hg.live,(fun i u y us _ h=>by cases h),hg.cur⟩,hnp,rfl⟩
 |true=>
  have:=ZQ h hg hnp k hk;unfold St.keep at this;rw[hk] at this;exact⟨_,this⟩
theorem ZR {g g':Gh}{w w':World}{env:List (Nat×pD)}{a:Act}{o:Oper}{sl:pD}{v:Value}(h:B8 g w env a.tmps) (le:Le g w g' w') (hs:r5 g' w' sl v) {N:Nat}(hN:a.tmps.size=N) (hd:HE N o.dst=true):B8 g' w' (sU o.dst sl env) (a.put o.dst v).tmps:=by
  intro t;cases ho:o.dst with
  |none=>exact B4 le (h t)
  | some d=>
    rw[ho] at hd;simp only[HE,aTK] at hd;simp only[sU,lk,Act.put];by_cases hdt:d=t
    · subst hdt
      rw[aTD rfl];have hlt:d<a.tmps.size:=by rw[hN];exact hd
      have:(a.tmps.setIfInBounds d v).getD d undef=v:=by
        rw[aUe,Array.getElem?_setIfInBounds_self_of_lt hlt];rfl
      rw[this];exact hs
    · rw[aTG hdt]
      have:(a.tmps.setIfInBounds d v).getD t undef=a.tmps.getD t undef:=by
        rw[aUe,aU0 hdt,←aUe]
      rw[this];exact B4 le (h t)
theorem PA {n:Nat}: ∀{u:List (Nat×pC)},HF n u=true→∀{i:Nat},i∈pH u→i<n
  | (k,b)::u,h,i,hi=>by
    simp only[HF,aTL,aTK] at h;simp only[pH,aTW] at hi;rcases hi with rfl|hi
    ·exact h.1
    ·exact PA h.2 hi
theorem aA5 (a:Act) (d:Option Tmp) (v:Value):(a.put d v).tmps.size=a.tmps.size:=by
  cases d<;>simp [Act.put]
theorem aA6 (a:Act) (d:Option Tmp) (v:Value):(a.put d v).defers=a.defers:=by
  cases d<;>simp [Act.put]
theorem uD.step {B:Nat}{g g':Gh}{w w':World}{s:St}{a:Act}{o:Oper}{e:pQ}{v:Value}(h:uD B g w s a) (k:rG g w s.H e g' w' v) (hd:HE s.N o.dst=true) (hi:HF (s.nb+32) e.upd=true):
    uD B g' w' ⟨sU o.dst e.slot s.env,pX e.upd s.H,s.nb+32,s.N,s.np⟩ (a.put o.dst v):=by
  refine⟨ZR h.env k.le k.slot h.size hd,k.heap,(aA5 _ _ _).trans h.size,fun i hn=> ?_,by rw[aA6];exact h.def_.eff h.heap k,aUE h.np (Nat.le_add_right _ _)⟩;have:i∉pH e.upd:=fun hm=>by have:=PA hi hm;simp only at hn;omega
  have hk:=k.gho i this;have hb:=h.nb i (by simp only at hn;omega);exact⟨hk.1.trans hb.1,fun n=>by rw[hk.2];exact hb.2 n⟩
theorem aA7 {T:rZ}{Γ:tX}{ops:List Oper}: ∀(l:List Oper),vG T Γ ops l none=none
  |[]=>rfl
  |_::_=>rfl
theorem ZS {T:rZ}{Γ:tX}{ops:List Oper}{o:Oper}{l:List Oper}{x y:vF}(h:vG T Γ ops (o::l) (some x)=some y):
    ∃ e,CN T Γ ops o x.s=some e∧HE x.s.N o.dst=true∧HF (x.s.nb+32) e.upd=true∧
      vG T Γ ops l (some ⟨⟨sU o.dst e.slot x.s.env,pX e.upd x.s.H,x.s.nb+32,x.s.N,x.s.np⟩,pX x.side (pX (JI x.s.H e.upd e.rds e.upd) e.side),e::x.es⟩)=some y:=by
  simp only[vG] at h;cases he:CN T Γ ops o x.s with
  |none=>rw[he] at h;simp only[YD] at h;rw[aA7] at h;cases h
  | some e=>
    rw[he] at h;simp only[YD] at h;by_cases hc:(HE x.s.N o.dst&&HF (x.s.nb+32) e.upd)=true
    · rw[aTD hc] at h
      simp only[aTL] at hc;exact⟨e,rfl,hc.1,hc.2,h⟩
    ·rw[aTG hc,aA7] at h;cases h
theorem JR {T:rZ}{Γ:tX}{ops:List Oper}: ∀{l:List Oper}{x y:vF},vG T Γ ops l (some x)=some y→(∀p∈x.side,p∈y.side)∧y.s.N=x.s.N∧y.s.np=x.s.np
  | [],x,y,h=>by
    simp only[vG,aTE] at h;subst h;exact⟨fun _ h=>h,rfl,rfl⟩
  | o::l,x,y,h=>by
    obtain⟨e,_,_,_,h4⟩:=ZS h;obtain⟨h5,h6,h7⟩:=JR h4;exact⟨fun p hp=>h5 p (vX.2 (.inl hp)),h6,h7⟩
def ET (ro:Option Nat):Fence:={Fence.wide with round:=ro}
theorem aA8 {ro:Option Nat}{n:Nat}{P:Program}{f:FuncId}{args:Array Value}{w:World}{R:Ending→World→Prop}(h:Calls P f args w R):CallsIn (ET ro) n P f args w R:=callsIn_wide.2 h
section
variable {B:Nat}{P:Program}{T:rZ}{Γ:tX}(hT:wE P T) (hΓ:DJ P Γ) {A:Nat→Nat→Prop}{L:List pC}{g0:Gh}{w0:World}{Q:Exit→Act→World→Prop}
include hT hΓ
theorem aKH {g:Gh}{w:World}{s:St}{a:Act}(h:uD B g w s a) (e:pQ):zM g s.nb e:=fun i _ hb=>h.nb i hb
omit hT hΓ in
theorem aA9 {ops:List Oper}{o:Oper}{s:St}{e:pQ}(h:CN T Γ ops o s=some e): ∀c,o.op≠.defer c:=by
  intro c hc;unfold CN at h;cases hg:o.guard with
  |none=>rw[hg,hc] at h;simp [LI,tJ,LG] at h
  |some jb=>rw[hg,hc] at h;simp only at h;cases hG:FU s.env jb.2 (DB ops jb.1)<;>rw[hG] at h<;>simp [LH,tJ,HD] at h
omit hT hΓ in
theorem aBa {ro:Option Nat}{o:Oper}{a:Act}{w:World}{K:Act→World→Prop}(hd: ∀c,o.op≠.defer c) (h:o.wp P a w K Q):o.wpIn (ET ro) 0 P a w K Q:=by
  refine⟨fun _ _=>trivial,?_⟩;rw[Oper.semAt_eq _ _ _ hd];unfold Oper.wp at h;generalize (execOp a.eval o).run P w=r at h⊢;unfold Oper.upon at h;unfold Oper.uponIn;split at h
  ·exact h
  ·exact h
  ·exact h
  ·exact⟨fun h0=>(by cases h0),aA8 h⟩
  ·exact⟨fun h0=>(by cases h0),fun c cs _=>let ⟨v,w',r,s⟩:=h c cs;⟨v,w',r,stepsIn_wide.2 s⟩⟩
  ·exact h
  ·exact h.elim
theorem aBb {ro:Option Nat}{ops:Array Oper}: ∀{l:List Oper}{x y:vF}{a:Act}{w:World}{g:Gh},vG T Γ ops.toList l (some x)=some y→(∀p∈y.side,p)→uD B g w x.s a→sB A L g0 w0 g w x.s.H→
    (∀g' a' w',uD B g' w' y.s a'→sB A L g0 w0 g' w' y.s.H→Q .normal a' w')→wpListIn (ET ro) 0 P ops Q l a w
  | [],x,y,a,w,g,h,hs,hr,hg,hQ=>by
    simp only[vG,aTE] at h;subst h;exact hQ g a w hr hg
  | o::l,x,y,a,w,g,h,hs,hr,hg,hQ=>by
    obtain⟨e,h1,h2,h3,h4⟩:=ZS h;have hside: ∀p∈e.side,p:=fun p hp=>hs p ((JR h4).1 p (vX.2 (.inr (vX.2 (.inr hp)))));have key:=aA1 hT hΓ (ops:=ops.toList) (o:=o) (a:=a) (K:=wpListIn (ET ro) 0 P ops Q l) (Q:=Q) hr.env hr.heap h1 hside (aKH hT hΓ hr e) (fun g' w' v k=>aBb h4 hs (hr.step k h2 h3) (hg.eff k) hQ);simp only[aVa] at key;unfold wpListIn;split at key
    ·rename_i hw;rw[aTD hw];exact aBa (aA9 h1) key
    ·rename_i hw;rw[aTG hw];exact⟨fun _ _=>trivial,key⟩
theorem aKI {ro:Option Nat}{id:Nat}{ops:Array Oper}{s:St}{y:vF}{a:Act}{w:World}{g:Gh}(h:vG T Γ ops.toList ops.toList (some ⟨s,[],[]⟩)=some y) (hs: ∀p∈y.side,p) (hr:uD B g w s a) (hg:sB A L g0 w0 g w s.H)
    (hQ: ∀g' a' w',uD B g' w' y.s a'→sB A L g0 w0 g' w' y.s.H→Q .normal a' w'):(Code.region id ops false).wpIn (ET ro) 0 P Q a w:=
  wpIn_region_list (aBb hT hΓ h hs hr hg hQ)
end
theorem ZT {ρ ρ':Operand→pD}: ∀{xs:List Operand},(∀x∈xs,ρ' x=ρ x)→uO ρ' xs=uO ρ xs
  |[],_=>rfl
  |x::xs,h=>by simp only[uO,h x (by simp),ZT (fun y hy=>h y (aTS _ hy))]
theorem ZU {ρ ρ':Operand→pD}: ∀{xs:List (Nat×Operand)},(∀x∈xs,ρ' x.2=ρ x.2)→tP ρ' xs=tP ρ xs
  |[],_=>rfl
  |(i,x)::xs,h=>by simp only[tP,h (i,x) (by simp),ZU (fun y hy=>h y (aTS _ hy))]
theorem aBc {T:rZ}{ρ ρ':Operand→pD}: ∀{xs:List Operand}{ts:List TypeId},(∀x∈xs,ρ' x=ρ x)→FS T ρ' xs ts=FS T ρ xs ts
  |[],_,_=>by simp [FS]
  |_::_,[],_=>by simp [FS]
  |x::xs,t::ts,h=>by simp only[FS,h x (by simp),aBc (fun y hy=>h y (aTS _ hy))]
theorem aKJ {T:rZ}{Γ:tX}{ty:TypeId}{ρ ρ':Operand→pD}{base:Nat}{H:List (Nat×pC)}(op:Op) (h: ∀x∈op.operands,ρ' x=ρ x):tJ T Γ ty ρ' base H op=tJ T Γ ty ρ base H op:=by
  cases op
  case slice t x lo hi mx=>
    cases mx with
    |some m=>rfl
    | none=>
      have h1:=h x (by simp [Op.operands])
      have h2:yT ρ' lo=yT ρ lo:=by
        cases lo with
        |none=>rfl
        |some l=>simp only[yT,h l (by simp [Op.operands])]
      have h3:yT ρ' hi=yT ρ hi:=by
        cases hi with
        |none=>rfl
        |some l=>simp only[yT,h l (by simp [Op.operands])]
      simp only[tJ,h1,h2,h3]
  case call c=>
    obtain⟨callee,args,tys⟩:=c
    have ha: ∀x∈args.toList,ρ' x=ρ x:=fun x hx=>h x (by
      have:x∈args:=by simpa using hx
      simp only[Op.operands,Call.operands];split<;>simp [this])
    cases callee with
    |builtin b=>cases b<;>simp only[tJ,JH,ZT ha]
    | value f=>
      have hf:=h f (by simp [Op.operands,Call.operands]);simp only[tJ,JH,hf];cases JG args.toList tys.toList with
      |false=>rfl
      |true=>simp only[Y7,aBc ha]
    |_=>rfl
  case build t ps=>simp only[tJ,ZU (fun x hx=>h x.2 (by simp only[Op.operands,aVA];exact List.mem_map_of_mem hx))]
  case buildSlice t n ps=>simp only[tJ,ZU (fun x hx=>h x.2 (by simp only[Op.operands,aVA];exact List.mem_map_of_mem hx))]
  case makeFunc f first caps=>
    cases f with
    | func f=>
      have hc: ∀x∈caps.toList,ρ' x=ρ x:=fun x hx=>h x (by
        have:x∈caps:=by simpa using hx
        simp [Op.operands,this])
      simp only[tJ,ZT hc]
    |_=>rfl
  all_goals first
    |rfl
    |(simp only[Op.operands,aVA,aTW,aVz,or_false,forall_eq,forall_eq_or_imp] at h;simp only[tJ,h])
    |(simp [Op.operands] at h;simp only[tJ,h])
theorem ZV: ∀{l acc:List qT}{i:Nat},i∈rK (yR l acc)↔i∈rK l∨i∈rK acc
  |[],_,_=>by simp [yR,rK]
  | w::l,acc,i=>by
    simp only[yR,ZV,rK,aTW];constructor
    · rintro(h|h|h)
      ·exact .inl (.inr h)
      ·exact .inl (.inl h)
      ·exact .inr h
    · rintro((h|h) |h)
      ·exact .inr (.inl h)
      ·exact .inl h
      ·exact .inr (.inr h)
section
variable {H H':List (Nat×pC)}
theorem aKK {k:Option Nat}{a b:s8}(h:yS H k (some a)=some b):(∀i,i∈rK a.ws→i∈rK b.ws)∧((∀i,i∈rK b.ws→pG H' i=pG H i)→yS H' k (some a)=some b):=by
  cases k with
  | none=>
    have h:none=some b:=h;cases h
  | some k=>
    simp only[yS] at h⊢
    have:(∃e c m,pG H k=some (.grow e c m)):=by
      cases hg:pG H k with
      |none=>rw[hg] at h;cases h
      | some bl=>cases bl with
        |grow e c m=>exact⟨_,_,_,rfl⟩
        |_=>rw[hg] at h;cases h
    obtain⟨e,c,m,hg⟩:=this;rw[hg] at h;simp only[BS] at h;split at h
    ·cases h
    · rename_i hm
      simp only[aTE] at h;subst h;refine⟨fun i hi=>by simp only[rK,aTW];exact .inr hi,fun hl=> ?_⟩;rw[hl k (by simp [rK,qT.id]),hg];simp only[BS];rw[aTG hm]
theorem aKL (H:List (Nat×pC)) (k:Option Nat):yS H k none=none:=by
  cases k with
  |none=>rfl
  | some k=>
    simp only[yS];cases pG H k with
    |none=>rfl
    |some bl=>cases bl<;>rfl
theorem aBd (H:List (Nat×pC)) (toks:List (Nat×Nat)) (o:Nat): ∀(qs:List Nat),xQ H toks o qs none=none
  |[]=>rfl
  |q::qs=>by simp only[xQ,aKL,aBd H toks o qs]
theorem aBe {H H':List (Nat×pC)}{toks:List (Nat×Nat)}{o:Nat}: ∀{qs:List Nat}{a b:s8},xQ H toks o qs (some a)=some b→(∀i,i∈rK a.ws→i∈rK b.ws)∧((∀i,i∈rK b.ws→pG H' i=pG H i)→xQ H' toks o qs (some a)=some b)
  |[],a,b,h=>by simp only[xQ,aTE] at h;subst h;exact⟨fun _ h=>h,fun _=>rfl⟩
  | q::qs,a,b,h=>by
    simp only[xQ] at h⊢;cases hm:yS H (wC toks (o+q)) (some a) with
    |none=>rw[hm,aBd] at h;cases h
    | some m=>
      rw[hm] at h;obtain⟨h1,h2⟩:=aKK (H':=H') hm;obtain⟨h3,h4⟩:=aBe (H':=H') h;exact⟨fun i hi=>h3 i (h1 i hi),fun hl=>by rw[h2 (fun i hi=>hl i (h3 i hi))];exact h4 hl⟩
theorem aKM (H H':List (Nat×pC)) (a:s8) (s:pD):x9 H' a .v s=x9 H a .v s:=by
  obtain⟨d,k⟩:=s;cases d with
  | val t x=>
    cases t with
    | clo=>
      cases x with
      |none=>rfl
      |some q=>obtain⟨f,l⟩:=q;cases l<;>rfl
    |_=>rfl
  |_=>rfl
theorem aBf {H H':List (Nat×pC)}{t:Ty}{os:List Nat}{i o:Nat}{a b:s8}(h:uU H t os i o a (pG H i)=some b):(∀i,i∈rK a.ws→i∈rK b.ws)∧((∀i,i∈rK b.ws→pG H' i=pG H i)→uU H' t os i o a (pG H' i)=some b):=by
  cases hg:pG H i with
  |none=>rw[hg] at h;simp [uU] at h
  | some bl=>
    rw[hg] at h;cases bl with
    | cells u x toks=>
      simp only[uU] at h;cases hy:qK t u x o with
      |none=>rw[hy] at h;simp [EK] at h
      | some y=>
        rw[hy] at h;simp only[EK] at h;split at h
        · rename_i hc
          obtain⟨h3,h4⟩:=aBe (H':=H') h;refine⟨fun j hj=>h3 j (by simp only[rK,aTW];exact .inr hj),fun hl=> ?_⟩;rw[hl i (h3 i (by simp [rK,qT.id])),hg];simp only[uU,hy,EK];rw[aTD hc];exact h4 hl
        ·cases h
    |_=>simp [uU] at h
theorem aKN (H:List (Nat×pC)) (f:FuncId) (args:List pD) (ks:List (Ty×List Nat)) (cs ids:List (Nat×Nat)):wM H f args ks cs ids none=none:=by cases ks<;>cases cs<;>rfl
theorem aBg {H H':List (Nat×pC)}{f:FuncId}{args:List pD}: ∀{ks:List (Ty×List Nat)}{cs ids:List (Nat×Nat)}{a b:s8},wM H f args ks cs ids (some a)=some b→(∀i,i∈rK a.ws→i∈rK b.ws)∧((∀i,i∈rK b.ws→pG H' i=pG H i)→wM H' f args ks cs ids (some a)=some b)
  | [],[],ids,a,b,h=>by
    simp only[wM,aTE] at h⊢;subst h;exact⟨fun _ h=>h,fun _=>rfl⟩
  |[],_::_,_,_,_,h=>by simp [wM] at h
  |_::_,[],_,_,_,h=>by simp [wM] at h
  | (t,os)::ks,(i,o)::cs,ids,a,b,h=>by
    simp only[wM] at h⊢;cases hb:uU H t os i o a (pG H i) with
    |none=>rw[hb,aKN] at h;cases h
    | some m=>
      rw[hb] at h;obtain⟨h1,h2⟩:=aBf (H':=H') hb;obtain⟨h3,h4⟩:=aBg (H':=H') h;exact⟨fun i hi=>h3 i (h1 i hi),fun hl=>by rw[h2 (fun i hi=>hl i (h3 i hi))];exact h4 hl⟩
theorem aBh {p:PK}{s:pD}{a b:s8}(h:x9 H a p s=some b):(∀i,i∈rK a.ws→i∈rK b.ws)∧((∀i,i∈rK b.ws→pG H' i=pG H i)→x9 H' a p s=some b):=by
  by_cases hpv:p= .v
  · subst hpv
    refine⟨?_,fun _=>by rw[aKM H H'];exact h⟩;unfold x9 at h;split at h
    ·simp only[S3,aTE] at h;subst h;exact fun _ h=>h
    · simp only[S2] at h
      split at h
      ·simp only[aTE] at h;subst h;exact fun _ h=>h
      ·cases h
    ·rename_i h1;cases h1
    ·rename_i h1;cases h1
    ·rename_i h1;cases h1
    ·rename_i h1;cases h1
    ·rename_i h1;cases h1
    ·cases h
  unfold x9 at h;split at h
  ·exact absurd rfl hpv
  ·exact absurd rfl hpv
  · rename_i t x k
    simp only[x9];cases hg:pG H k with
    |none=>rw[hg] at h;simp [BT] at h
    | some bl=>
      rw[hg] at h;cases bl with
      | grow e c m=>
        simp only[BT] at h;split at h
        · rename_i hc
          simp only[aTE] at h;subst h;refine⟨fun i hi=>by simp only[rK,aTW];exact .inr hi,fun hl=> ?_⟩;rw[hl k (by simp [rK,qT.id]),hg];simp only[BT];rw[aTD hc]
        ·cases h
      |_=>simp [BT] at h
  · rename_i t os i o k
    simp only[x9];exact aBf h
  · rename_i i k
    simp only[x9];cases hg:pG H i with
    |none=>rw[hg] at h;simp [BU] at h
    | some bl=>
      rw[hg] at h;cases bl with
      | map s t l=>
        simp only[BU] at h;split at h
        · rename_i hc
          simp only[aTE] at h;subst h;refine⟨fun j hj=>by simp only[rK,aTW];exact .inr hj,fun hl=> ?_⟩;rw[hl i (by simp [rK,qT.id]),hg];simp only[BU];rw[aTD hc]
        ·cases h
      |_=>simp [BU] at h
  · rename_i k n k'
    simp only[x9];cases hg:pG H k with
    |none=>rw[hg] at h;simp [BV] at h
    | some bl=>
      rw[hg] at h;cases bl with
      | row e t l m=>
        simp only[BV] at h;split at h
        · rename_i hc
          simp only[aTE] at h;subst h;refine⟨fun j hj=>by simp only[rK,aTW];exact .inr hj,fun hl=> ?_⟩;rw[hl k (by simp [rK,qT.id]),hg];simp only[BV];rw[aTD hc]
        ·cases h
      |_=>simp [BV] at h
  · simp only[x9]
    exact aBg h
  ·cases h
theorem aBi (H:List (Nat×pC)) (gs:List (Nat×Nat×PK)):B1 H gs none=none:=by cases gs<;>rfl
theorem aBj {H H':List (Nat×pC)}: ∀{gs:List (Nat×Nat×PK)}{a b:s8},B1 H gs (some a)=some b→(∀i,i∈rK a.ws→i∈rK b.ws)∧((∀i,i∈rK b.ws→pG H' i=pG H i)→B1 H' gs (some a)=some b)
  |[],a,b,h=>by simp only[B1,aTE] at h;subst h;exact⟨fun _ h=>h,fun _=>rfl⟩
  | (c,q,pk)::gs,a,b,h=>by
    simp only[B1] at h⊢;cases hm:x9 H a pk (J7 q pk (H9 a.H (a.n-1-c))) with
    |none=>rw[hm] at h;simp only[L6,aBi] at h;cases h
    | some m=>
      rw[hm] at h;simp only[L6] at h;obtain⟨h1,h2⟩:=aBh (H':=H') hm;obtain⟨h3,h4⟩:=aBj (H':=H') h;exact⟨fun i hi=>h3 i (h1 i hi),fun hl=>by rw[h2 (fun i hi=>hl i (h3 i hi))];simp only[L6];exact h4 hl⟩
theorem aKO (H:List (Nat×pC)): ∀(ps:List PK) (ss:List pD),wN H ps ss none=none
  |[],[]=>rfl
  |[],_::_=>rfl
  |_::_,[]=>rfl
  |_::_,_::_=>rfl
theorem aBk {H H':List (Nat×pC)}: ∀{ps:List PK}{ss:List pD}{a b:s8},wN H ps ss (some a)=some b→(∀i,i∈rK a.ws→i∈rK b.ws)∧((∀i,i∈rK b.ws→pG H' i=pG H i)→wN H' ps ss (some a)=some b)
  |[],[],a,b,h=>by simp only[wN,aTE] at h;subst h;exact⟨fun _ h=>h,fun _=>rfl⟩
  |[],_::_,a,b,h=>by simp [wN] at h
  |_::_,[],a,b,h=>by simp [wN] at h
  | p::ps,s::ss,a,b,h=>by
    simp only[wN] at h⊢;cases hm:x9 H a p s with
    |none=>rw[hm,aKO] at h;cases h
    | some m=>
      rw[hm] at h;obtain⟨h1,h2⟩:=aBh (H':=H') hm;obtain⟨h3,h4⟩:=aBk (H':=H') h;exact⟨fun i hi=>h3 i (h1 i hi),fun hl=>by rw[h2 (fun i hi=>hl i (h3 i hi))];exact h4 hl⟩
theorem aBl {H H':List (Nat×pC)}{base:Nat}{args:List pD}{s:qC}{e:pQ}(h:FQ H base args (some s)=some e) (hl: ∀i∈e.rds,pG H' i=pG H i):FQ H' base args (some s)=some e:=by
  simp only[FQ] at h⊢;cases hp0:wN H s.ps args (some ⟨[],[],[],0⟩) with
  |none=>rw[hp0,aBi] at h;cases h
  |some a0=>
   rw[hp0] at h;cases hp:B1 H s.gs (some a0) with
   |none=>rw[hp] at h;cases h
   |some a=>
    rw[hp] at h
    have hrd: ∀i,i∈rK (yR a.ws [])→i∈e.rds:=by
      simp only[O3] at h;cases hcl:HA (yR a.ws []) (yR a.H []) with
      |none=>rw[hcl] at h;cases h
      |some L=>
      rw[hcl] at h;simp only[SA] at h;cases hc:s.C (yR a.args []) L with
      |none=>rw[hc] at h;cases h
      | some r=>
        rw[hc] at h;simp only[S8] at h;unfold O1 at h;split at h
        · simp only[aTE] at h
          rw[←h];exact fun i hi=>vX.2 (.inl hi)
        ·cases h
    obtain⟨g1,g2⟩:=aBj (H':=H') hp;rw[(aBk (H':=H') hp0).2 (fun i hi=>hl i (hrd i (ZV.2 (.inl (g1 i hi))))),g2 (fun i hi=>hl i (hrd i (ZV.2 (.inl hi))))];exact h
theorem aBm {H H':List (Nat×pC)}{base:Nat}{args:List pD}{s:Option qC}{e:pQ}(h:JF H base args s=some e) (hl: ∀i∈e.rds,pG H' i=pG H i):JF H' base args s=some e:=by
  cases s with
  |none=>cases h
  | some s=>
    simp only[JF] at h⊢;cases hr:s.row with
    | some F=>
      rw[hr] at h;simp only[SV] at h⊢;unfold SB at h⊢;split at h
      · rename_i k n x
        cases hg:pG H k with
        |none=>rw[hg] at h;cases h
        | some b=>
          have hk:k∈e.rds:=by
            rw[hg] at h;cases b with
            | row e0 t l m=>
              simp only[XM] at h;unfold a9n at h;split at h
              ·simp only[aTE] at h;rw[←h];simp
              ·cases h
            |_=>cases h
          rw[hl k hk];exact h
      ·cases h
    | none=>
      rw[hr] at h;simp only[SV] at h⊢;cases hn:O4 s.ps args with
      |none=>rw[hn] at h;exact aBl h hl
      | some k=>
        rw[hn] at h;simp only[a9m] at h⊢;cases hg:pG H k with
        |none=>rw[hg] at h;cases h
        | some b=>
          rw[hg] at h;cases b with
          | row e0 t l m=>
            simp only[O6] at h;cases hi:FQ ((k,.dead)::H) base (O5 k t l args) (some s) with
            |none=>rw[hi] at h;cases h
            | some e1=>
              rw[hi] at h
              have hk:k∈e.rds∧∀i∈e1.rds,i∈e.rds:=by
                unfold XL at h;split at h
                · rename_i heq
                  simp only[aTE] at heq;subst heq;split at h
                  · simp only[aTE] at h
                    rw[←h];exact⟨by simp,fun i hi=>aTS _ hi⟩
                  ·cases h
                ·cases h
              rw[hl k hk.1,hg];simp only[O6]
              rw[aBl hi (fun i hi'=>by
                simp only[pG];split
                ·rfl
                ·exact hl i (hk.2 i hi'))]
              exact h
          |_=>cases h
theorem aKP {Γ:tX}{base:Nat}{args:List pD}{f:pD}{e:pQ}(h:LD Γ H base args f=some e) (hl: ∀i∈e.rds,pG H' i=pG H i):LD Γ H' base args f=some e:=by
  unfold LD at h⊢;split at h
  ·exact aBm h hl
  ·exact aBm h hl
  ·cases h
theorem aKQ {T:rZ}{Γ:tX}{ty:TypeId}{ρ:Operand→pD}{base:Nat}{op:Op}{e:pQ}(h:tJ T Γ ty ρ base H op=some e) (hl: ∀i∈e.rds,pG H' i=pG H i):tJ T Γ ty ρ base H' op=some e:=by
  cases op
  case load t x=>
    simp only[tJ] at h⊢;unfold SG at h⊢;split at h
    · rename_i ti k n c i o' _ e1 e2
      unfold O9 at h;split at h
      · rename_i e' t' l m hg
        split at h
        · rename_i hc
          have:e.rds=[k]:=by
            unfold a9t at h;split at h
            ·simp only[aTE] at h;rw[←h]
            ·cases h
          rw[hl k (by rw[this];simp),hg];simp only[O9];rw[aTD hc];exact h
        ·cases h
      ·cases h
    ·exact h
    · rename_i ti i off k e1 e2
      have hi:i∈e.rds:=by
        rcases a94 h with h|h
        · unfold O8 at h
          split at h
          · unfold a9s at h;split at h
            ·simp only[aTE] at h;rw[←h];simp
            ·cases h
          ·cases h
        · unfold SF at h
          split at h
          · unfold XW at h;split at h
            ·simp only[aTE] at h;rw[←h];simp
            ·cases h
          ·cases h
      rw[hl i hi];exact h
    ·cases h
  case store t x y=>
    simp only[tJ] at h⊢;unfold SM at h⊢;split at h
    · rename_i ti i off k kk n k' e1 e2 e3
      have hi:i∈e.rds:=by
        unfold XX at h;split at h
        · unfold SH at h;split at h
          ·simp only[aTE] at h;rw[←h];simp
          ·cases h
        ·cases h
      rw[hl i hi];exact h
    · rename_i ti k n c i o' _ t y k' e1 e2 e3
      split at h
      · rename_i ht
        rw[aTD ht];unfold SL at h;split at h
        · rename_i e' t' l m hg
          split at h
          · rename_i hc
            have:e.rds=[k]:=by
              unfold a9v at h;split at h
              ·simp only[aTE] at h;rw[←h]
              ·cases h
            rw[hl k (by rw[this];simp),hg];simp only[SL];rw[aTD hc];exact h
          ·cases h
        ·cases h
      ·cases h
    · rename_i ti i off k t y k' e1 e2 e3
      split at h
      · rename_i ht
        have hi:e.rds=[i]:=by
          unfold SK at h;split at h
          · unfold SJ at h
            split at h
            · unfold a9u at h;split at h
              ·simp only[aTE] at h;rw[←h]
              ·cases h
            ·cases h
          · unfold SI at h
            split at h
            · unfold SH at h;split at h
              ·simp only[aTE] at h;rw[←h]
              ·cases h
            ·cases h
        rw[hl i (by rw[hi];simp)];simp only[aTD ht];exact h
      ·cases h
    ·cases h
  case call c=>
    obtain⟨callee,args,tys⟩:=c;cases callee with
    | builtin b=>
      cases b
      case append=>
        simp only[tJ,JH] at h⊢;unfold SY at h⊢;split at h
        · split at h
          · rename_i hu
            rw[aTD hu];unfold ST at h⊢;split at h
            · split at h
              · rename_i hbu
                rw[aTD hbu];unfold SS at h;split at h
                · rename_i hg
                  split at h
                  · rename_i hbt
                    split at h
                    · rename_i hc
                      simp only[aTE] at h;subst h;rw[hl _ (aT1),hg];simp only[SS];rw[aVS hbt,aTD hc]
                    ·cases h
                  ·cases h
                ·cases h
              ·cases h
            · split at h
              · rename_i hba
                rw[aVS hba];unfold SR at h;split at h
                · rename_i hg
                  split at h
                  · rename_i hc
                    simp only[aTE] at h;subst h;rw[hl _ (aT1),hg];simp only[SR];rw[aTD hc]
                  ·cases h
                ·cases h
              ·cases h
            ·cases h
          · rename_i hu
            rw[aTG hu];unfold Y6 at h⊢;split at h
            · unfold SX at h
              split at h
              · rename_i hg
                split at h
                · rename_i hc
                  simp only[aTE] at h;subst h;rw[hl _ (aT1),hg];simp only[SX];rw[aTD hc]
                ·cases h
              ·cases h
            ·cases h
        ·cases h
      case len=>
        simp only[tJ,JH] at h⊢;unfold SW at h⊢;split at h
        · unfold Y4 at h⊢
          split at h
          · unfold SQ at h
            split at h
            · rename_i hg
              simp only[aTE] at h;subst h;rw[hl _ (aT1),hg];simp only[SQ]
            ·cases h
          all_goals exact h
        ·cases h
      all_goals exact h
    | value f=>
      simp only[tJ,JH] at h⊢;cases hsl:JG args.toList tys.toList with
      |false=>rw[hsl] at h;cases h
      |true=>rw[hsl] at h;exact aKP h hl
    |_=>exact h
  case makeFunc f first caps=>
    cases f with
    |func f=>exact h
    |_=>exact h
  case slice t x lo hi mx=>
    cases mx with
    |none=>exact h
    |some m=>exact h
  case next x b=>
    simp only[tJ] at h⊢;unfold T3 at h⊢;split at h
    · rename_i i k e1
      unfold YC at h;split at h
      · rename_i hg
        have:e.rds=[i]:=by
          simp only[aTE] at h;rw[←h]
        rw[hl i (by rw[this];simp),hg];exact h
      ·cases h
    ·cases h
  case lookup xt x ix ok=>
    simp only[tJ] at h⊢;unfold T0 at h⊢;split at h
    · rename_i el fl ar ls_ i kk e1 e2
      unfold Y9 at h⊢;split at h
      · rename_i kt vt k a _
        split at h
        · rename_i hk
          rw[aTD hk];unfold SZ at h;split at h
          · rename_i hg
            split at h
            · rename_i hkv
              split at h
              · rename_i hkey
                have:e.rds=[i]:=by
                  cases ok<;>(simp only[aTE] at h;rw[←h])
                rw[hl i (by rw[this];simp),hg];simp only[SZ];rw[aVS hkv,aTD hkey];exact h
              ·cases h
            ·cases h
          ·cases h
        ·cases h
      ·cases h
    ·cases h
  case mapUpdate mt m x y=>
    simp only[tJ] at h⊢;unfold LF at h⊢;split at h
    · rename_i el fl ar ls_ i kk e1 e2
      unfold T1 at h⊢;split at h
      · rename_i kt k a _ u b _
        split at h
        · rename_i hk
          rw[aTD hk];unfold LE at h;split at h
          · rename_i hg
            split at h
            · rename_i hkv
              split at h
              · rename_i hkey
                have:e.rds=[i]:=by
                  simp only[aTE] at h;rw[←h]
                rw[hl i (by rw[this];simp),hg];simp only[LE];rw[aVS hkv,aTD hkey];exact h
              ·cases h
            ·cases h
          ·cases h
        ·cases h
      ·cases h
    ·cases h
  case insert mt m x y=>
    simp only[tJ] at h⊢;unfold LF at h⊢;split at h
    · rename_i el fl ar ls_ i kk e1 e2
      unfold T1 at h⊢;split at h
      · rename_i kt k a _ u b _
        split at h
        · rename_i hk
          rw[aTD hk];unfold LE at h;split at h
          · rename_i hg
            split at h
            · rename_i hkv
              split at h
              · rename_i hkey
                have:e.rds=[i]:=by
                  simp only[aTE] at h;rw[←h]
                rw[hl i (by rw[this];simp),hg];simp only[LE];rw[aVS hkv,aTD hkey];exact h
              ·cases h
            ·cases h
          ·cases h
        ·cases h
      ·cases h
    ·cases h
  all_goals exact h
end
theorem aKR {T:rZ}{Γ:tX}{ops:Array Oper}{o:Oper}{s s':St}{e:pQ}(h:CN T Γ ops.toList o s=some e) (ht: ∀t∈o.looksAt ops,lk s'.env t=lk s.env t) (hH: ∀i∈e.rds,pG s'.H i=pG s.H i) (hn:s'.nb=s.nb):CN T Γ ops.toList o s'=some e:=by
 have hop: ∀x∈o.op.operands,sY s'.env x=sY s.env x:=fun x hx=>by
  cases x with
  |tmp t=>exact ht t (by simp only[Oper.looksAt,aUz,List.mem_filterMap];exact .inl ⟨.tmp t,by simpa using hx,rfl⟩)
  |_=>rfl
 have hops:BY s'.env (rU o.op)=BY s.env (rU o.op):=by
  have hsub: ∀x∈rU o.op,x∈o.op.operands:=by
   have hp: ∀(l:List (Nat×Operand)) x,x∈rU.parts l->x∈l.map (·.2):=by
    intro l
    induction l with
    |nil=>intro x h;exact h
    |cons q l ih=>
     intro x h;obtain⟨i,y⟩:=q;simp only[rU.parts,aTW] at h;rcases h with rfl|h
     ·simp
     ·simp only[aUS,aTW];exact .inr (ih x h)
   have ho: ∀(y:Option Operand) x,x∈rU.opt y->y=some x:=by
    intro y x h;cases y with
    |none=>cases h
    |some y=>simp only[rU.opt,aTQ] at h;rw[h]
   intro x hx;cases hop:o.op
   case call c=>
    rw[hop] at hx;obtain⟨callee,args,tys⟩:=c;cases callee<;>simp_all [rU,Op.operands,Call.operands]
   case slice t y lo hi mx=>
    rw[hop] at hx;simp only[rU,aTW,vX] at hx;simp only[Op.operands,Array.mem_append];rcases hx with rfl|hx|hx
    ·simp
    ·have:=ho _ _ hx;subst this;simp
    ·have:=ho _ _ hx;subst this;simp
   case build t ps=>rw[hop] at hx;simp only[Op.operands,aVA];exact hp _ _ hx
   case buildSlice t n ps=>rw[hop] at hx;simp only[Op.operands,aVA];exact hp _ _ hx
   all_goals (rw[hop] at hx;simp_all [rU,Op.operands])
  have: ∀(l:List Operand),(∀x∈l,x∈o.op.operands)->BY s'.env l=BY s.env l:=by
   intro l
   induction l with
   |nil=>intro _;rfl
   |cons x l ih=>intro h;simp only[BY,hop x (h x (by simp)),ih (fun y hy=>h y (aTS _ hy))]
  exact this _ hsub
 have hpl: ∀{e0:pQ},tJ T Γ o.type (fun x=>wP (sY s.env x)) s.nb s.H o.op=some e0->e0.rds=e.rds->tJ T Γ o.type (fun x=>wP (sY s'.env x)) s'.nb s'.H o.op=some e0:=by
  intro e0 h1 h2;rw[aKJ (ρ:=fun x=>wP (sY s.env x)) (ρ':=fun x=>wP (sY s'.env x)) o.op (fun x hx=>by simp only[hop x hx]),hn];exact aKQ h1 (by rw[h2];exact hH)
 unfold CN at h⊢;cases hg:o.guard with
 |none=>
  rw[hg] at h;simp only at h⊢;by_cases hpk: ∃c x y,o.op= .pick c x y
  ·obtain⟨c,x,y,hp⟩:=hpk;rw[hp] at h⊢;simp only[LI] at h⊢;rw[hop c (by rw[hp];simp [Op.operands]),hop x (by rw[hp];simp [Op.operands]),hop y (by rw[hp];simp [Op.operands])];exact h
  ·have e1: ∀s,LI T Γ o s o.op=LG (yA true (BY s.env (rU o.op))) (tJ T Γ o.type (fun x=>wP (sY s.env x)) s.nb s.H o.op):=by
    intro s;cases ho:o.op<;>first|rfl|(exact absurd ⟨_,_,_,ho⟩ hpk)
   rw[e1] at h⊢;rw[hops];cases hp0:tJ T Γ o.type (fun x=>wP (sY s.env x)) s.nb s.H o.op with
   |none=>rw[hp0] at h;cases h
   |some e0=>
    rw[hp0] at h;simp only[LG,aTE] at h;rw[hpl hp0 (by rw[<-h])];simp only[LG,h]
 |some jb=>
  obtain⟨j,b⟩:=jb;rw[hg] at h;simp only at h⊢;have hgu:FU s'.env b (DB ops.toList j)=FU s.env b (DB ops.toList j):=by
   rw[ZL];cases hd:(ops.toList[j]?).bind (·.dst) with
   |none=>rfl
   |some t=>
    simp only[FU];rw[ht t (by
     simp only[Oper.looksAt,hg,aUz];right;have:(ops[j]?).bind (·.dst)=some t:=by simpa using hd
     rw[this];simp)]
  rw[hgu];cases hG:FU s.env b (DB ops.toList j) with
  |none=>rw[hG] at h;cases h
  |some G=>
   rw[hG] at h;by_cases hpk: ∃c x y,o.op= .pick c x y
   ·obtain⟨c,x,y,hp⟩:=hpk;rw[hp] at h⊢;simp only[LH] at h⊢;rw[hop c (by rw[hp];simp [Op.operands]),hop x (by rw[hp];simp [Op.operands]),hop y (by rw[hp];simp [Op.operands])];exact h
   have e1: ∀s,LH T Γ o s (some G) o.op=HD G (yA G (BY s.env (rU o.op))) (tJ T Γ o.type (fun x=>wP (sY s.env x)) s.nb s.H o.op):=by
    intro s;cases ho:o.op<;>first|rfl|(exact absurd ⟨_,_,_,ho⟩ hpk)
   rw[e1] at h⊢;rw[hops];cases hp0:tJ T Γ o.type (fun x=>wP (sY s.env x)) s.nb s.H o.op with
   |none=>rw[hp0] at h;cases h
   |some e0=>
    rw[hp0] at h;have hrd:e0.rds=e.rds:=by
     unfold HD at h;split at h
     ·rename_i heq;simp only[aTE] at h heq;subst heq;rw[<-h]
     ·rename_i heq;simp only[aTE] at h heq;subst heq;rw[<-h]
     ·cases h
    rw[hpl hp0 hrd];exact h
def uQ {α:Type}(p:Nat->Bool) (wr:Nat->Option α) (b:α):Nat->α
 |0=>b
 |k+1=>if p k=true then(wr k).getD (uQ p wr b k) else uQ p wr b k
theorem LY {α:Type}{p q:Nat->Bool}{wr:Nat->Option α}{b:α}: ∀{n:Nat},(∀j,j<n->wr j≠none->p j=q j)->uQ p wr b n=uQ q wr b n
 |0,_=>rfl
 |n+1,h=>by
  simp only[uQ];have ih:=LY (p:=p) (q:=q) (wr:=wr) (b:=b) (n:=n) (fun j hj=>h j (by omega));cases hw:wr n with
  |none=>simp [ih]
  |some v=>rw[h n (by omega) (by rw[hw];simp),ih]
theorem aBn {α:Type}{wr:Nat->Option α}{b:α}{i:Nat}: ∀{n:Nat},i<=n->uQ (fun j=>decide (j<i)) wr b n=uQ (fun _=>true) wr b i
 |0,h=>by
  have:i=0:=by omega
  subst this;rfl
 |n+1,h=>by
  by_cases hi:i=n+1
  ·subst hi;exact LY (fun j hj _=>by simp [hj])
  ·have: ¬n<i:=by omega
   simp only[uQ];rw[aTG (by simp [this])];exact aBn (by omega)
theorem ZW {α:Type}{p q:Nat->Bool}{wr:Nat->Option α}{b:α}{i:Nat}(hi:p i=false) (hq: ∀j,q j=if j=i then true else p j): ∀{n:Nat},i<n->(∀j,i<j->j<n->p j=true->wr j=none\/wr i=none)->uQ q wr b n=(wr i).getD (uQ p wr b n)
 |0,h,_=>by omega
 |n+1,h,hd=>by
  simp only[uQ];by_cases hn:n=i
  ·subst hn;rw[aTD (by rw[hq];simp),aTG (by simp [hi])];rw[LY (p:=q) (q:=p) (fun j hj _=>by rw[hq,aTG (by omega)])]
  ·have ih:=ZW (b:=b) hi hq (n:=n) (by omega) (fun j h1 h2=>hd j h1 (by omega));rw[hq,aTG hn,ih];by_cases hp:p n=true
   ·rw[aTD hp,aTD hp];rcases hd n (by omega) (by omega) hp with h1|h1
    ·rw[h1];rfl
    ·rw[h1];rfl
   ·rw[aTG hp,aTG hp]
theorem ZX {α:Type}{p:Nat->Bool}{wr:Nat->Option α}{b:α}: ∀(k:Nat),uQ p wr b (k+1)=uQ (fun j=>p (j+1)) (fun j=>wr (j+1)) (if p 0=true then(wr 0).getD b else b) k
 |0=>rfl
 |k+1=>by
  rw[uQ,ZX k];rfl
theorem ZY {rds:List Nat}{i:Nat}: ∀{u:List (Nat×pC)},i∈pH (LJ rds u)↔i∈pH u/\DC i rds=false
 |[]=>by simp [LJ,pH]
 |(j,b)::u=>by
  simp only[LJ];cases h:DC j rds with
  |true=>
   rw[aTD rfl,ZY (u:=u)];simp only[pH,aTW];constructor
   ·rintro⟨h1,h2⟩;exact⟨.inr h1,h2⟩
   ·rintro⟨rfl|h1,h2⟩
    ·rw[h] at h2;cases h2
    ·exact⟨h1,h2⟩
  |false=>
   rw[aTG (by simp)];simp only[pH,aTW,ZY (u:=u)];constructor
   ·rintro(rfl|⟨h1,h2⟩)
    ·exact⟨.inl rfl,h⟩
    ·exact⟨.inr h1,h2⟩
   ·rintro⟨rfl|h1,h2⟩
    ·exact .inl rfl
    ·exact .inr ⟨h1,h2⟩
theorem U8 {e:pQ}{i:Nat}:i∈pH (CO e)↔i∈pH e.upd/\DC i e.rds=false:=ZY
theorem aBo {i:Nat}: ∀{l:List Nat},DC i l=true->i∈l
 |[],h=>by cases h
 |j::l,h=>by
  simp only[DC] at h;split at h
  ·rename_i e;subst e;exact aT1
  ·exact aTS _ (aBo h)
theorem aBp {H U:List (Nat×pC)}{rds:List Nat}{i:Nat}(h:DC i rds=true): ∀{u:List (Nat×pC)},i∈pH u->(pG U i=pG H i)∈JI H U rds u
 |[],hi=>by cases hi
 |(j,b)::u,hi=>by
  simp only[JI];simp only[pH,aTW] at hi;rcases hi with rfl|hi
  ·rw[aTD h];exact aT1
  ·have:=aBp (H:=H) (U:=U) h hi;split
   ·exact aTS _ this
   ·exact this
theorem aKS {H:List (Nat×pC)}{e:pQ}(hs: ∀p∈JI H e.upd e.rds e.upd,p) {i:Nat}(h1:i∈pH e.upd) (h2:i∉pH (CO e)):pG e.upd i=pG H i/\i∈e.rds:=by
 have h:DC i e.rds=true:=by
  cases h3:DC i e.rds with
  |true=>rfl
  |false=>exact absurd (U8.2 ⟨h1,h3⟩) h2
 exact⟨hs _ (aBp h h1),aBo h⟩
def B9 (os:List Oper) (es:List pQ) (t j:Nat):Option pD:=
 match os[j]?,es[j]? with
 |some o,some e=>if o.dst=some t then some e.slot else none
 |_,_=>none
def BA (es:List pQ) (id j:Nat):Option (Option pC):=
 match es[j]? with
 |some e=>if id∈pH (CO e) then some (pG e.upd id) else none
 |none=>none
theorem ZZ {id:Nat}{H:rI}: ∀{u:List (Nat×pC)},pG (pX u H) id=if id∈pH u then pG u id else pG H id
 |[]=>by simp [pX,pH]
 |(k,b)::u=>by
  simp only[pX,pG,pH,aTW];by_cases h:k=id
  ·subst h;simp
  ·rw[aTG h,aTG h,ZZ (u:=u)];have:(id=k\/id∈pH u)↔id∈pH u:=⟨fun h'=>h'.resolve_left (Ne.symm h),.inr⟩;simp only[this]
theorem aBq {d:Option Tmp}{s:pD}{env:List (Nat×pD)}{t:Nat}:lk (sU d s env) t=if d=some t then s else lk env t:=by
 cases d with
 |none=>simp [sU]
 |some d=>simp only[sU,lk,aTE]
structure aKT (T:rZ) (Γ:tX) (ops:List Oper) (os:List Oper) (es:List pQ) (s:St) (y:vF) (k:Nat) (o:Oper) (e:pQ) (sk:St):Prop where
 ev:CN T Γ ops o sk=some e
 nb:sk.nb=s.nb+32*k
 dst:HE s.N o.dst=true
 ids:HF (s.nb+32*k+32) e.upd=true
 side: ∀p∈e.side,p∈y.side
 env: ∀t,lk sk.env t=uQ (fun _=>true) (B9 os es t) (lk s.env t) k
 heap: ∀id,pG sk.H id=uQ (fun _=>true) (BA es id) (pG s.H id) k
 same: ∀id,id∈pH e.upd->id∉pH (CO e)->pG e.upd id=pG sk.H id/\id∈e.rds
structure aBr (T:rZ) (Γ:tX) (ops:List Oper) (os:List Oper) (es:List pQ) (s:St) (y:vF):Prop where
 len:es.length=os.length
 nb:y.s.nb=s.nb+32*os.length
 step: ∀k o e,os[k]? =some o->es[k]? =some e->∃sk,aKT T Γ ops os es s y k o e sk
 env: ∀t,lk y.s.env t=uQ (fun _=>true) (B9 os es t) (lk s.env t) os.length
 heap: ∀id,pG y.s.H id=uQ (fun _=>true) (BA es id) (pG s.H id) os.length
theorem aBs {T:rZ}{Γ:tX}{ops:List Oper}: ∀{l:List Oper}{x y:vF},vG T Γ ops l (some x)=some y->(∀p∈y.side,p)->∃es:List pQ,y.es=es.reverse++x.es/\aBr T Γ ops l es x.s y
 |[],x,y,h,_=>by
  simp only[vG,aTE] at h;subst h;exact⟨[],rfl,rfl,rfl,fun k o e h=>by simp at h,fun _=>rfl,fun _=>rfl⟩
 |o::l,x,y,h,hsy=>by
  obtain⟨e,h1,h2,h3,h4⟩:=ZS h;obtain⟨es,h5,h6⟩:=aBs h4 hsy;have hsame: ∀{i:Nat},i∈pH e.upd->i∉pH (CO e)->pG e.upd i=pG x.s.H i/\i∈e.rds:=fun h1 h2=>aKS (fun p hp=>hsy p ((JR h4).1 p (vX.2 (.inr (vX.2 (.inl hp)))))) h1 h2;have envs: ∀t k,uQ (fun _=>true) (B9 (o::l) (e::es) t) (lk x.s.env t) (k+1)=uQ (fun _=>true) (B9 l es t) (lk (sU o.dst e.slot x.s.env) t) k:=fun t k=>by
   rw[ZX,aTD rfl,aBq];have:(B9 (o::l) (e::es) t 0).getD (lk x.s.env t)=if o.dst=some t then e.slot else lk x.s.env t:=by
    simp only[B9,aUb];split<;>rfl
   rw[this];rfl
  have heaps: ∀id k,uQ (fun _=>true) (BA (e::es) id) (pG x.s.H id) (k+1)=uQ (fun _=>true) (BA es id) (pG (pX e.upd x.s.H) id) k:=fun id k=>by
   rw[ZX,aTD rfl,ZZ];have:(BA (e::es) id 0).getD (pG x.s.H id)=if id∈pH e.upd then pG e.upd id else pG x.s.H id:=by
    simp only[BA,aUb];by_cases h7:id∈pH (CO e)
    ·rw[aTD h7,aTD (U8.1 h7).1];rfl
    ·rw[aTG h7];by_cases h8:id∈pH e.upd
     ·rw[aTD h8,(hsame h8 h7).1];rfl
     ·rw[aTG h8];rfl
   rw[this];rfl
  refine⟨e::es,by rw[h5];simp,by simp [h6.len],?_,?_,fun t=> ?_,fun id=> ?_⟩
  ·have:=h6.nb;simp only at this;rw[this];simp only[aTJ];omega
  ·intro k o' e' ho he;cases k with
   |zero=>
    simp only[aUb,aTE] at ho he;subst ho;subst he;exact⟨x.s,h1,rfl,h2,h3,fun p hp=>(JR h4).1 p (vX.2 (.inr (vX.2 (.inr hp)))),fun _=>rfl,fun _=>rfl,fun id=>hsame⟩
   |succ k=>
    simp only[aUo] at ho he;obtain⟨sk,q⟩:=h6.step k o' e' ho he;refine⟨sk,q.ev,by rw[q.nb];simp only;omega,q.dst,?_,q.side,fun t=>by rw[q.env t,envs],fun id=>by rw[q.heap id,heaps],q.same⟩;have:=q.ids;simp only at this;rw[show x.s.nb+32*(k+1)+32=x.s.nb+32+32*k+32 by omega];exact this
  ·rw[aTJ,envs];exact h6.env t
  ·rw[aTJ,heaps];exact h6.heap id
theorem aBt {ops:Array Oper}{bs:List Nat}{nb i:Nat}{o:Oper}{e:pQ}: ∀{ps:List Oper}{fs:List pQ}{j:Nat},T4 ops bs nb i o e ps fs j=true->∀k p f,ps[k]? =some p->fs[k]? =some f->
  (bs.getD (j+k) 0).testBit i=true\/(o.apart ops p=true/\FV e f=true/\JJ (nb+32*i) f.upd=true)
 |p::ps,f::fs,j,h,k,p',f',hp,hf=>by
  simp only[T4,aTL,aUt] at h;cases k with
  |zero=>
   simp only[aUb,aTE] at hp hf;subst hp;subst hf;exact h.1.imp id (fun h=>⟨h.1.1,h.1.2,h.2⟩)
  |succ k=>
   simp only[aUo] at hp hf;have:=aBt h.2 k p' f' hp hf;rw[show j+(k+1)=j+1+k by omega];exact this
 |[],_,_,_,_,_,_,hp,_=>by simp at hp
 |_::_,[],_,_,_,_,_,_,hf=>by simp at hf
theorem a0a {ops:Array Oper}{bs:List Nat}{nb:Nat}: ∀{os:List Oper}{es:List pQ}{m:Nat},T5 ops bs nb os es m=true->∀i j o e p f,i<j->os[i]? =some o->es[i]? =some e->os[j]? =some p->es[j]? =some f->
  (bs.getD (m+j) 0).testBit (m+i)=true\/(o.apart ops p=true/\FV e f=true/\JJ (nb+32*(m+i)) f.upd=true)
 |o'::os,e'::es,m,h,i,j,o,e,p,f,hij,ho,he,hp,hf=>by
  simp only[T5,aTL] at h;obtain⟨j,rfl⟩: ∃k,j=k+1:=⟨j-1,by omega⟩;simp only[aUo] at hp hf;cases i with
  |zero=>
   simp only[aUb,aTE] at ho he;subst ho;subst he;have:=aBt h.1 j p f hp hf;rw[show m+(j+1)=m+1+j by omega];exact this
  |succ i=>
   simp only[aUo] at ho he;have:=a0a h.2 i j o e p f (by omega) ho he hp hf;rw[show m+(j+1)=m+1+j by omega,show m+(i+1)=m+1+i by omega];exact this
 |[],_,_,_,_,_,_,_,_,_,_,ho,_,_,_=>by simp at ho
 |_::_,[],_,_,_,_,_,_,_,_,_,_,he,_,_=>by simp at he
theorem aBu: ∀{os:List Oper}{m:Nat},T6 os m=true->∀i o,os[i]? =some o->∀e∈o.after,Region.binds .any e=true->e.on<m+i
 |o'::os,m,h,i,o,ho,e,he,hb=>by
  simp only[T6,aTL] at h;cases i with
  |zero=>
   simp only[aUb,aTE] at ho;subst ho;have:=aUy.1 h.1 e (by simpa using he);simpa[hb] using this
  |succ i=>
   simp only[aUo] at ho;have:=aBu h.2 i o ho e he hb;omega
 |[],_,_,_,_,ho,_,_,_=>by simp at ho
theorem U9 {l:List Nat}: ∀{u:List (Nat×pC)},OC u l=false->∀i,i∈pH u->i∉l
 |(k,b)::u,h,i,hi=>by
  simp only[OC,aUW] at h;simp only[pH,aTW] at hi;rcases hi with rfl|hi
  ·simpa using h.1
  ·exact U9 h.2 i hi
theorem a0b {a b:pQ}(h:FV a b=true):(∀i∈pH (CO a),i∉b.rds/\i∉pH b.upd)/\(∀i∈pH (CO b),i∉a.rds):=by
 simp only[FV,aTL,aT8] at h;exact⟨fun i hi=>⟨fun h1=>U9 h.1 i hi (vX.2 (.inl h1)),fun h1=>U9 h.1 i hi (vX.2 (.inr h1))⟩,fun i hi=>U9 h.2 i hi⟩
theorem aBv {lo:Nat}: ∀{u:List (Nat×pC)},JJ lo u=true->∀i∈pH u,i<lo\/lo+32<=i
 |(k,b)::u,h,i,hi=>by
  simp only[JJ,aTL,aUt,aTK] at h;simp only[pH,aTW] at hi;rcases hi with rfl|hi
  ·exact h.1
  ·exact aBv h.2 i hi
def a0c (os:List Oper) (p:Nat->Bool):Prop:= ∀j o,os[j]? =some o->p j=true->∀e∈o.after,Region.binds .any e=true->p e.on=true
theorem aBw {p:Nat->Bool}{acc:Array Nat}(hacc: ∀i j,(acc.getD i 0).testBit j=true->p i=true->p j=true) {i:Nat}: ∀{es:List Edge}{s:Nat},(s.testBit i=true->p i=true)->(∀e∈es,Region.binds .any e=true->p e.on=true)->
  (es.foldl (fun s e=>if Region.binds .any e then s|||2^e.on|||acc.getD e.on 0 else s) s).testBit i=true->p i=true
 |[],s,hs,_,h=>hs h
 |e::es,s,hs,he,h=>by
  simp only[List.foldl_cons] at h;refine aBw hacc (es:=es) (fun h1=> ?_) (fun e' h'=>he e' (aTS _ h')) h;split at h1
  ·rename_i hb;simp only[Nat.testBit_or,aUt,Nat.testBit_two_pow,aTK] at h1;rcases h1 with(h1|h1) |h1
   ·exact hs h1
   ·rw[<-h1];exact he e (by simp) hb
   ·exact hacc _ _ h1 (he e (by simp) hb)
  ·exact hs h1
theorem aBx {p:Nat->Bool}: ∀{os:List Oper}{acc:Array Nat},(∀i j,(acc.getD i 0).testBit j=true->p i=true->p j=true)->(∀j o,os[j]? =some o->p (acc.size+j)=true->∀e∈o.after,Region.binds .any e=true->p e.on=true)->
  ∀i j,((os.foldl (fun acc o=>acc.push (o.after.foldl (fun s e=>if Region.binds .any e then s|||2^e.on|||acc.getD e.on 0 else s) 0)) acc).getD i 0).testBit j=true->p i=true->p j=true
 |[],acc,hacc,_,i,j,h,hp=>hacc i j h hp
 |o::os,acc,hacc,hos,i,j,h,hp=>by
  simp only[List.foldl_cons] at h;refine aBx (os:=os) (fun i j h hp=> ?_) (fun k o' ho hk=> ?_) i j h hp
  ·rw[aUe,Array.getElem?_push] at h;split at h
   ·rename_i hi;simp only[aU8] at h;rw[<-aVM] at h;refine aBw hacc (es:=o.after.toList) (s:=0) (fun h=>by simp at h) (fun e he hb=>hos 0 o rfl (by rw[hi] at hp;exact hp) e (by simpa using he) hb) h
   ·rw[<-aUe] at h;exact hacc i j h hp
  ·refine hos (k+1) o' ho ?_;rw[Array.size_push] at hk;rw[show acc.size+(k+1)=acc.size+1+k by omega];exact hk
theorem aBy {ops:Array Oper}{p:Nat->Bool}(hp:a0c ops.toList p) {i j:Nat}(h:((Region.before ops).toList.getD i 0).testBit j=true) (hi:p i=true):p j=true:=by
 refine aBx (os:=ops.toList) (acc:= #[]) (p:=p) (fun i j h=>by simp at h) (fun j o ho hj=>hp j o ho (by simpa using hj)) i j ?_ hi;unfold Region.before at h;rw[<-aVM] at h;rw[aUe,<-aUK,<-aT6];exact h
def CS (l:Array Bool):Nat->Nat
 |0=>0
 |k+1=>CS l k+if l.getD k false=true then 0 else 1
theorem aBz {l l':Array Bool}: ∀{n:Nat},(∀j,j<n->l'.getD j false=l.getD j false)->CS l' n=CS l n
 |0,_=>rfl
 |n+1,h=>by simp only[CS];rw[aBz (fun j hj=>h j (by omega)),h n (by omega)]
theorem aBA {l:Array Bool}: ∀{n:Nat},CS l n=0->∀j,j<n->l.getD j false=true
 |n+1,h,j,hj=>by
  simp only[CS] at h;by_cases hn:l.getD n false=true
  ·by_cases hjn:j=n
   ·subst hjn;exact hn
   ·exact aBA (n:=n) (by omega) j (by omega)
  ·rw[aTG hn] at h;omega
theorem G3 {l:Array Bool}{i j:Nat}(hi:i<l.size):(l.setIfInBounds i true).getD j false=if j=i then true else l.getD j false:=by
 by_cases h:j=i
 ·subst h;rw[aTD rfl,aUe,Array.getElem?_setIfInBounds_self_of_lt hi];rfl
 ·rw[aTG h,aUe,aU0 (Ne.symm h),<-aUe]
theorem aBB {l:Array Bool}{i:Nat}(hi:i<l.size) (hf:l.getD i false=false): ∀{n:Nat},i<n->CS (l.setIfInBounds i true) n+1=CS l n
 |n+1,h=>by
  simp only[CS];by_cases hn:n=i
  ·subst hn;rw[G3 hi,aTD rfl,aTD rfl,hf,aBz (l:=l) (fun j hj=>by rw[G3 hi,aTG (by omega)])];simp
  ·rw[G3 hi,aTG hn];have:=aBB hi hf (n:=n) (by omega);omega
theorem aBC {p:Nat->Bool}: ∀{n:Nat},(∃j,j<n/\p j=false)->∃j,j<n/\p j=false/\∀k,k<j->p k=true
 |0,⟨j,h,_⟩=>by omega
 |n+1,⟨j,h,hj⟩=>by
  by_cases hs: ∃j,j<n/\p j=false
  ·obtain⟨k,h1,h2,h3⟩:=aBC hs;exact⟨k,by omega,h2,h3⟩
  ·refine⟨j,h,hj,fun k hk=> ?_⟩;cases hp:p k with
   |true=>rfl
   |false=>exact absurd ⟨k,by omega,hp⟩ hs
theorem rT.ext {g:Gh}{w:World}{H H':rI}(h:rT g w H) (e: ∀i,pG H' i=pG H i):rT g w H':=
 ⟨fun i b hb=>h.blk i b (by rw[<-e];exact hb),fun i j bi bj b o hij h1 h2=>h.dis i j bi bj b o hij (by rw[<-e];exact h1) (by rw[<-e];exact h2),h.sl,h.tab.1,fun i b bb oo hb ho=>h.tab.2 i b bb oo (by rw[<-e];exact hb) ho⟩
theorem sB.ext {A:Nat->Nat->Prop}{L:List pC}{g0 g:Gh}{w0 w:World}{H H':rI}(h:sB A L g0 w0 g w H) (e: ∀i,pG H' i=pG H i):sB A L g0 w0 g w H':=
 ⟨h.shut,h.fr,fun i blk b o hb=>h.perm i blk b o (by rw[<-e];exact hb),h.J,h.live,fun i u y us hi hb=>h.ty i u y us hi (by rw[<-e];exact hb),h.cur⟩
theorem aBD (g:Gh) (w:World) (d:Nat):Le g w g {w with drawn:=d}:=⟨fun _ _ h=>h,fun _ _ _=>rfl,fun _ _ h=>h,fun _ _ _ h=>h⟩
theorem rT.drawn {g:Gh}{w:World}{H:rI}(h:rT g w H) (d:Nat):rT g {w with drawn:=d} H:=
 ⟨fun i b hb=>LN (h.blk i b hb) (aBD g w d) rfl rfl (fun _ _ _=>⟨rfl,rfl⟩) (fun _ _=>rfl) (fun _ _ _ h=>h) (fun _ _ _ _ h=>h),h.dis,h.sl,NX h.tab.1 (aTZ _) (fun _ _=>rfl),h.tab.2⟩
theorem sB.drawn {A:Nat->Nat->Prop}{L:List pC}{g0 g:Gh}{w0 w:World}{H:rI}(h:sB A L g0 w0 g w H) (d:Nat):sB A L g0 w0 g {w with drawn:=d} H:=
 ⟨h.shut,⟨h.fr.os,h.fr.tape,h.fr.output,h.fr.size,h.fr.blk,h.fr.cell,h.fr.new,h.fr.shape⟩,h.perm,h.J,h.live,h.ty,h.cur⟩
section
variable {B:Nat}{P:Program}{T:rZ}{Γ:tX}(hT:wE P T) (hΓ:DJ P Γ) {A:Nat->Nat->Prop}{L:List pC}{g0:Gh}{w0:World}{Q:Exit->Act->World->Prop}
structure Mid (B:Nat) (A:Nat->Nat->Prop) (L:List pC) (g0:Gh) (w0:World) (ops:Array Oper) (es:List pQ) (s:St) (listed:Array Bool) (g:Gh) (w:World) (a:Act) (env:List (Nat×pD)) (H:rI):Prop where
 size:listed.size=ops.size
 closed:a0c ops.toList (fun j=>listed.getD j false)
 eok:B8 g w env a.tmps
 look: ∀t,lk env t=uQ (fun j=>listed.getD j false) (B9 ops.toList es t) (lk s.env t) ops.size
 heap:rT g w H
 get: ∀id,pG H id=uQ (fun j=>listed.getD j false) (BA es id) (pG s.H id) ops.size
 tmps:a.tmps.size=s.N
 def_:yX B w a.defers
 good:sB A L g0 w0 g w H
 free: ∀j,j<ops.size->listed.getD j false=false->∀id,s.nb+32*j<=id->id<s.nb+32*j+32->g.J id=none/\∀n,g.cur id n=none
 top: ∀id,s.nb+32*ops.size<=id->g.J id=none/\∀n,g.cur id n=none
include hT hΓ
theorem aKU {ro:Option Nat}{ops:Array Oper}{es:List pQ}{s:St}{y:vF}(run:aBr T Γ ops.toList ops.toList es s y) (hs: ∀p∈y.side,p) (hchk:EP ops s.nb es=true)
  (hQ: ∀g a w env H,B8 g w env a.tmps->(∀t,lk env t=lk y.s.env t)->rT g w H->(∀id,pG H id=pG y.s.H id)->a.tmps.size=s.N->yX B w a.defers->sB A L g0 w0 g w H->(∀id,s.nb+32*ops.size<=id->g.J id=none/\∀n,g.cur id n=none)->Q .normal a w):
  ∀(fuel:Nat) (listed:Array Bool) (g:Gh) (w:World) (a:Act) (env:List (Nat×pD)) (H:rI),CS listed ops.size<=fuel->Mid B A L g0 w0 ops es s listed g w a env H->wpAnyIn (ET ro) 0 P .any ops Q fuel listed a w:=by
 simp only[EP,aTL] at hchk;obtain⟨haf,hfr⟩:=hchk;have hsz:ops.toList.length=ops.size:=aUd;have done: ∀(listed:Array Bool) (g:Gh) (w:World) (a:Act) (env:List (Nat×pD)) (H:rI),Mid B A L g0 w0 ops es s listed g w a env H->(∀j,j<ops.size->listed.getD j false=true)->Q .normal a w:=by
  intro listed g w a env H m hall;refine hQ g a w env H m.eok (fun t=> ?_) m.heap (fun id=> ?_) m.tmps m.def_ m.good m.top
  ·rw[m.look t,run.env t,hsz];exact LY (fun j hj _=>hall j hj)
  ·rw[m.get id,run.heap id,hsz];exact LY (fun j hj _=>hall j hj)
 have stuck: ∀(listed:Array Bool),listed.size=ops.size->Region.ready .any ops listed=[]->∀j,j<ops.size->listed.getD j false=true:=by
  intro listed hls hr j hj;cases hp:listed.getD j false with
  |true=>rfl
  |false=>
   obtain⟨k,h1,h2,h3⟩:=aBC (p:=fun j=>listed.getD j false) ⟨j,hj,hp⟩;have:k∈Region.ready .any ops listed:=by
    rw[mem_ready];refine⟨?_,ops[k],by simp [h1],fun e he hb=> ?_⟩
    ·have h2:listed.getD k false=false:=h2;rw[aUe] at h2⊢;rw[aVy (by omega)] at h2⊢;exact h2
    ·have:=aBu haf k ops[k] (by simp [h1]) e he hb;exact h3 e.on (by omega)
   rw[hr] at this;cases this
 intro fuel
 induction fuel with
 |zero=>
  intro listed g w a env H hu m;have hall:=aBA (l:=listed) (n:=ops.size) (by omega);refine⟨?_,done listed g w a env H m hall⟩;cases hr:Region.ready .any ops listed with
  |nil=>rfl
  |cons i r=>
   have:i∈Region.ready .any ops listed:=by rw[hr];simp
   obtain⟨h0,o,ho,_⟩:=mem_ready.1 this;have hi:i<ops.size:=(aT3.1 ho).1;have:=hall i hi;rw[aUe] at this h0;rw[aVy (by rw[m.size];exact hi)] at this h0;simp at this h0;rw[this] at h0;cases h0
 |succ fuel ih=>
  intro listed g w a env H hu m;refine⟨fun hr=>done listed g w a env H m (stuck listed m.size hr),fun i hi=> ?_⟩;obtain⟨h0,o,ho,hall⟩:=mem_ready.1 hi;have hin:i<ops.size:=(aT3.1 ho).1;have hil:i<listed.size:=by rw[m.size];exact hin
  have hpi:listed.getD i false=false:=by
   rw[aUe] at h0⊢;rw[aVy hil] at h0⊢;exact h0
  have hoL:ops.toList[i]? =some o:=by simpa using ho
  obtain⟨e,he⟩: ∃e,es[i]? =some e:=⟨es[i]'(by rw[run.len,hsz];exact hin),by simp⟩;obtain⟨sk,st⟩:=run.step i o e hoL he;have hcl':a0c ops.toList (fun j=>(listed.setIfInBounds i true).getD j false):=by
   intro j o' ho' hj ed hed hb;simp only[G3 hil] at hj⊢;by_cases hji:j=i
   ·subst hji;rw[hoL] at ho';obtain rfl:=aTI ho';have:=hall ed hed hb;split
    ·rfl
    ·exact this
   ·rw[aTG hji] at hj;have:=m.closed j o' ho' hj ed hed hb;split
    ·rfl
    ·exact this
  have hbef: ∀j,((Region.before ops).toList.getD i 0).testBit j=true->j≠i->listed.getD j false=true:=by
   intro j hj hne;have:=aBy hcl' hj (by simp only[G3 hil];simp);simp only[G3 hil,aTG hne] at this;exact this
  have haft: ∀j,((Region.before ops).toList.getD j 0).testBit i=true->listed.getD j false=true->False:=by
   intro j hj hl;have:=aBy m.closed hj hl;rw[hpi] at this;cases this
  have pairLt: ∀j p f,j<i->ops.toList[j]? =some p->es[j]? =some f->listed.getD j false=true\/(p.apart ops o=true/\FV f e=true/\JJ (s.nb+32*j) e.upd=true):=by
   intro j p f hji hp hf;rcases a0a hfr j i p f o e hji hp hf hoL he with h1|h1
   ·rw[aUg,aUg] at h1;exact .inl (hbef j h1 (by omega))
   ·rw[aUg] at h1;exact .inr h1
  have pairGt: ∀j p f,i<j->ops.toList[j]? =some p->es[j]? =some f->listed.getD j false=true->o.apart ops p=true/\FV e f=true:=by
   intro j p f hij hp hf hl;rcases a0a hfr i j o e p f hij hoL he hp hf with h1|h1
   ·rw[aUg,aUg] at h1;exact(haft j h1 hl).elim
   ·exact⟨h1.1,h1.2.1⟩
  have same: ∀{α:Type}(wr:Nat->Option α) (b:α),(∀j p f,j<i->ops.toList[j]? =some p->es[j]? =some f->wr j≠none->p.apart ops o=true->FV f e=true->False)->
    (∀j p f,i<j->ops.toList[j]? =some p->es[j]? =some f->wr j≠none->o.apart ops p=true->FV e f=true->False)->(∀j,wr j≠none->∃f,es[j]? =some f)->
    uQ (fun j=>listed.getD j false) wr b ops.size=uQ (fun _=>true) wr b i:=by
   intro α wr b hlt hgt hex;rw[<-aBn (n:=ops.size) (by omega)];refine LY (fun j hj hw=> ?_);obtain⟨f,hf⟩:=hex j hw;have hpj:ops.toList[j]? =some ops[j]:=by simp [hj]
   rcases Nat.lt_trichotomy j i with h1|h1|h1
   ·rw[aUM h1];rcases pairLt j _ f h1 hpj hf with h2|h2
    ·exact h2
    ·exact(hlt j _ f h1 hpj hf hw h2.1 h2.2.1).elim
   ·subst h1;simp [hpi]
   ·have: ¬j<i:=by omega
    rw[decide_eq_false this];cases hl:listed.getD j false with
    |false=>rfl
    |true=>
     obtain⟨h2,h3⟩:=pairGt j _ f h1 hpj hf hl;exact(hgt j _ f h1 hpj hf hw h2 h3).elim
  have exS: ∀t j,B9 ops.toList es t j≠none->∃f,es[j]? =some f:=by
   intro t j h;unfold B9 at h;cases hf:es[j]? with
   |none=>rw[hf] at h;exact absurd (by split<;>first|rfl|(rename_i h1;cases h1)) h
   |some f=>exact⟨f,rfl⟩
  have exH: ∀t j,BA es t j≠none->∃f,es[j]? =some f:=by
   intro t j h;unfold BA at h;cases hf:es[j]? with
   |none=>rw[hf] at h;exact absurd rfl h
   |some f=>exact⟨f,rfl⟩
  have dS: ∀t j p f,ops.toList[j]? =some p->es[j]? =some f->B9 ops.toList es t j≠none->p.dst=some t:=by
   intro t j p f hp hf h;unfold B9 at h;rw[hp,hf] at h;simp only at h;split at h
   ·assumption
   ·exact absurd rfl h
  have dH: ∀id j f,es[j]? =some f->BA es id j≠none->id∈pH (CO f):=by
   intro id j f hf h;unfold BA at h;rw[hf] at h;simp only at h;split at h
   ·assumption
   ·exact absurd rfl h
  have hrds: ∀id∈e.rds,pG H id=pG sk.H id:=fun id hid=>by
   rw[m.get id,st.heap id];refine same _ _ (fun j p f _ hp hf hw _ ha=> ?_) (fun j p f _ hp hf hw _ ha=> ?_) (exH id)
   ·exact((a0b ha).1 id (dH id j f hf hw)).1 hid
   ·exact(a0b ha).2 id (dH id j f hf hw) hid
  have hev:CN T Γ ops.toList o ⟨env,H,s.nb+32*i,s.N,s.np⟩=some e:=by
   refine aKR st.ev (fun t ht=> ?_) (fun id hid=> ?_) st.nb.symm
   ·show lk env t=_;rw[m.look t,st.env t];refine same _ _ (fun j p f _ hp hf hw ha _=> ?_) (fun j p f _ hp hf hw ha _=> ?_) (exS t)
    ·exact(Oper.apart_spec ha).1 t (dS t j p f hp hf hw) ht
    ·exact(Oper.apart_spec ha).2.2 t (dS t j p f hp hf hw) ht
   ·exact hrds id hid
  have hfresh:zM g (s.nb+32*i) e:=fun id hid hle=>m.free i hin hpi id hle (PA st.ids hid);have key:=aA1 hT hΓ (ops:=ops.toList) (o:=o) (a:=a) (s:=⟨env,H,s.nb+32*i,s.N,s.np⟩) (K:=wpAnyIn (ET ro) 0 P .any ops Q fuel (listed.setIfInBounds i true)) (Q:=Q) m.eok m.heap hev (fun p hp=>hs p (st.side p hp)) hfresh (fun g' w' v k=>by
   refine ih (listed.setIfInBounds i true) g' w' (a.put o.dst v) (sU o.dst e.slot env) (pX e.upd H) ?_ ⟨by rw[Array.size_setIfInBounds];exact m.size,hcl',ZR m.eok k.le k.slot m.tmps st.dst,fun t=> ?_,k.heap,fun id=> ?_,(aA5 _ _ _).trans m.tmps,by rw[aA6];exact m.def_.eff m.heap k,m.good.eff k,fun j hj hjp id h1 h2=> ?_,fun id hid=> ?_⟩
   ·have:=aBB hil hpi hin;omega
   ·rw[aBq,ZW (p:=fun j=>listed.getD j false) (i:=i) hpi (fun j=>by simp only[G3 hil]) hin (fun j hij hj hl=> ?_),<-m.look t]
    ·unfold B9;rw[hoL,he];simp only;split<;>rfl
    ·have hpj:ops.toList[j]? =some ops[j]:=by simp [hj]
     obtain⟨f,hf⟩: ∃f,es[j]? =some f:=⟨es[j]'(by rw[run.len,hsz];exact hj),by simp⟩;obtain⟨h3,_⟩:=pairGt j _ f hij hpj hf hl;by_cases hw:B9 ops.toList es t j=none
     ·exact .inl hw
     ·right;have hd:=dS t j _ f hpj hf hw;by_cases hwi:B9 ops.toList es t i=none
      ·exact hwi
      ·have hdi:=dS t i _ e hoL he hwi;exact absurd hd ((Oper.apart_spec h3).2.1 t hdi)
   ·rw[ZZ,ZW (p:=fun j=>listed.getD j false) (i:=i) hpi (fun j=>by simp only[G3 hil]) hin (fun j hij hj hl=> ?_),<-m.get id]
    ·unfold BA;rw[he];simp only;by_cases h7:id∈pH (CO e)
     ·rw[aTD h7,aTD (U8.1 h7).1];rfl
     ·rw[aTG h7];by_cases h8:id∈pH e.upd
      ·obtain⟨q1,q2⟩:=st.same id h8 h7;rw[aTD h8,q1,<-hrds id q2];rfl
      ·rw[aTG h8];rfl
    ·have hpj:ops.toList[j]? =some ops[j]:=by simp [hj]
     obtain⟨f,hf⟩: ∃f,es[j]? =some f:=⟨es[j]'(by rw[run.len,hsz];exact hj),by simp⟩;obtain⟨_,h3⟩:=pairGt j _ f hij hpj hf hl;by_cases hw:BA es id j=none
     ·exact .inl hw
     ·right;have hd:=dH id j f hf hw;by_cases hwi:BA es id i=none
      ·exact hwi
      ·have hdi:=dH id i e he hwi;exact absurd (U8.1 hd).1 ((a0b h3).1 id hdi).2
   ·rw[G3 hil] at hjp;have hji:j≠i:=fun h=>by rw[aTD h] at hjp;cases hjp
    rw[aTG hji] at hjp;have hnot:id∉pH e.upd:=by
     intro hm;have hlt:=PA st.ids hm;rcases Nat.lt_or_gt_of_ne hji with h3|h3
     ·obtain⟨f,hf⟩: ∃f,es[j]? =some f:=⟨es[j]'(by rw[run.len,hsz];exact hj),by simp⟩;rcases pairLt j ops[j] f h3 (by simp [hj]) hf with h4|h4
      ·rw[hjp] at h4;cases h4
      ·have:=aBv h4.2.2 id hm;omega
     ·omega
    have hg:=k.gho id hnot;have hb:=m.free j hj hjp id h1 h2;exact⟨hg.1.trans hb.1,fun n=>by rw[hg.2];exact hb.2 n⟩
   ·have hnot:id∉pH e.upd:=fun hm=>by have:=PA st.ids hm;omega
    have hg:=k.gho id hnot;have hb:=m.top id hid;exact⟨hg.1.trans hb.1,fun n=>by rw[hg.2];exact hb.2 n⟩)
  unfold wpOpIn;rw[ho];simp only[aVa] at key⊢;split at key
  ·rename_i hw;rw[aTD hw];exact aBa (aA9 hev) key
  ·rename_i hw;rw[aTG hw];exact⟨fun _ _=>trivial,key⟩
theorem aKV {ro:Option Nat}(hm:P.follows .mixedOrders=true) {id:Nat}{ops:Array Oper}{s:St}{y:vF}{a:Act}{w:World}{g:Gh}(h:vG T Γ ops.toList ops.toList (some ⟨s,[],[]⟩)=some y) (hchk:EP ops s.nb y.es.reverse=true) (hs: ∀p∈y.side,p) (hr:uD B g w s a) (hg:sB A L g0 w0 g w s.H)
  (hQ: ∀g' a' w',uD B g' w' y.s a'->sB A L g0 w0 g' w' y.s.H->Q .normal a' w'):(Code.region id ops true).wpIn (ET ro) 0 P Q a w:=by
 obtain⟨es,h1,run⟩:=aBs h hs;have hes:y.es.reverse=es:=by rw[h1];simp
 simp only at run;rw[hes] at hchk;have hsd:=JR h;have hrep: ∀j,(Array.replicate ops.size false).getD j false=false:=by
  intro j;rw[aUe,Array.getElem?_replicate];split<;>rfl
 have none: ∀{α:Type}(wr:Nat->Option α) (b:α) n,uQ (fun j=>(Array.replicate ops.size false).getD j false) wr b n=b:=by
  intro α wr b n
  induction n with
  |zero=>rfl
  |succ n ih=>simp only[uQ];rw[aTG (by rw[hrep];simp)];exact ih
 have hsz:ops.toList.length=ops.size:=aUd;refine wpIn_region_any hm (aKU hT hΓ run hs hchk (fun g' a' w' env H he hl hh hgt hz hd hgd htop=> ?_) _ _ g _ a s.env s.H ?_ ⟨by simp,fun j o ho hj=> ?_,fun t=>B4 (aBD g w _) (hr.env t),fun t=> ?_,hr.heap.drawn _,fun id=> ?_,hr.size,hr.def_.same (fun _ h=>h),hg.drawn _,fun j _ _ id h1 _=>hr.nb id (by omega),fun id h1=>hr.nb id (by omega)⟩)
 ·refine hQ g' a' w' ⟨fun t=>by rw[<-hl t];exact he t,hh.ext (fun i=>(hgt i).symm),by rw[hsd.2.1];exact hz,fun i hi=>htop i ?_,hd,?_⟩ (hgd.ext (fun i=>(hgt i).symm))
  ·rw[run.nb,hsz] at hi;exact hi
  ·rw[hsd.2.2,run.nb];exact aUE hr.np (Nat.le_add_right _ _)
 ·have: ∀n (l:Array Bool),CS l n<=n:=by
   intro n l
   induction n with
   |zero=>exact aTZ _
   |succ n ih=>simp only[CS];split<;>omega
  exact this _ _
 ·simp only[hrep] at hj;cases hj
 ·rw[none]
 ·exact(none _ _ _).symm
end
theorem a0d: ∀{l:List Prop},qH l->∀p∈l,p
 |[p],h,q,hq=>by simp only[aTQ] at hq;subst hq;exact h
 |p::q::r,h,x,hx=>by
  rcases aTW.1 hx with rfl|hx
  ·exact h.1
  ·exact a0d h.2 x hx
theorem aBF {p:Nat->Prop}(h: ∃n,p n): ∃n,p n/\∀m,p m->n<=m:=by
 obtain⟨n,hn⟩:=h
 induction n using Nat.strongRecOn with
 |_ n ih=>
  by_cases hs: ∃m,m<n/\p m
  ·obtain⟨m,hm,hp⟩:=hs;exact ih m hm hp
  ·exact⟨n,hn,fun m hm=>Nat.le_of_not_lt fun hlt=>hs ⟨m,hlt,hm⟩⟩
noncomputable def PB (p:Nat->Prop):Nat:=open Classical in if h: ∃n,p n then(aBF h).choose else 0
theorem UA {p:Nat->Prop}(h: ∃n,p n):p (PB p)/\∀m,p m->PB p<=m:=by
 unfold PB;rw[aVS h];exact(aBF h).choose_spec
def CT:Exit->Option Ex
 | .normal=>some .normal
 | .exit id=>some (.exit id)
 | .ret=>some .ret
 |_=>none
def aBG (B:Nat) (A:Nat->Nat->Prop) (L:List pC) (g0:Gh) (w0:World) (Q:Ex->St->Prop) (x:Exit) (a:Act) (w:World):Prop:=
 ∃e g s,CT x=some e/\Q e s/\uD B g w s a/\sB A L g0 w0 g w s.H/\s.np=L.length
section
variable {B:Nat}{P:Program}{T:rZ}{Γ:tX}(hT:wE P T) (hΓ:DJ P Γ) (hm:P.follows .mixedOrders=true) {A:Nat->Nat->Prop}{L:List pC}{g0:Gh}{w0:World}
include hT hΓ hm
theorem G4 {ro:Option Nat}: ∀(c:Code) (s:St) (Q:Ex->St->Prop) (g:Gh) (a:Act) (w:World),vI T Γ c s Q->uD B g w s a->sB A L g0 w0 g w s.H->s.np=L.length->c.wpIn (ET ro) 0 P (aBG B A L g0 w0 Q) a w
 | .skip,s,Q,g,a,w,h,hr,hg,hn=>by
  unfold vI at h;exact wpIn_skip ⟨.normal,g,s,rfl,h,hr,hg,hn⟩
 | .label l,s,Q,g,a,w,h,hr,hg,hn=>by
  unfold vI at h;exact wpIn_label ⟨.normal,g,s,rfl,h,hr,hg,hn⟩
 | .exit id,s,Q,g,a,w,h,hr,hg,hn=>by
  unfold vI at h;exact wpIn_exit ⟨.exit id,g,s,rfl,h,hr,hg,hn⟩
 | .ret,s,Q,g,a,w,h,hr,hg,hn=>by
  unfold vI at h;exact wpIn_ret ⟨.ret,g,s,rfl,h,hr,hg,hn⟩
 | .region id ops draw,s,Q,g,a,w,h,hr,hg,hn=>by
  unfold vI at h;cases draw with
  |false=>
   simp only[OD] at h;cases hy:vG T Γ ops.toList ops.toList (some ⟨s,[],[]⟩) with
   |none=>rw[hy] at h;cases h
   |some y=>
    rw[hy] at h;refine aKI hT hΓ hy (a0d h.1) hr hg (fun g' a' w' hr' hg'=>⟨.normal,g',y.s,rfl,h.2,hr',hg',(JR hy).2.2.trans hn⟩)
  |true=>
   simp only[OD] at h;cases hy:vG T Γ ops.toList ops.toList (some ⟨s,[],[]⟩) with
   |none=>rw[hy] at h;cases h
   |some y=>
    rw[hy] at h;simp only[a9D] at h;by_cases hc:EP ops s.nb y.es.reverse=true
    ·rw[aTD hc] at h;refine aKV hT hΓ hm hy hc (a0d h.1) hr hg (fun g' a' w' hr' hg'=>⟨.normal,g',y.s,rfl,h.2,hr',hg',(JR hy).2.2.trans hn⟩)
    ·rw[aTG hc] at h;cases h
 | .seq x y,s,Q,g,a,w,h,hr,hg,hn=>by
  unfold vI at h;refine wpIn_seq (aVj (G4 x s _ g a w h hr hg hn) fun e a' w' hp=> ?_);obtain⟨e',g',s',h1,h2,h3,h4,h5⟩:=hp;cases e<;>simp only[CT,aTE] at h1
  case normal=>subst h1;exact G4 y s' Q g' a' w' h2 h3 h4 h5
  case exit id=>subst h1;exact⟨.exit id,g',s',rfl,h2,h3,h4,h5⟩
  case ret=>subst h1;exact⟨.ret,g',s',rfl,h2,h3,h4,h5⟩
  all_goals cases h1
 | .cond c x y,s,Q,g,a,w,h,hr,hg,hn=>by
  unfold vI at h;have hc:=zQ hr.env c;generalize sY s.env c=sc at h hc;unfold a9K at h;split at h
  ·exact wpIn_cond_split (wF hc.1) (fun ht=>G4 x s Q g a w (h.1 ht) hr hg hn) (fun ht=>G4 y s Q g a w (h.2 ht) hr hg hn)
  ·obtain⟨b,hb,hp,hq⟩:=hc.1;exact wpIn_cond_split hb (fun ht=>G4 x s Q g a w (h.1 (hp ht)) hr hg hn) (fun ht=>G4 y s Q g a w (h.2 (hq ht)) hr hg hn)
  ·cases h
 | .block id c,s,Q,g,a,w,h,hr,hg,hn=>by
  unfold vI at h;refine wpIn_block (aVj (G4 c s _ g a w h hr hg hn) fun e a' w' hp=> ?_);obtain⟨e',g',s',h1,h2,h3,h4,h5⟩:=hp;cases e<;>simp only[CT,aTE] at h1
  case normal=>subst h1;exact⟨.normal,g',s',rfl,h2,h3,h4,h5⟩
  case exit j=>
   subst h1;simp only[HH] at h2;simp only[Exit.inBlock];split
   ·rename_i hj;rw[aTD hj] at h2;exact⟨.normal,g',s',rfl,h2,h3,h4,h5⟩
   ·rename_i hj;rw[aTG hj] at h2;exact⟨.exit j,g',s',rfl,h2,h3,h4,h5⟩
  case ret=>subst h1;exact⟨.ret,g',s',rfl,h2,h3,h4,h5⟩
  all_goals cases h1
 | .loop c,s,Q,g,a,w,h,hr,hg,hn=>by
  unfold vI at h;obtain⟨k,I,μ,h0,hround⟩:=h;obtain⟨g1,k1,k2,k3,_⟩:=G2 hr hg hn k
  let R:Act->World->Nat->Prop:=fun a w n=> ∃g s,I s/\μ s=n/\uD B g w s a/\sB A L g0 w0 g w s.H/\s.np=L.length
  refine wpIn_loop (fun a w=> ∃n,R a w n) (fun a w=>PB (R a w)) ⟨_,g1,s.keep k,h0,rfl,k1,k2,k3⟩ (fun a w hI=> ?_);obtain⟨⟨g2,s2,i1,i2,i3,i4,i5⟩,_⟩:=UA hI;refine aVj (G4 c s2 _ g2 a w (hround s2 i1) i3 i4 i5) fun e a' w' hp=> ?_;obtain⟨e',g',s',h1,h2,h3,h4,h5⟩:=hp;cases e<;>simp only[CT,aTE] at h1
  case normal=>
   subst h1;obtain⟨k',j1,j2⟩:=h2;obtain⟨g3,l1,l2,l3,_⟩:=G2 h3 h4 h5 k';have hR:R a' w' (μ (s'.keep k')):=⟨g3,s'.keep k',j1,rfl,l1,l2,l3⟩;refine⟨⟨_,hR⟩,Nat.lt_of_le_of_lt ((UA ⟨_,hR⟩).2 _ hR) (by rw[<-i2];exact j2)⟩
  case exit id=>subst h1;exact⟨.exit id,g',s',rfl,h2,h3,h4,h5⟩
  case ret=>subst h1;exact⟨.ret,g',s',rfl,h2,h3,h4,h5⟩
  all_goals cases h1
 | .rangeFunc _ _ _ _,_,_,_,_,_,h,_,_,_=>by unfold vI at h;cases h
 | .scope _,_,_,_,_,_,h,_,_,_=>by unfold vI at h;cases h
 | .goto _,_,_,_,_,_,h,_,_,_=>by unfold vI at h;cases h
 | .refuse _,_,_,_,_,_,h,_,_,_=>by unfold vI at h;cases h
end
section
variable {f:St->Prop}{Q:Ex->St->Prop}{s:St}{id j:Nat}{I:St->Prop}{μ:St->Nat}{m:Nat}
theorem pL (h:f s):OG f Q .normal s:=h
theorem sW (h:Q (.exit j) s):OG f Q (.exit j) s:=h
theorem qW (h:Q .ret s):OG f Q .ret s:=h
theorem qY (h:Q .normal s):HH id Q .normal s:=h
theorem sZ (h:Q .normal s):HH id Q (.exit id) s:=by show (if id=id then Q .normal s else Q (.exit id) s);rw[aTD rfl];exact h
theorem a0e (hne:j≠id) (h:Q (.exit j) s):HH id Q (.exit j) s:=by show (if j=id then Q .normal s else Q (.exit j) s);rw[aTG hne];exact h
theorem rE (h:Q .ret s):HH id Q .ret s:=h
end
@[go_sem] def qM:Nat->List pD->List (Nat×pD)
 |_,[]=>[]
 |c,s::r=>(c,s)::qM (c+1) r
@[go_sem] def uR:Nat->List pC->List (Nat×Nat)
 |_,[]=>[]
 |c,_::L=>(c,c)::uR (c+1) L
@[go_sem] def PC (m:List (Nat×Nat)):List pD->Prop
 |[]=>True
 |s::r=>zJ m s=s/\PC m r
@[go_sem] def PD (m:List (Nat×Nat)):List pC->Prop
 |[]=>True
 | .dead::_=>False
 |b::r=>HG m (some b)=b/\PD m r
def qO:List pC->Prop
 |[]=>True
 | .row _ _ l n::r=>n=List.length l/\qO r
 |_::r=>qO r
theorem aBH {g:Gh}{w:World}: ∀{L:List pC},(∀(i:Nat) b,L[i]? =some b->∃j,zL g w j b)->qO L
 |[],_=>trivial
 |b::L,h=>by
  have h1:=aBH (L:=L) fun i b' hb=>h (i+1) b' (by simpa using hb);obtain⟨j,h0⟩:=h 0 b rfl;cases b with
  |row e t l n=>exact⟨h0.1.symm,h1⟩
  |_=>exact h1
def a0f:List Value->Value
 |[v]=>v
 |l=> .tuple l.toArray
@[go_sem] def aBI (env:List (Nat×pD)):List Nat->List pD
 |[]=>[]
 |t::r=>lk env t::aBI env r
attribute [go_sem] pN
@[go_sem] def aKW:pD->Int
 |(.val (.int _) n,_)=>n
 |_=>0
@[go_sem] def Fin (ts:List Nat) (r:pJ):Ex->St->Prop
 | .exit _,_=>False
 |_,s=> ∃k:vH,(s.keep k).H=pN 0 r.H/\aBI (s.keep k).env ts=r.ret
theorem aBJ: ∀(l:List pD) (c t:Nat),lk (qM c l) t=if c<=t then(l[t-c]?).getD (.any,none) else(.any,none)
 |[],c,t=>by simp [qM,lk]
 |s::l,c,t=>by
  simp only[qM,lk];by_cases h:c=t
  ·subst h;simp
  ·rw[aTG h,aBJ l (c+1) t];by_cases h2:c<=t
   ·rw[aTD h2,aTD (by omega)];obtain⟨d,hd⟩: ∃d,t-c=d+1:=⟨t-c-1,by omega⟩;rw[hd,aUo,show t- (c+1)=d by omega]
   ·rw[aTG h2,aTG (by omega)]
theorem LZ: ∀{L:List pC}{c i j:Nat},(i,j)∈uR c L↔i=j/\c<=i/\i<c+L.length
 |[],c,i,j=>by simp only[uR,aVz,aT0,false_iff];omega
 |b::L,c,i,j=>by
  simp only[uR,aTW,aUa,LZ,aTJ];omega
theorem UB: ∀{L:List pC}{c:Nat},wQ 0 (uR c L)=true
 |[],_=>rfl
 |b::L,c=>by
  simp only[uR,wQ,aTL];refine⟨⟨by simp,?_⟩,UB⟩;have: ∀{m:List (Nat×Nat)},(∀i j,(i,j)∈m->i≠c/\j≠c)->LK c c m=false:=by
   intro m
   induction m with
   |nil=>intro _;rfl
   |cons q m ih=>
    intro h;obtain⟨i,j⟩:=q;have:=h i j (by simp);simp only[LK,ih (fun i j hm=>h i j (aTS _ hm)),decide_eq_false this.1,decide_eq_false this.2];rfl
  rw[this]
  ·rfl
  ·intro i j hm;obtain⟨rfl,h1,_⟩:=LZ.1 hm;omega
theorem aBK {m:List (Nat×Nat)}: ∀{l:List pD},PC m l->∀s∈l,zJ m s=s
 |x::l,h,s,hs=>by
  rcases aTW.1 hs with rfl|hs
  ·exact h.1
  ·exact aBK h.2 s hs
theorem JS {m:List (Nat×Nat)}: ∀{l:List pC},PD m l->∀b∈l,HG m (some b)=b/\b≠.dead
 |x::l,h,b,hb=>by
  cases x with
  |dead=>exact h.elim
  |cells t y ts=>
   rcases aTW.1 hb with rfl|hb
   ·exact⟨h.1,fun h=>by cases h⟩
   ·exact JS h.2 b hb
  |row e t l n=>
   rcases aTW.1 hb with rfl|hb
   ·exact⟨h.1,fun h=>by cases h⟩
   ·exact JS h.2 b hb
  |map k v l=>
   rcases aTW.1 hb with rfl|hb
   ·exact⟨h.1,fun h=>by cases h⟩
   ·exact JS h.2 b hb
  |iter s n=>
   rcases aTW.1 hb with rfl|hb
   ·exact⟨h.1,fun h=>by cases h⟩
   ·exact JS h.2 b hb
  |grow e c n=>
   rcases aTW.1 hb with rfl|hb
   ·exact⟨h.1,fun h=>by cases h⟩
   ·exact JS h.2 b hb
theorem UC {g:Gh}{w:World}: ∀{ss:List pD}{vs:List Value},uP g w ss vs->vs.length=ss.length/\∀(i:Nat) s,ss[i]? =some s->∃v,vs[i]? =some v/\r5 g w s v
 |[],vs,h=>by rw[show vs=[] from h];exact⟨rfl,fun i s h=>by simp at h⟩
 |s::ss,vs,⟨v,vs',e,h1,h2⟩=>by
  subst e;obtain⟨h3,h4⟩:=UC h2;refine⟨by simp [h3],fun i s' hi=> ?_⟩;cases i with
  |zero=>simp only[aUb,aTE] at hi;subst hi;exact⟨v,rfl,h1⟩
  |succ i=>simp only[aUo] at hi⊢;exact h4 i s' hi
theorem UD: ∀(L:List pC),pW L=L.length
 |[]=>rfl
 |_::L=>by simp only[pW,aTJ,UD L]
theorem a0g {g:Gh}{w:World}{args:List pD}{vals:List Value}{L:List pC}{N:Nat}(hH:rT g w (pN 0 L)) (ha:uP g w args vals) (hs:PC (uR 0 L) args) (hb:PD (uR 0 L) L) (hN:args.length<=N):
  uD w.heap.size (tQ g 0 (uR 0 L)) w ⟨qM 0 args,pN 0 L,pW L,N,pW L⟩ {tmps:=vals.toArray++Array.replicate (N-vals.toArray.size) undef,defers:=[]}/\
  (∀i blk,L[i]? =some blk->(tQ g 0 (uR 0 L)).J i=g.J i/\zL (tQ g 0 (uR 0 L)) w i blk/\∀b o,rJ (tQ g 0 (uR 0 L)) i blk b o->rJ g i blk b o):=by
 have hk:wQ 0 (uR 0 L)=true:=UB;have hmem: ∀i blk,L[i]? =some blk->(i,i)∈uR 0 L:=fun i blk h=>LZ.2 ⟨rfl,by omega,by have:=(aTU.1 h).1;omega⟩;have hblk: ∀i blk,L[i]? =some blk->zL (tQ g 0 (uR 0 L)) w i blk/\∀b o,rJ (tQ g 0 (uR 0 L)) i blk b o->rJ g i blk b o:=by
  intro i blk h;have hr:=(JS hb blk (List.mem_of_getElem? h)).1;have:=JQ (g:=g) (w:=w) hk (hmem i blk h) (b:=some blk) (fun c hc=>by cases hc;exact hH.blk i blk (by rw[xC];exact h));rw[hr] at this;exact⟨this.1,fun b o ho=>by obtain⟨c,hc,hco⟩:=this.2 b o ho;cases hc;exact hco⟩
 obtain⟨hl,hv⟩:=UC ha;refine⟨⟨fun t=> ?_,⟨fun i b h=> ?_,fun i j bi bj b o hij h1 h2 o1 o2=> ?_,hH.sl,hH.tab.1,fun i blk b o hg ho=>hH.tab.2 i blk b o hg ((hblk i blk (by rw[<-xC];exact hg)).2 b o ho)⟩,?_,fun i hi=> ?_,aA0 _ _,aTZ _⟩,fun i blk h=>⟨(AJ hk (hmem i blk h)).1,hblk i blk h⟩⟩
 ·rw[aBJ,aTD (aUC _),Nat.sub_zero];cases ht:args[t]? with
  |none=>exact⟨trivial,trivial⟩
  |some s=>
   obtain⟨v,hv1,hv2⟩:=hv t s ht;have hlt:t<vals.length:=(aTU.1 hv1).1;have:(vals.toArray++Array.replicate (N-vals.toArray.size) undef).getD t undef=v:=by
    rw[aUe,Array.getElem?_append_left (by simpa using hlt)];simp [hv1]
   simp only[aU8];rw[this];have:=U6 hk hv2;rw[aBK hs s (List.mem_of_getElem? ht)] at this;exact this
 ·rw[xC] at h;exact(hblk i b h).1
 ·rw[xC] at h1 h2;exact hH.dis i j bi bj b o hij (by rw[xC];exact h1) (by rw[xC];exact h2) ((hblk i bi h1).2 b o o1) ((hblk j bj h2).2 b o o2)
 ·simp only[aVQ,Array.size_replicate,aUu];omega
 ·have hold:yY (uR 0 L) i=none:=by
   cases ho:yY (uR 0 L) i with
   |none=>rfl
   |some o=>
    obtain⟨rfl,_,h2⟩:=LZ.1 (ZP ho);have hi:pW L<=i:=hi;rw[UD] at hi;omega
  refine⟨?_,fun n=> ?_⟩
  ·show (if i<0 then g.J i else(yY (uR 0 L) i).bind g.J)=none;rw[aTG (by omega),hold];rfl
  ·show (if i<0 then g.cur i n else(yY (uR 0 L) i).bind fun o=>g.cur o n)=none;rw[aTG (by omega),hold];rfl
structure u7 (B:Nat) (w w':World):Prop where
 os:w'.os=w.os
 tape:w'.tape=w.tape
 output:w'.output=w.output
 size:w.heap.size<=w'.heap.size
 blk: ∀b,b<w.heap.size->w'.heap[b]? =w.heap[b]? \/(B<=b/\NG<=b/\∃o o',w.heap[b]? =some o/\w'.heap[b]? =some o'/\G1 o=true/\G1 o'=true)
theorem aBL {w:World}{b:Nat}{ob:Obj}(hd:w.heap[b]? =some ob) (hm:G1 ob=true) (o:Nat):w.frozen? ⟨b,o,none⟩=false:=by
 unfold World.frozen?;simp only[hd];cases ob<;>first|rfl|cases hm
theorem aKX {w:World}{b:Nat}{ob:Obj}(hd:w.heap[b]? =some ob) (hm:G1 ob=true):w.shape? b=none:=by
 unfold World.shape?;simp only[hd];cases ob<;>first|rfl|cases hm
section
variable {B:Nat}{w w' w'':World}
theorem u7.refl (B:Nat) (w:World):u7 B w w:=⟨rfl,rfl,rfl,aTZ _,fun _ _=> .inl rfl⟩
theorem u7.trans (h:u7 B w w') (k:u7 B w' w''):u7 B w w'':=by
 refine⟨k.os.trans h.os,k.tape.trans h.tape,k.output.trans h.output,aUE h.size k.size,fun b hb=> ?_⟩;rcases k.blk b (aUj hb h.size) with k1|⟨k0,k1,o,o',k2,k3,k4,k5⟩
 ·rcases h.blk b hb with h1|⟨h0,h1,o,o',h2,h3,h4,h5⟩
  ·exact .inl (k1.trans h1)
  ·exact .inr ⟨h0,h1,o,o',h2,k1.trans h3,h4,h5⟩
 ·rcases h.blk b hb with h1|⟨h0,h1,p,p',h2,h3,h4,h5⟩
  ·exact .inr ⟨k0,k1,o,o',h1▸k2,k3,k4,k5⟩
  ·exact .inr ⟨h0,h1,p,o',h2,k3,h4,k5⟩
theorem u7.cell (t:u7 B w w') {b:Nat}(hb:b<w.heap.size) (o:Nat):w'.cell? ⟨b,o,none⟩=w.cell? ⟨b,o,none⟩/\w'.frozen? ⟨b,o,none⟩=w.frozen? ⟨b,o,none⟩:=by
 rcases t.blk b hb with h|⟨_,_,o1,o2,h1,h2,m1,m2⟩
 ·exact⟨aT4 h,by unfold World.frozen?;simp only[h]⟩
 ·exact⟨by rw[ZK h1 m1,ZK h2 m2],by rw[aBL h1 m1,aBL h2 m2]⟩
theorem u7.shape (t:u7 B w w') {b:Nat}{s:TypeId×Nat}(h:w.shape? b=some s):w'.shape? b=some s:=by
 have hb:b<w.heap.size:=by
  unfold World.shape? at h;cases hx:w.heap[b]? with
  |none=>rw[hx] at h;cases h
  |some _=>exact(aT3.1 hx).1
 rcases t.blk b hb with k|⟨_,_,o1,o2,h1,h2,m1,m2⟩
 ·unfold World.shape? at h⊢;rw[k];exact h
 ·rw[aKX h1 m1] at h;cases h
theorem u7.le (t:u7 B w w') {g:Gh}(hs: ∀b o,g.S b o->b<w.heap.size):Le g w g w':=⟨fun _ _ h=>h,fun b o h=>(t.cell (hs b o h) o).1,fun _ _ h=>h,fun _ _ _ h=>h⟩
theorem u7.heapOk (t:u7 B w w') {g:Gh}{H:rI}(h:rT g w H):rT g w' H:=by
 have own: ∀{i blk b o},pG H i=some blk->rJ g i blk b o->w'.heap[b]? =w.heap[b]? :=fun hg ho=>by
  rcases t.blk _ (ON (h.blk _ _ hg) ho) with k|⟨_,_,o1,o2,h1,_,m1,_⟩
  ·exact k
  ·exact(U3 (h.blk _ _ hg) ho h1 m1).elim
 refine⟨fun i blk hb=>LN (h.blk i blk hb) (t.le h.sl) rfl rfl (fun b o ho=>t.cell (ON (h.blk i blk hb) ho) o) (fun b ho=>own hb (ho 0)) (fun _ _ _ x=>x) (fun b o s _ x=>t.shape x),h.dis,fun b o x=>aUj (h.sl b o x) t.size,NX h.tab.1 t.size (fun b hb=> ?_),h.tab.2⟩;rcases t.blk b (aUj hb h.tab.1.1) with k|⟨_,k,_⟩
 ·exact k
 ·omega
theorem uD.turn {g:Gh}{s:St}{a:Act}{ds:List Deferred}(h:uD B g w s a) (t:u7 B w w') (hd:yX B w' ds):uD B g w' s {a with defers:=ds}:=
 ⟨fun x=>B4 (t.le h.heap.sl) (h.env x),t.heapOk h.heap,h.size,h.nb,hd,h.np⟩
theorem sB.turn {A:Nat->Nat->Prop}{L:List pC}{g0 g:Gh}{w0:World}{H:rI}(h:sB A L g0 w0 g w H) (hs: ∀b o,g.S b o->b<w.heap.size) (t:u7 w0.heap.size w w'):sB A L g0 w0 g w' H:=by
 refine⟨fun b o x=>⟨(h.shut b o x).1,(t.cell (hs b o (h.shut b o x).1) o).1.trans (h.shut b o x).2⟩,⟨t.os.trans h.fr.os,t.tape.trans h.fr.tape,t.output.trans h.fr.output,aUE h.fr.size t.size,fun b hb hA=> ?_,fun b o hb hA=> ?_,h.fr.new,fun b s x=> ?_⟩,h.perm,h.J,h.live,h.ty,h.cur⟩
 ·rcases t.blk b (aUj hb h.fr.size) with k|⟨k,_⟩
  ·exact k.trans (h.fr.blk b hb hA)
  ·omega
 ·have:=t.cell (aUj hb h.fr.size) o;have k:=h.fr.cell b o hb hA;exact⟨this.1.trans k.1,this.2.trans k.2⟩
 ·rcases h.fr.shape b s x with k|k
  ·exact .inl (t.shape k)
  ·exact .inr k
end
theorem aBM {P:Program}{fn:Func}{R:Ending->World->Prop}{A:Nat->Nat->Prop}{L:List pC}{g0 g:Gh}{w0:World}{s:St}{tmps:Array Value}: ∀(ds:List Deferred) (w:World),uD w0.heap.size g w s {tmps:=tmps,defers:=ds}->sB A L g0 w0 g w s.H->
  (∀w',uD w0.heap.size g w' s {tmps:=tmps,defers:=[]}->sB A L g0 w0 g w' s.H->∃v,(results fn tmps).run P w'= .ok v w'/\R (.returned v) w')->LeavesInM Fence.wide 0 P fn tmps R ds .returning w
 |[],w,hr,hg,h=>h w hr hg
 |d::ds,w,hr,hg,h=>by
  obtain⟨hnd,hall⟩:=hr.def_;obtain⟨D,rfl,h1,h2,h3⟩:=hall d aT1;have hlt:=(aT3.1 h3).1;have t:u7 w0.heap.size w (w.putObj D (.deferred none)):=by
   refine⟨rfl,rfl,rfl,by simp [World.putObj],fun b hb=> ?_⟩;by_cases e:b=D
   ·subst e;exact .inr ⟨h1,h2,_,_,h3,World.putObj_heap_same hlt,rfl,rfl⟩
   ·exact .inl (World.putObj_heap_other e)
  have hd:yX w0.heap.size (w.putObj D (.deferred none)) ds:=by
   refine⟨(List.nodup_cons.1 hnd).2,fun d' hd'=> ?_⟩;obtain⟨D',rfl,k1,k2,k3⟩:=hall d' (aTS _ hd');refine⟨D',rfl,k1,k2,?_⟩;rw[World.putObj_heap_other (fun e:D'=D=>(List.nodup_cons.1 hnd).1 (by subst e;exact hd'))];exact k3
  exact⟨by simp,.inl ⟨D,_,rfl,run_takeDeferred h3,aBM ds _ (hr.turn t hd) (hg.turn hr.heap.sl t) h⟩⟩
def Ev (R:Bool) (P:Program) (c:Code) (s:St) (Q:Ex->St->Prop):Prop:=
 ∀(ro:Option Nat),ro.isSome=R->
 ∀(A:Nat->Nat->Prop) (L:List pC) (g0:Gh) (w0:World) (g:Gh) (a:Act) (w:World) (B:Nat),B<=w0.heap.size->uD B g w s a->sB A L g0 w0 g w s.H->s.np=L.length->c.wpIn (ET ro) 0 P (aBG B A L g0 w0 Q) a w
variable {R:Bool}
theorem aBN {P:Program}{T:rZ}{Γ:tX}(hT:wE P T) (hΓ:DJ P Γ) (hm:P.follows .mixedOrders=true) {c:Code}{s:St}{Q:Ex->St->Prop}(h:vI T Γ c s Q):Ev R P c s Q:=
 fun ro hro A L g0 w0 g a w B hB hr hg hn=>G4 hT hΓ hm c s Q g a w h hr hg hn
structure qG (P:Program) (T:rZ) (Γ:tX):Prop where
 T:wE P T
 Γ:DJ P Γ
 m:P.follows .mixedOrders=true
theorem aKY {P:Program}{c:Code}{s:St}{Q Q':Ex->St->Prop}(h:Ev R P c s Q') (hq: ∀e s,Q' e s->Q e s):Ev R P c s Q:=by
 intro ro hro A L g0 w0 g a w B hB hr hg hn;refine aVj (h ro hro A L g0 w0 g a w B hB hr hg hn) fun x a' w' hp=> ?_;obtain⟨e,g',s',h1,h2,h3,h4,h5⟩:=hp;exact⟨e,g',s',h1,hq e s' h2,h3,h4,h5⟩
theorem aBO {P:Program}{c:Code}{s:St}{Q:Ex->St->Prop}(k:vH) (h:Ev R P c (s.keep k) Q):Ev R P c s Q:=by
 intro ro hro A L g0 w0 g a w B hB hr hg hn;obtain⟨g1,k1,k2,k3,_⟩:=G2 hr hg hn k;exact h ro hro A L g0 w0 g1 a w B hB k1 k2 k3
section
variable {P:Program}{s:St}{Q:Ex->St->Prop}
theorem qD (h:Q .normal s):Ev R P .skip s Q:=fun _ _ _ _ _ _ g _ _ _ _ hr hg hn=>wpIn_skip ⟨.normal,g,s,rfl,h,hr,hg,hn⟩
theorem aKZ {l:Nat}(h:Q .normal s):Ev R P (.label l) s Q:=fun _ _ _ _ _ _ g _ _ _ _ hr hg hn=>wpIn_label ⟨.normal,g,s,rfl,h,hr,hg,hn⟩
theorem sO {id:Nat}(h:Q (.exit id) s):Ev R P (.exit id) s Q:=fun _ _ _ _ _ _ g _ _ _ _ hr hg hn=>wpIn_exit ⟨.exit id,g,s,rfl,h,hr,hg,hn⟩
theorem pK (h:Q .ret s):Ev R P .ret s Q:=fun _ _ _ _ _ _ g _ _ _ _ hr hg hn=>wpIn_ret ⟨.ret,g,s,rfl,h,hr,hg,hn⟩
theorem pP {x y:Code}(h:Ev R P x s (OG (fun s'=>Ev R P y s' Q) Q)):Ev R P (.seq x y) s Q:=by
 intro ro hro A L g0 w0 g a w B hB hr hg hn;refine wpIn_seq (aVj (h ro hro A L g0 w0 g a w B hB hr hg hn) fun e a' w' hp=> ?_);obtain⟨e',g',s',h1,h2,h3,h4,h5⟩:=hp;cases e<;>simp only[CT,aTE] at h1
 case normal=>subst h1;exact h2 ro hro A L g0 w0 g' a' w' B hB h3 h4 h5
 case exit id=>subst h1;exact⟨.exit id,g',s',rfl,h2,h3,h4,h5⟩
 case ret=>subst h1;exact⟨.ret,g',s',rfl,h2,h3,h4,h5⟩
 all_goals cases h1
theorem aK0 {c:Operand}{x y:Code}{b:Bool}{k:Option Nat}(h:sY s.env c=(.val .bool b,k)) (ht:b=true->Ev R P x s Q) (hf:b=false->Ev R P y s Q):Ev R P (.cond c x y) s Q:=by
 intro ro hro A L g0 w0 g a w B hB hr hg hn;have hc:=zQ hr.env c;rw[h] at hc;exact wpIn_cond_split (wF hc.1) (fun e=>ht e ro hro A L g0 w0 g a w B hB hr hg hn) (fun e=>hf e ro hro A L g0 w0 g a w B hB hr hg hn)
theorem aK1 {c:Operand}{x y:Code}{p q:Prop}{k:Option Nat}(h:sY s.env c=(.flag p q,k)) (ht:p->Ev R P x s Q) (hf:q->Ev R P y s Q):Ev R P (.cond c x y) s Q:=by
 intro ro hro A L g0 w0 g a w B hB hr hg hn;have hc:=zQ hr.env c;rw[h] at hc;obtain⟨b,hb,hp,hq⟩:=hc.1;exact wpIn_cond_split hb (fun e=>ht (hp e) ro hro A L g0 w0 g a w B hB hr hg hn) (fun e=>hf (hq e) ro hro A L g0 w0 g a w B hB hr hg hn)
theorem aK2 {c:Code}(h:Ev false P c s Q):Ev false P (.scope c) s Q:=by
 intro ro hro A L g0 w0 g a w B hB hr hg hn;have hN:ro=none:=by cases ro<;>first|rfl|cases hro
 subst hN;refine(wpIn_wide (n:=0)).2 (wp_scope_straight ((wpIn_wide (n:=0)).1 (aVj (h none rfl A L g0 w0 g a w B hB hr hg hn) fun e a' w' hp=> ?_)));obtain⟨e',g',s',h1,h2,h3,h4,h5⟩:=hp;cases e<;>simp only[CT,aTE] at h1
 all_goals first|(cases h1;done) |exact⟨e',g',s',by simp only[CT];rw[h1],h2,h3,h4,h5⟩
theorem rC {id:Nat}{c:Code}(h:Ev R P c s (HH id Q)):Ev R P (.block id c) s Q:=by
 intro ro hro A L g0 w0 g a w B hB hr hg hn;refine wpIn_block (aVj (h ro hro A L g0 w0 g a w B hB hr hg hn) fun e a' w' hp=> ?_);obtain⟨e',g',s',h1,h2,h3,h4,h5⟩:=hp;cases e<;>simp only[CT,aTE] at h1
 case normal=>subst h1;exact⟨.normal,g',s',rfl,h2,h3,h4,h5⟩
 case exit j=>
  subst h1;simp only[HH] at h2;simp only[Exit.inBlock];split
  ·rename_i hj;rw[aTD hj] at h2;exact⟨.normal,g',s',rfl,h2,h3,h4,h5⟩
  ·rename_i hj;rw[aTG hj] at h2;exact⟨.exit j,g',s',rfl,h2,h3,h4,h5⟩
 case ret=>subst h1;exact⟨.ret,g',s',rfl,h2,h3,h4,h5⟩
 all_goals cases h1
end
@[go_sem] def UE (k:Nat) (t:Ty) (l:List t.den):pD->pD
 |(.own j m,x)=>if j=k then(.val (.list t) l,some k) else(.own j m,x)
 |s=>s
@[go_sem] def HP (k:Nat) (t:Ty) (l:List t.den):List (Nat×pD)->List (Nat×pD)
 |[]=>[]
 |(i,s)::r=>(i,UE k t l s)::HP k t l r
@[go_sem] def aBP (k n:Nat):pD->Prop
 |(.own j m,_)=>j=k->m=n
 |_=>True
@[go_sem] def PE (k n:Nat):List (Nat×pD)->Prop
 |[]=>True
 |(_,s)::r=>aBP k n s/\PE k n r
theorem a0h {k:Nat}{t:Ty}{l:List t.den}: ∀{env:List (Nat×pD)}{i:Nat},lk (HP k t l env) i=UE k t l (lk env i)
 |[],i=>rfl
 |(j,s)::r,i=>by
  simp only[HP,lk];split
  ·rfl
  ·exact a0h
theorem a0i {k n:Nat}: ∀{env:List (Nat×pD)}{i:Nat},PE k n env->aBP k n (lk env i)
 |[],i,_=>trivial
 |(j,s)::r,i,⟨h1,h2⟩=>by
  simp only[lk];split
  ·exact h1
  ·exact a0i h2
theorem a0j {P:Program}{c:Code}{s:St}{Q:Ex->St->Prop}(k:Nat) {e:TypeId}{t:Ty}{l:List t.den}{n:Nat}(hk:pG s.H k=some (.row e t l n)) (hok:PE k n s.env)
  (h:Ev R P c ⟨HP k t l s.env,(k,.grow e t.cells (List.length l))::s.H,s.nb,s.N,s.np⟩ Q):Ev R P c s Q:=by
 intro ro hro A L g0 w0 g a w B hB hr hg hn;obtain⟨hl,v,xs,hv,hown,hF,hnone,hseal⟩:=hr.heap.blk k _ hk
 let g':Gh:={g with S:=fun b o=>g.S b o\/(v.ownBlock=some b/\o<n*t.cells)}
 have le:Le g w g' w:=⟨fun _ _ h=> .inl h,fun _ _ _=>rfl,fun _ _ h=>h,fun _ _ _ h=>h⟩;have hown2: ∀b,v.ownBlock=some b->∀o,rJ g k (.row e t l n) b o:=fun b hb o=>⟨v,hv,hb⟩;have hlist: ∀u,g.cur k n=some u->((u= .slice none 0 0/\n=0)\/∃b cap,u= .slice (some ⟨b,0,none⟩) n cap/\n<=cap)->sE g' w (.list t) l u:=by
  intro u hu hshape;rw[hv] at hu;obtain rfl:=aTI hu;rcases hshape with⟨rfl,h0⟩ |⟨b,cap,rfl,hcap⟩
  ·have:l=[]:=aUc (by rw[hl,h0]);subst this;exact .inr ⟨rfl,none,0,rfl,aTZ _,.inl rfl⟩
  ·refine .inr ⟨rfl,some ⟨b,0,none⟩,cap,by rw[hl],by rw[hl];exact hcap,.inr ⟨b,0,rfl,LQ (CQ (fun _ _ h=>wS le h) hF) (fun j u hu=> ?_) (fun j hj=> ?_)⟩⟩
   ·have:=hown.cells (g:=b) rfl j u hu;rwa [aUQ] at this
   ·right;exact⟨rfl,by rw[hl] at hj;omega⟩
 have hget: ∀i b,pG ((k,pC.grow e t.cells (List.length l))::s.H) i=some b->(i=k/\b= .grow e t.cells (List.length l))\/(i≠k/\pG s.H i=some b):=by
  intro i b hb;simp only[pG] at hb;split at hb
  ·rename_i e1;exact .inl ⟨e1.symm,(aTI hb).symm⟩
  ·rename_i e1;exact .inr ⟨Ne.symm e1,hb⟩
 have howns: ∀i b bb o,pG ((k,pC.grow e t.cells (List.length l))::s.H) i=some b->rJ g' i b bb o->∃b0,pG s.H i=some b0/\rJ g i b0 bb o:=by
  intro i b bb o hb ho;rcases hget i b hb with⟨rfl,rfl⟩ |⟨_,h1⟩
  ·obtain⟨u,hu,hub⟩:=ho;have hu':g.cur i (List.length l)=some u:=hu;rw[hl] at hu';exact⟨_,hk,u,hu',hub⟩
  ·exact⟨b,h1,(yV (g':=g') (g:=g) rfl rfl).1 ho⟩
 have hrel:uD B g' w ⟨HP k t l s.env,(k,.grow e t.cells (List.length l))::s.H,s.nb,s.N,s.np⟩ a:=by
  refine⟨fun i=> ?_,⟨fun i b hb=> ?_,fun i j bi bj b o hij h1 h2 o1 o2=> ?_,fun b o hS=> ?_,hr.heap.tab.1,fun i b bb oo hb ho=>by
   obtain⟨c1,k1,k2⟩:=howns i b bb oo hb ho;exact hr.heap.tab.2 i c1 bb oo k1 k2⟩,hr.size,hr.nb,hr.def_,hr.np⟩
  ·rw[a0h];have h1:=hr.env i;have h2:=a0i (i:=i) hok;generalize lk s.env i=sl at h1 h2;obtain⟨d,x⟩:=sl;cases d with
   |own j m=>
    simp only[UE];split
    ·rename_i hj;subst hj;have hm:m=n:=h2 rfl;subst hm;refine⟨hlist _ h1.1.1 h1.1.2,?_⟩;show g'.cur j (List.length l)=_;rw[hl];exact h1.1.1
    ·exact B4 le h1
   |_=>exact B4 le h1
  ·rcases hget i b hb with⟨rfl,rfl⟩ |⟨hne,h1⟩
   ·refine⟨v,xs,by rw[hl];exact hv,by rw[hl];exact hown,fun m hm=>hnone m (by rw[hl] at hm;exact hm),fun b hb o hS=> ?_⟩;rw[hl];rcases hS with hS|hS
    ·exact absurd hS (hseal b hb o)
    ·exact hS.2
   ·exact LN (hr.heap.blk i b h1) le rfl rfl (fun _ _ _=>⟨rfl,rfl⟩) (fun _ _=>rfl) (fun bb o ho hS=>by
     rcases hS with hS|hS
     ·exact hS
     ·exact absurd (hown2 bb hS.1 o) (fun h5=>hr.heap.dis i k b _ bb o hne h1 hk ho h5)) (fun _ _ _ _ h=>h)
  ·obtain⟨c1,k1,k2⟩:=howns i bi b o h1 o1;obtain⟨c2,k3,k4⟩:=howns j bj b o h2 o2;exact hr.heap.dis i j c1 c2 b o hij k1 k3 k2 k4
  ·rcases hS with hS|hS
   ·exact hr.heap.sl b o hS
   ·exact OM hown hS.1
 have hgood:sB A L g0 w0 g' w ((k,.grow e t.cells (List.length l))::s.H):=by
  refine⟨fun b o h0=>⟨.inl (hg.shut b o h0).1,(hg.shut b o h0).2⟩,⟨hg.fr.os,hg.fr.tape,hg.fr.output,hg.fr.size,hg.fr.blk,hg.fr.cell,fun b o hS=> ?_,hg.fr.shape⟩,fun i b bb o hb ho=> ?_,hg.J,hg.live,fun i u y us hi hb=> ?_,hg.cur⟩
  ·rcases hS with hS|hS
   ·exact hg.fr.new b o hS
   ·exact .inr (hg.perm k _ b o hk (hown2 b hS.1 o))
  ·obtain⟨c1,k1,k2⟩:=howns i b bb o hb ho;exact hg.perm i c1 bb o k1 k2
  ·rcases hget i _ hb with⟨_,h1⟩ |⟨_,h1⟩
   ·cases h1
   ·exact hg.ty i u y us hi h1
 exact h ro hro A L g0 w0 g' a w B hB hrel hgood hn
@[go_sem] def a0k (k:Nat) (u0:Ty) (l:List u0.den) (e:Nat) (u:Ty):Option (Nat×Nat)-> Σ t:Ty,t.den
 |some (j,n)=>if j=k/\u=u0 then⟨.list u0,l⟩ else⟨.rl e u,some (j,n)⟩
 |none=>⟨.rl e u,none⟩
@[go_sem] def AK (k:Nat) (u0:Ty) (l:List u0.den):(t:Ty)->t.den-> Σ t:Ty,t.den
 | .rl e u,x=>a0k k u0 l e u x
 | .pair a b,x=>if (Ty.pair a b).pure=true then⟨.pair a b,x⟩ else⟨.pair (AK k u0 l a x.1).1 (AK k u0 l b x.2).1,((AK k u0 l a x.1).2,(AK k u0 l b x.2).2)⟩
 |t,x=>⟨t,x⟩
@[go_sem] def aK3 (k n:Nat):Option (Nat×Nat)->Prop
 |some (j,m)=>j=k->m=n
 |none=>True
@[go_sem] def PF (k n:Nat):(t:Ty)->t.den->Prop
 | .rl _ _,x=>aK3 k n x
 | .pair a b,x=>PF k n a x.1/\PF k n b x.2
 |_,_=>True
theorem PG {k:Nat}{u0:Ty}{l:List u0.den}: ∀{t:Ty}{x:t.den},(AK k u0 l t x).1.cells=t.cells
 | .rl e u,none=>rfl
 | .rl e u,some (j,n)=>by
  simp only[AK,a0k];split<;>rfl
 | .pair a b,x=>by
  simp only[AK];split
  ·rfl
  ·simp only[Ty.cells,PG (t:=a),PG (t:=b)]
 | .bool,_=>rfl
 | .int _,_=>rfl
 | .str,_=>rfl
 | .list _,_=>rfl
 | .unit,_=>rfl
 | .ref,_=>rfl
 | .clo,_=>rfl
 | .mp,_=>rfl
 | .mref,_=>rfl
 | .fn,_=>rfl
def aK4 (g:Gh) (w:World) (q: Σ t:Ty,t.den) (cs:List Value):Prop:=Rd g w q.1 q.2 cs
theorem a0l {g:Gh}{w:World}{k n:Nat}{u0:Ty}{l:List u0.den}(hk: ∀cs,HI g (some (k,n)) cs->Rd g w (.list u0) l cs): ∀{t:Ty}{x:t.den}{cs:List Value},PF k n t x->Rd g w t x cs->aK4 g w (AK k u0 l t x) cs
 | .rl e u,none,_,_,r=>r
 | .rl e u,some (j,m),_,h,r=>by
  simp only[AK,a0k];split
  ·rename_i hc;obtain⟨rfl,rfl⟩:=hc;have:m=n:=h rfl;subst this;exact hk _ r
  ·exact r
 | .pair a b,x,_,h,r=>by
  simp only[AK];split
  ·exact r
  ·obtain⟨c1,c2,e,r1,r2⟩:=r;exact⟨c1,c2,e,a0l hk h.1 r1,a0l hk h.2 r2⟩
 | .bool,_,_,_,r=>r
 | .int _,_,_,_,r=>r
 | .str,_,_,_,r=>r
 | .list _,_,_,_,r=>r
 | .unit,_,_,_,r=>r
 | .ref,_,_,_,r=>r
 | .clo,_,_,_,r=>r
 | .mp,_,_,_,r=>r
 | .mref,_,_,_,r=>r
 | .fn,_,_,_,r=>r
theorem aK5 {P:Program}{c:Code}{s:St}{Q:Ex->St->Prop}(k i:Nat) {e:TypeId}{t:Ty}{l:List t.den}{n:Nat}(hk:pG s.H k=some (.row e t l n)) {u:Ty}{x:u.den}{toks:List (Nat×Nat)}(hi:pG s.H i=some (.cells u x toks)) (hnp:s.np<=i)
  (hok:PE k n s.env) (hxo:PF k n u x)
  (h:Ev R P c ⟨HP k t l s.env,(i,.cells (AK k t l u x).1 (AK k t l u x).2 [])::(k,.grow e t.cells (List.length l))::s.H,s.nb,s.N,s.np⟩ Q):Ev R P c s Q:=by
 intro ro hro A L g0 w0 g a w B hB hr hg hn;obtain⟨hl,v,xs,hv,hown,hF,hnone,hseal⟩:=hr.heap.blk k _ hk
 let g':Gh:={g with S:=fun b o=>g.S b o\/(v.ownBlock=some b/\o<n*t.cells)}
 have le:Le g w g' w:=⟨fun _ _ h=> .inl h,fun _ _ _=>rfl,fun _ _ h=>h,fun _ _ _ h=>h⟩;have hown2: ∀b,v.ownBlock=some b->∀o,rJ g k (.row e t l n) b o:=fun b hb o=>⟨v,hv,hb⟩;have hlist: ∀u,g.cur k n=some u->((u= .slice none 0 0/\n=0)\/∃b cap,u= .slice (some ⟨b,0,none⟩) n cap/\n<=cap)->sE g' w (.list t) l u:=by
  intro u hu hshape;rw[hv] at hu;obtain rfl:=aTI hu;rcases hshape with⟨rfl,h0⟩ |⟨b,cap,rfl,hcap⟩
  ·have:l=[]:=aUc (by rw[hl,h0]);subst this;exact .inr ⟨rfl,none,0,rfl,aTZ _,.inl rfl⟩
  ·refine .inr ⟨rfl,some ⟨b,0,none⟩,cap,by rw[hl],by rw[hl];exact hcap,.inr ⟨b,0,rfl,LQ (CQ (fun _ _ h=>wS le h) hF) (fun j u hu=> ?_) (fun j hj=> ?_)⟩⟩
   ·have:=hown.cells (g:=b) rfl j u hu;rwa [aUQ] at this
   ·right;exact⟨rfl,by rw[hl] at hj;omega⟩
 have hik:i≠k:=fun e1=>by rw[e1,hk] at hi;cases hi
 obtain⟨p0,cs0,hp0,hR0,hra0,hth0,hns0,_⟩:=hr.heap.blk i _ hi
 let b':pC:= .cells (AK k t l u x).1 (AK k t l u x).2 []
 let H':rI:=(i,b')::(k,pC.grow e t.cells (List.length l))::s.H
 have hget: ∀i' b,pG H' i'=some b->(i'=i/\b=b')\/(i'=k/\b= .grow e t.cells (List.length l))\/(i'≠k/\i'≠i/\pG s.H i'=some b):=by
  intro i' b hb;simp only[H',pG] at hb;split at hb
  ·rename_i e1;exact .inl ⟨e1.symm,(aTI hb).symm⟩
  ·rename_i e1;split at hb
   ·rename_i e2;exact .inr (.inl ⟨e2.symm,(aTI hb).symm⟩)
   ·rename_i e2;exact .inr (.inr ⟨Ne.symm e2,Ne.symm e1,hb⟩)
 have howns: ∀i' b bb o,pG H' i'=some b->rJ g' i' b bb o->∃b0,pG s.H i'=some b0/\rJ g i' b0 bb o:=by
  intro i' b bb o hb ho;rcases hget i' b hb with⟨rfl,rfl⟩ |⟨rfl,rfl⟩ |⟨_,_,h1⟩
  ·obtain⟨p,hp,e1,e2,e3⟩:=ho;rw[PG] at e3;exact⟨_,hi,p,hp,e1,e2,e3⟩
  ·obtain⟨u,hu,hub⟩:=ho;have hu':g.cur i' (List.length l)=some u:=hu;rw[hl] at hu';exact⟨_,hk,u,hu',hub⟩
  ·exact⟨b,h1,(yV (g':=g') (g:=g) rfl rfl).1 ho⟩
 have hrel:uD B g' w ⟨HP k t l s.env,H',s.nb,s.N,s.np⟩ a:=by
  refine⟨fun j=> ?_,⟨fun i' b hb=> ?_,fun i' j bi bj b o hij h1 h2 o1 o2=> ?_,fun b o hS=> ?_,hr.heap.tab.1,fun i' b bb oo hb ho=>by
   obtain⟨c1,k1,k2⟩:=howns i' b bb oo hb ho;exact hr.heap.tab.2 i' c1 bb oo k1 k2⟩,hr.size,hr.nb,hr.def_,hr.np⟩
  ·rw[a0h];have h1:=hr.env j;have h2:=a0i (i:=j) hok;generalize lk s.env j=sl at h1 h2;obtain⟨d,x⟩:=sl;cases d with
   |own j m=>
    simp only[UE];split
    ·rename_i hj;subst hj;have hm:m=n:=h2 rfl;subst hm;refine⟨hlist _ h1.1.1 h1.1.2,?_⟩;show g'.cur j (List.length l)=_;rw[hl];exact h1.1.1
    ·exact B4 le h1
   |_=>exact B4 le h1
  ·rcases hget i' b hb with⟨rfl,rfl⟩ |⟨rfl,rfl⟩ |⟨hne,_,h1⟩
   ·have hk2: ∀cs,HI g' (some (k,n)) cs->Rd g' w (.list t) l cs:=by
     rintro cs ⟨v1,q1,q2,q3⟩;rw[q2];exact C1 rfl (hlist v1 q1 q3)
    refine⟨p0,cs0,hp0,a0l (n:=n) hk2 hxo (wS le hR0),hra0,?_,?_,fun _ _ hm=>by cases hm⟩
    ·rw[PG];exact⟨hth0.1,hth0.2⟩
    ·rw[PG];intro j hj hS;rcases hS with hS|hS
     ·exact hns0 j hj hS
     ·exact hr.heap.dis i' k _ _ p0.1 (p0.2+j) hik hi hk ⟨p0,hp0,rfl,by omega,by omega⟩ (hown2 _ hS.1 _)
   ·refine⟨v,xs,by rw[hl];exact hv,by rw[hl];exact hown,fun m hm=>hnone m (by rw[hl] at hm;exact hm),fun b hb o hS=> ?_⟩;rw[hl];rcases hS with hS|hS
    ·exact absurd hS (hseal b hb o)
    ·exact hS.2
   ·exact LN (hr.heap.blk i' b h1) le rfl rfl (fun _ _ _=>⟨rfl,rfl⟩) (fun _ _=>rfl) (fun bb o ho hS=>by
     rcases hS with hS|hS
     ·exact hS
     ·exact absurd (hown2 bb hS.1 o) (fun h5=>hr.heap.dis i' k b _ bb o hne h1 hk ho h5)) (fun _ _ _ _ h=>h)
  ·obtain⟨c1,k1,k2⟩:=howns i' bi b o h1 o1;obtain⟨c2,k3,k4⟩:=howns j bj b o h2 o2;exact hr.heap.dis i' j c1 c2 b o hij k1 k3 k2 k4
  ·rcases hS with hS|hS
   ·exact hr.heap.sl b o hS
   ·exact OM hown hS.1
 have hgood:sB A L g0 w0 g' w H':=by
  refine⟨fun b o h0=>⟨.inl (hg.shut b o h0).1,(hg.shut b o h0).2⟩,⟨hg.fr.os,hg.fr.tape,hg.fr.output,hg.fr.size,hg.fr.blk,hg.fr.cell,fun b o hS=> ?_,hg.fr.shape⟩,fun i' b bb o hb ho=> ?_,hg.J,hg.live,fun i' u' y us hi' hb=> ?_,hg.cur⟩
  ·rcases hS with hS|hS
   ·exact hg.fr.new b o hS
   ·exact .inr (hg.perm k _ b o hk (hown2 b hS.1 o))
  ·obtain⟨c1,k1,k2⟩:=howns i' b bb o hb ho;exact hg.perm i' c1 bb o k1 k2
  ·rcases hget i' _ hb with⟨rfl,_⟩ |⟨_,h1⟩ |⟨_,_,h1⟩
   ·omega
   ·cases h1
   ·exact hg.ty i' u' y us hi' h1
 exact h ro hro A L g0 w0 g' a w B hB hrel hgood hn
theorem aK6 {P:Program}{c:Code}{s:St}{Q:Ex->St->Prop}(k i:Nat) {e:TypeId}{t:Ty}{l:List t.den}{n:Nat}(hk:pG s.H k=some (.row e t l n)) {u:Ty}{x:u.den}{toks:List (Nat×Nat)}(hi:pG s.H i=some (.cells u x toks)) (hnp:s.np<=i)
  (hok:PE k n s.env) (hxo:PF k n u x) {u':Ty}{y':u'.den}(hz:AK k t l u x=⟨u',y'⟩)
  (h:Ev R P c ⟨HP k t l s.env,(i,.cells u' y' [])::(k,.grow e t.cells (List.length l))::s.H,s.nb,s.N,s.np⟩ Q):Ev R P c s Q:=
 aK5 k i hk hi hnp hok hxo (by rw[hz];exact h)
def iter {σ ρ:Type}(f:σ->Option (σ⊕ρ)):Nat->σ->Option ρ
 |0,_=>none
 |n+1,x=>match f x with
  |none=>none
  |some (.inl y)=>iter f n y
  |some (.inr r)=>some r
theorem aBQ {σ ρ:Type}{f:σ->Option (σ⊕ρ)}{r:ρ}: ∀{n:Nat}{x:σ},iter f n x=some r->iter f (n+1) x=some r
 |0,_,h=>by cases h
 |n+1,x,h=>by
  unfold iter at h⊢;split
  ·rename_i e;rw[e] at h;cases h
  ·rename_i y e;rw[e] at h;exact aBQ h
  ·rename_i r' e;rw[e] at h;exact h
theorem a0m {σ ρ:Type}{f:σ->Option (σ⊕ρ)}{r:ρ}{n:Nat}{x:σ}(h:iter f n x=some r): ∀m,iter f (n+m) x=some r
 |0=>h
 |m+1=>aBQ (a0m h m)
theorem aBR {σ ρ:Type}{f:σ->Option (σ⊕ρ)}{r r':ρ}{n m:Nat}{x:σ}(h:iter f n x=some r) (h':iter f m x=some r'):r=r':=by
 have h1:=a0m h m;have h2:=a0m h' n;rw[Nat.add_comm] at h2;exact aTI (h1.symm.trans h2)
noncomputable def PH {σ ρ:Type}(f:σ->Option (σ⊕ρ)) (x:σ):Option ρ:=open Classical in if h: ∃n r,iter f n x=some r then some (Classical.choose (aVf h)) else none
def aK7 {ρ:Type}:Option ρ->Option ρ->Option ρ
 |some r,_=>some r
 |none,r=>r
noncomputable def qB {σ ρ:Type}(f:σ->Option (σ⊕ρ)) (x:σ):Option ρ:=aK7 (iter f 2000 x) (PH f x)
theorem aK8 {σ ρ:Type}{f:σ->Option (σ⊕ρ)}{x:σ}{r:ρ}{n:Nat}(h:iter f n x=some r):PH f x=some r:=by
 have hx: ∃n r,iter f n x=some r:=⟨n,r,h⟩;unfold PH;rw[aVS hx,aBR h (aVf (aVf hx))]
theorem a0n {σ ρ:Type}{f:σ->Option (σ⊕ρ)}{x:σ}{r:ρ}{n:Nat}(h:iter f n x=some r):qB f x=some r:=by
 unfold qB;cases hi:iter f 2000 x with
 |some r'=>rw[aBR h hi];rfl
 |none=>exact aK8 h
theorem UF {σ ρ:Type}{f:σ->Option (σ⊕ρ)}{x:σ}{r:ρ}(h:qB f x=some r): ∃n,iter f n x=some r:=by
 unfold qB at h;cases hi:iter f 2000 x with
 |some r'=>
  rw[hi] at h;cases h;exact⟨_,hi⟩
 |none=>
  rw[hi] at h;have h:PH f x=some r:=h;unfold PH at h;split at h
  ·rename_i hx;have:=aVf (aVf hx);rw[aTI h] at this;exact⟨_,this⟩
  ·cases h
attribute [irreducible] qB
theorem EU {σ ρ:Type}{f:σ->Option (σ⊕ρ)}{x y:σ}(h:f x=some (.inl y)):qB f x=qB f y:=by
 cases hy:qB f y with
 |some r=>
  obtain⟨n,hn⟩:=UF hy;exact a0n (n:=n+1) (by unfold iter;rw[h];exact hn)
 |none=>
  cases hx:qB f x with
  |none=>rfl
  |some r=>
   obtain⟨n,hn⟩:=UF hx;cases n with
   |zero=>cases hn
   |succ n=>
    unfold iter at hn;rw[h] at hn;rw[a0n hn] at hy;cases hy
theorem vA {σ ρ:Type}{f:σ->Option (σ⊕ρ)}{x:σ}{r:ρ}(h:f x=some (.inr r)):qB f x=some r:=a0n (n:=1) (by unfold iter;rw[h])
def Nxt {σ ρ:Type}(f:σ->Option (σ⊕ρ)) (y:ρ) (n:Nat):σ⊕ρ->Prop
 | .inl x=>iter f n x=some y
 | .inr r=>r=y
def qL {σ ρ:Type}(enc:σ->St) (f:σ->Option (σ⊕ρ)) (y:ρ) (n:Nat) (Q:Ex->St->Prop):Ex->St->Prop
 | .normal,s=> ∃(k:vH) (x:σ),s.keep k=enc x/\iter f n x=some y
 | .exit j,s=>Q (.exit j) s
 | .ret,s=>Q .ret s
theorem aLa {P:Program}{c:Code}{s:St}{Q:Ex->St->Prop}(I:Nat->St->Prop) (h0: ∃(k:vH) (n:Nat),I n (s.keep k))
  (h: ∀n s,I n s->Ev R P c s (fun e s'=>match e with| .normal=> ∃(k:vH) (m:Nat),m<n/\I m (s'.keep k) |e=>Q e s')):Ev R P (.loop c) s Q:=by
 intro ro hro A L g0 w0 g a w B hB hr hg hn;obtain⟨k,n0,h0⟩:=h0;obtain⟨g1,k1,k2,k3,_⟩:=G2 hr hg hn k
 let R:Act->World->Nat->Prop:=fun a w n=> ∃g s,I n s/\uD B g w s a/\sB A L g0 w0 g w s.H/\s.np=L.length
 refine wpIn_loop (fun a w=> ∃n,R a w n) (fun a w=>PB (R a w)) ⟨_,g1,s.keep k,h0,k1,k2,k3⟩ (fun a w hI=> ?_);obtain⟨⟨g2,s2,i1,i3,i4,i5⟩,_⟩:=UA hI;refine aVj (h _ s2 i1 ro hro A L g0 w0 g2 a w B hB i3 i4 i5) fun e a' w' hp=> ?_;obtain⟨e',g',s',h1,h2,h3,h4,h5⟩:=hp;cases e<;>simp only[CT,aTE] at h1
 case normal=>
  subst h1;obtain⟨k',m,j1,j2⟩:=h2;obtain⟨g3,l1,l2,l3,_⟩:=G2 h3 h4 h5 k';have hR:R a' w' m:=⟨g3,s'.keep k',j2,l1,l2,l3⟩;exact⟨⟨_,hR⟩,Nat.lt_of_le_of_lt ((UA ⟨_,hR⟩).2 _ hR) j1⟩
 case exit id=>subst h1;exact⟨.exit id,g',s',rfl,h2,h3,h4,h5⟩
 case ret=>subst h1;exact⟨.ret,g',s',rfl,h2,h3,h4,h5⟩
 all_goals cases h1
theorem t6 {P:Program}{c:Code}{s:St}{Q:Ex->St->Prop}{σ ρ:Type}{f:σ->Option (σ⊕ρ)}{x0:σ}{y:ρ}(hy:qB f x0=some y) (enc:σ->St) (k:vH) (h0:s.keep k=enc x0)
  (round: ∀x w n,f x=some w->Nxt f y n w->Ev R P c (enc x) (qL enc f y n Q)):Ev R P (.loop c) s Q:=by
 obtain⟨n,hn⟩:=UF hy;refine aLa (fun n s=> ∃x,s=enc x/\iter f n x=some y) ⟨k,n,x0,h0,hn⟩ fun n s ⟨x,e,hx⟩=> ?_;subst e;cases n with
 |zero=>cases hx
 |succ n=>
  unfold iter at hx;refine aKY (Q':=qL enc f y n Q) ?_ (fun e s' hq=> ?_)
  ·split at hx
   ·cases hx
   ·rename_i x' e;exact round x _ n e hx
   ·rename_i r e;exact round x _ n e (aTI hx)
  ·cases e with
   |normal=>obtain⟨k,x',h1,h2⟩:=hq;exact⟨k,n,by omega,x',h1,h2⟩
   |exit j=>exact hq
   |ret=>exact hq
def qX (j:Nat) (X:St->Prop) (Q:Ex->St->Prop):Ex->St->Prop
 | .normal,s=>Q .normal s
 | .exit i,s=>if i=j then∃k:vH,X (s.keep k) else Q (.exit i) s
 | .ret,s=>Q .ret s
theorem t7 {P:Program}{c:Code}{s:St}{Q:Ex->St->Prop}(j:Nat) (X:St->Prop) (h:Ev R P c s (qX j X Q)) (J: ∀s',X s'->Q (.exit j) s'):Ev R P c s Q:=by
 intro ro hro A L g0 w0 g a w B hB hr hg hn;refine aVj (h ro hro A L g0 w0 g a w B hB hr hg hn) fun x a' w' hp=> ?_;obtain⟨e,g',s',h1,h2,h3,h4,h5⟩:=hp;cases e with
 |normal=>exact⟨.normal,g',s',h1,h2,h3,h4,h5⟩
 |ret=>exact⟨.ret,g',s',h1,h2,h3,h4,h5⟩
 |exit i=>
  have h2:(if i=j then∃k:vH,X (s'.keep k) else Q (.exit i) s'):=h2;by_cases hij:i=j
  ·rw[aTD hij] at h2;obtain⟨k,hk⟩:=h2;obtain⟨g1,k1,k2,k3,_⟩:=G2 h3 h4 h5 k;exact⟨.exit i,g1,s'.keep k,h1,by rw[hij];exact J _ hk,k1,k2,k3⟩
  ·rw[aTG hij] at h2;exact⟨.exit i,g',s',h1,h2,h3,h4,h5⟩
section
variable {Q:Ex->St->Prop}{s:St}{j i:Nat}{X:St->Prop}{σ ρ:Type}{enc:σ->St}{f:σ->Option (σ⊕ρ)}{y:ρ}{n:Nat}
theorem uK (h:Q .ret s):qX j X Q .ret s:=h
theorem sP (h: ∃k:vH,X (s.keep k)):qX j X Q (.exit j) s:=by show (if j=j then _ else _);rw[aTD rfl];exact h
theorem s7 (h: ∃(k:vH) (x:σ),s.keep k=enc x/\iter f n x=some y):qL enc f y n Q .normal s:=h
theorem sQ (h:Q (.exit j) s):qL enc f y n Q (.exit j) s:=h
theorem uL (h:Q .ret s):qL enc f y n Q .ret s:=h
end
def qN (X:St->Prop) (Q:Ex->St->Prop):Ex->St->Prop
 | .normal,s=> ∃k:vH,X (s.keep k)
 | .exit j,s=>Q (.exit j) s
 | .ret,s=>Q .ret s
theorem BB {P:Program}{c:Code}{s:St}{Q:Ex->St->Prop}(X:St->Prop) (h:Ev R P c s (qN X Q)) (J: ∀s',X s'->Q .normal s'):Ev R P c s Q:=by
 intro ro hro A L g0 w0 g a w B hB hr hg hn;refine aVj (h ro hro A L g0 w0 g a w B hB hr hg hn) fun x a' w' hp=> ?_;obtain⟨e,g',s',h1,h2,h3,h4,h5⟩:=hp;cases e with
 |exit j=>exact⟨.exit j,g',s',h1,h2,h3,h4,h5⟩
 |ret=>exact⟨.ret,g',s',h1,h2,h3,h4,h5⟩
 |normal=>
  obtain⟨k,hk⟩:=h2;obtain⟨g1,k1,k2,k3,_⟩:=G2 h3 h4 h5 k;exact⟨.normal,g1,s'.keep k,h1,J _ hk,k1,k2,k3⟩
section
variable {Q:Ex->St->Prop}{s:St}{j:Nat}{X:St->Prop}
theorem uE (h: ∃k:vH,X (s.keep k)):qN X Q .normal s:=h
theorem a0o (h:Q .ret s):qN X Q .ret s:=h
end
def val {ρ:Type}[Inhabited ρ] (x:Option ρ):ρ:=x.getD default
theorem r8 {ρ:Type}[Inhabited ρ] {x:Option ρ}{y:ρ}(h:x=some y):val x=y:=by rw[h];rfl
theorem pY {ρ:Type}{x:Option ρ}{y:ρ}(h:x=some y):x.isSome=true:=by rw[h];rfl
theorem pI {ρ:Type}{c:Prop}[Decidable c] {x:Option ρ}{r:ρ}(h:(if c then x else none)=some r):c/\x=some r:=by
 by_cases hc:c
 ·rw[aTD hc] at h;exact⟨hc,h⟩
 ·rw[aTG hc] at h;cases h
theorem pF {σ ρ:Type}{x:Option σ}{k:σ->Option ρ}{r:ρ}(h:x.bind k=some r): ∃y,x=some y/\k y=some r:=by
 cases x with
 |none=>cases h
 |some y=>exact⟨y,rfl,h⟩
theorem aLb {ρ:Type}{b:Bool}{x y:ρ}{r:ρ}(h:(if b=true then x else y)=r) (hb:b=true):x=r:=by rw[aTD hb] at h;exact h
theorem aLc {ρ:Type}{b:Bool}{x y:ρ}{r:ρ}(h:(if b=true then x else y)=r) (hb:b=false):y=r:=by rw[hb,aTG (by decide)] at h;exact h
def rW {σ ρ:Type}(x:Option (σ⊕ρ)) (k:σ->Option ρ):Option ρ:=x.bind fun y=>match y with
 | .inl v=>k v
 | .inr r=>some r
theorem uI {σ ρ:Type}{x:Option (σ⊕ρ)}{k:σ->Option ρ}{r:ρ}(h:rW x k=some r): ∃y,x=some y/\(match y with| .inl v=>k v| .inr r=>some r)=some r:=pF h
def rH {σ ρ:Type}(x:Option σ) (k:σ->Option ρ):Option ρ:=x.bind k
def rM {σ ρ:Type}(x:σ) (k:σ->ρ):ρ:=k x
theorem aLd {σ ρ:Type}{x:σ}{k:σ->ρ}{r:ρ}(h:rM x k=r):k x=r:=h
theorem vY {σ ρ:Type}{x:σ}{k:σ->ρ}{r:ρ}(h:rM x k=r): ∃y,x=y/\k y=r:=⟨x,rfl,h⟩
theorem rL {x:Bool}(h:x=true):(x==true)=true:=by rw[h];rfl
theorem EV {G x:Bool}(hG:G=true) (h:x=true):(G&&(x==true))=true:=by rw[hG,h];rfl
theorem EW {G x:Bool}(hG:G=true) (h:x=false):(G&&(x==false))=true:=by rw[hG,h];rfl
theorem sR {x:Bool}(h:x=false):(x==false)=true:=by rw[h];rfl
section
variable {P:Program}{T:rZ}{Γ:tX}(E:qG P T Γ) {s:St}{Q:Ex->St->Prop}
include E
theorem aBS {id:Nat}{ops:Array Oper}{a:vF}(h:vG T Γ ops.toList ops.toList (some ⟨s,[],[]⟩)=some a) (hp:qH a.side) (hq:Q .normal a.s):Ev R P (.region id ops false) s Q:=
 aBN E.T E.Γ E.m (aI8 h hp hq)
theorem aBT {id:Nat}{ops:Array Oper}{a:vF}(h:vG T Γ ops.toList ops.toList (some ⟨s,[],[]⟩)=some a) (hf:EP ops s.nb a.es.reverse=true) (hp:qH a.side) (hq:Q .normal a.s):Ev R P (.region id ops true) s Q:=
 aBN E.T E.Γ E.m (aI9 h hf hp hq)
end
end Go.Proofs.YtbbpilohihldiaaGreatDoor.Vc
namespace Go.Proofs.YtbbpilohihldiaaGreatDoor.Vc
open Go.RowKit
variable {R:Bool}
attribute [go_sem] Option.map_some Option.map_none
@[go_sem] theorem aRD {H:List (Nat×pC)}{ps:List PK}{b:List pD}{a:Option s8}:wN H ps ([]++b) a=wN H ps b a:=rfl
@[go_sem] theorem aRE {H:List (Nat×pC)}{ps:List PK}{x:pD}{l b:List pD}{a:Option s8}:wN H ps ((x::l)++b) a=wN H ps (x::(l++b)) a:=rfl
@[go_sem] def aBU:Option pD->Option (List pD)->Option (List pD)
 |some s,some l=>some (s::l)
 |_,_=>none
@[go_sem] def aBV:Option pQ->Option pD
 |some e=>some e.slot
 |none=>none
@[go_sem] def UG (H:List (Nat×pC)):Option TI->pD->Option pQ
 |some ti,(.val .ref (some (i,off)),_)=>O8 ti.ty i off (pG H i)
 |_,_=>none
@[go_sem] def PI (T:rZ) (s:St) (m:List (Nat×Nat)):Nat×Option TypeId->Option pD
 |(t,none)=>some (zJ m (lk s.env t))
 |(t,some ty)=>(aBV (UG s.H (r7 T ty) (lk s.env t))).map (zJ m)
@[go_sem] def HR (T:rZ) (s:St) (m:List (Nat×Nat)):List (Nat×Option TypeId)->Option (List pD)
 |[]=>some []
 |q::r=>aBU (PI T s m q) (HR T s m r)
def CU:Nat×Option TypeId->ResultVar
 |(t,none)=> .tmp t
 |(t,some ty)=> .cell t ty
@[go_sem] def DK:Nat->Nat->List (Nat×pC)->List (Nat×pC)
 |0,_,H=>H
 |n+1,i,[]=>(i,.dead)::DK n (i+1) []
 |n+1,i,(j,b)::H=>if j=i then(j,b)::DK n (i+1) H else(i,.dead)::DK n (i+1) ((j,b)::H)
theorem JT: ∀{n i:Nat}{H:List (Nat×pC)}{k:Nat}{b:pC},pG (DK n i H) k=some b->pG H k=some b\/b= .dead
 |0,_,_,_,_,h=> .inl h
 |n+1,i,[],k,b,h=>by
  simp only[DK,pG] at h;split at h
  ·exact .inr (aTI h).symm
  ·exact JT h
 |n+1,i,(j,c)::H,k,b,h=>by
  unfold DK at h;split at h
  ·simp only[pG] at h⊢;split at h
   ·rename_i e;rw[aTD e];exact .inl h
   ·rename_i e;rw[aTG e];exact JT h
  ·simp only[pG] at h;split at h
   ·exact .inr (aTI h).symm
   ·exact JT h
theorem rT.pad {g:Gh}{w:World}{H:rI}(h:rT g w H) (n i:Nat):rT g w (DK n i H):=by
 have own: ∀{k blk b o},pG (DK n i H) k=some blk->rJ g k blk b o->pG H k=some blk:=fun hg ho=>by
  rcases JT hg with h1|h1
  ·exact h1
  ·subst h1;exact ho.elim
 refine⟨fun k b hb=> ?_,fun i j bi bj b o hij h1 h2 o1 o2=>h.dis i j bi bj b o hij (own h1 o1) (own h2 o2) o1 o2,h.sl,h.tab.1,fun k blk b o h1 h2=>h.tab.2 k blk b o (own h1 h2) h2⟩;rcases JT hb with h1|h1
 ·exact h.blk k b h1
 ·subst h1;trivial
theorem sB.pad {A:Nat->Nat->Prop}{L:List pC}{g0 g:Gh}{w0 w:World}{H:rI}(h:sB A L g0 w0 g w H) (n i:Nat):sB A L g0 w0 g w (DK n i H):=by
 refine⟨h.shut,h.fr,fun k blk b o hg ho=> ?_,h.J,h.live,fun k u y us hk hg=> ?_,h.cur⟩
 ·rcases JT hg with h1|h1
  ·exact h.perm k blk b o h1 ho
  ·subst h1;exact ho.elim
 ·rcases JT hg with h1|h1
  ·exact h.ty k u y us hk h1
  ·cases h1
def aBW (T:rZ) (ts:List (Nat×Option TypeId)) (r:pJ):Ex->St->Prop
 | .exit _,_=>False
 |_,s=> ∃m:List (Nat×Nat),wQ s.np m=true/\DK (pW r.H) 0 (s.keep ⟨[],m⟩).H=pN 0 r.H/\HR T s m ts=some r.ret
section
variable {P:Program}{o:Oper}{a:Act}{g:Gh}{w:World}{H:rI}{T:rZ}(hT:wE P T) (hH:rT g w H)
include hT hH
theorem aLe {t:TypeId}{vx:Value}{sx:pD}(hx:r5 g w sx vx) {e:pQ}(hr:UG H (r7 T t) sx=some e): ∃ad v,vx= .pointer (some ad)/\(loadVar t ad).run P w= .ok v w/\r5 g w e.slot v:=by
 generalize hs:r7 T t=ot at hr;replace hx:=hx.1;unfold UG at hr;split at hr
 ·rename_i ti i off k;have hty:=sD hT hs;generalize hb:pG H i=ob at hr;unfold O8 at hr;split at hr
  ·rename_i u z toks;generalize hga:qK ti.ty u z off=oy at hr;cases oy with
   |none=>cases hr
   |some y=>
    cases hr;obtain⟨p,hp,hv⟩:=AI hx;obtain⟨p',cs,hp',hR,hra,_,_,htk⟩:=hH.blk i _ hb;rw[hp] at hp';obtain rfl:=aTI hp';obtain⟨c1,c2,c3,rfl,rfl,hR2⟩:=EQ hR hga;obtain⟨v,h1,h2,h3⟩:=TM hT hH hty (OS hT hH hra) hR2;refine⟨_,v,hv,by simpa[Instr.loadAt,Instr.sureAddr] using h1,h2,?_⟩;obtain⟨ty,el,by',ar,ls⟩:=ti;cases ty with
    |list u'=>
     simp only[FN];generalize htt:wC toks c1.length=ok;cases ok with
     |none=>trivial
     |some k=>
      obtain⟨u2,l,v',g1,g2,g3⟩:=htk _ _ (YU hT hH htt);obtain⟨heq,hl⟩:=a93 hT hH g1 hga rfl;injection heq with heq'
      subst heq';have hlen:=s0 hR2;obtain⟨v2,rfl⟩:=aUY.1 hlen;have e2:v'=v2:=by
       have e:(c1++[v2]++c3)[c1.length]? =some v2:=by simp
       rw[e] at g2;exact(aTI g2).symm
      have e3:v=v2:=by
       have h4:=C1 rfl h2;have hone:=B5 h4 v (by simp);have:v.cells= #[v]:=by cases v<;>first|rfl|(simp [Value.oneCell'] at hone)
       rw[this] at h3;simpa using h3
      subst e2;subst e3;have e4:(y:List u'.den)=l:=hl;subst e4;exact g3
    |_=>trivial
  ·cases hr
 ·cases hr
end
def JU (tmps:Array Value) (q:Nat×Option TypeId):Sem Value:=match CU q with
 | .tmp t=>pure (tmps.getD t undef)
 | .cell a t=>do loadVar t (<-asAddr (tmps.getD a undef))
theorem aBX {P:Program}{T:rZ}(hT:wE P T) {B:Nat}{g:Gh}{w:World}{s:St}{a:Act}{m:List (Nat×Nat)}(hk:wQ s.np m=true) (hr:uD B g w s a): ∀{ts:List (Nat×Option TypeId)}{l:List pD},HR T s m ts=some l->
  ∃vs:List Value,(ts.mapM (JU a.tmps)).run P w= .ok vs w/\uP (tQ g s.np m) w l vs
 |[],l,h=>by
  simp only[HR,aTE] at h;subst h;exact⟨[],by simp,rfl⟩
 |q::ts,l,h=>by
  simp only[HR] at h;obtain⟨s1,l1,e1,e2,rfl⟩: ∃s1 l1,PI T s m q=some s1/\HR T s m ts=some l1/\l=s1::l1:=by
   cases h1:PI T s m q<;>cases h2:HR T s m ts<;>rw[h1,h2] at h<;>simp [aBU] at h
   exact⟨_,_,rfl,rfl,h.symm⟩
  obtain⟨vs,v1,v2⟩:=aBX hT hk hr e2;obtain⟨v,w1,w2⟩: ∃v,(JU a.tmps q).run P w= .ok v w/\r5 (tQ g s.np m) w s1 v:=by
   obtain⟨t,oty⟩:=q;cases oty with
   |none=>
    simp only[PI,aTE] at e1;subst e1;exact⟨_,by simp [JU,CU],U6 hk (hr.env t)⟩
   |some ty=>
    simp only[PI] at e1;cases he:UG s.H (r7 T ty) (lk s.env t) with
    |none=>rw[he] at e1;cases e1
    |some e=>
     rw[he] at e1;simp only[aBV,Option.map_some,aTE] at e1;subst e1;obtain⟨ad,v,hv,hl,hs⟩:=aLe hT hr.heap (hr.env t) he;exact⟨v,by simp only[JU,CU,hv,asAddr,aTV,aT7,aTO,hl],U6 hk hs⟩
  exact⟨v::vs,by simp only[List.mapM_cons,aTV,w1,aTO,v1,aT7],v,vs,rfl,w2,v2⟩
def M0 (tmps:Array Value):ResultVar->Sem Value
 | .tmp t=>pure (tmps.getD t undef)
 | .cell a t=>do loadVar t (<-asAddr (tmps.getD a undef))
theorem aLf {P:Program}{fn:Func}{w:World}{tmps:Array Value}{ts:List (Nat×Option TypeId)}(h:fn.results.toList=ts.map CU) {vs:List Value}(hv:(ts.mapM (JU tmps)).run P w= .ok vs w):(results fn tmps).run P w= .ok (a0f vs) w:=by
 obtain⟨rs,hrs⟩: ∃rs,fn.results=⟨rs⟩:=⟨fn.results.toList,rfl⟩;have hm:rs=ts.map CU:=by rw[hrs] at h;exact h
 have key:Sem.run P (((ts.map CU).toArray).mapM (M0 tmps)) w=Result.ok vs.toArray w:=by
  rw[List.mapM_toArray,List.mapM_map];have e:M0 tmps∘CU=JU tmps:=by
   funext q;obtain⟨t,o⟩:=q;cases o<;>rfl
  have e2:(fun q=>M0 tmps (CU q))=JU tmps:=e;show Sem.run P (List.mapM (fun q=>M0 tmps (CU q)) ts>>=fun l=>pure l.toArray) w=_;rw[e2,aTV,hv];rfl
 have hu:results fn tmps=(fn.results.mapM (M0 tmps) >>=fun vs=>pure (if h:vs.size=1 then vs[0] else .tuple vs)):=by
  unfold results;congr 2
 rw[hu,hrs,hm,aTV];have key2:Sem.run P (Array.mapM (M0 tmps) (⟨ts.map CU⟩:Array ResultVar)) w=Result.ok vs.toArray w:=key;rw[key2];simp only[aTO,aT7]
 match vs with
 |[]=>rfl
 |[v]=>rfl
 |v::u::l=>simp [a0f]
theorem aLg {P:Program}{T:rZ}(hT:wE P T) {f:FuncId}{fn:Func}{c:Code}{C:List pD->List pC->Option pJ}{ts:List (Nat×Option TypeId)}(hf:P.funcs[f]? =some fn) (hb:fn.body=some c) {N:Nat}(hN:fn.ntmps=N)
  (hcall: ∀args w,(callFunc f args).run P w= .ok (.enter f args) w) (hres:fn.results.toList=ts.map CU)
  (h: ∀args L r,C args L=some r->(∀p∈r.side,p)->qO L->args.length<=N/\PC (uR 0 L) args/\PD (uR 0 L) L/\Ev false P c ⟨qM 0 args,pN 0 L,pW L,N,pW L⟩ (aBW T ts r)):zO P f C:=by
 subst hN;refine⟨hcall,fun g w args vals L r hH ha hC hs=> ?_⟩;obtain⟨h1,h2,h3,h4⟩:=h args L r hC hs (aBH fun i b hb=>⟨i,hH.blk i b (by rw[xC];exact hb)⟩);obtain⟨hr,hent⟩:=a0g hH ha h2 h3 h1;have hsub: ∀b o,yW (tQ g 0 (uR 0 L)) (pN 0 L) b o->yW g (pN 0 L) b o:=fun b o ⟨i,blk,hg,ho⟩=>⟨i,blk,hg,(hent i blk (by rw[<-xC];exact hg)).2.2 b o ho⟩;have hgood:sB (yW (tQ g 0 (uR 0 L)) (pN 0 L)) L (tQ g 0 (uR 0 L)) w (tQ g 0 (uR 0 L)) w (pN 0 L):=by
  refine⟨fun b o h=>⟨h,rfl⟩,Fr.refl _ _ _,fun i blk b o hg ho=> .inr ⟨i,blk,hg,ho⟩,fun _ _ _ h=>h,fun i hi=> ?_,fun i u y us _ hg=>⟨y,us,by rw[<-xC];exact hg⟩,fun _ _ _ _ h=>h⟩;have hL:L[i]? =some L[i]:=by simp
  obtain⟨_,hbk,_⟩:=hent i L[i] hL;have hnd:=(JS h3 L[i] (aUB hi)).2;generalize L[i]=blk at hbk hnd;cases blk with
  |cells t x ts=>obtain⟨p,cs,hp,_⟩:=hbk;exact .inl ⟨p,hp⟩
  |grow e c n=>obtain⟨v,xs,hv,_⟩:=hbk;exact .inr ⟨n,v,hv⟩
  |row e t l n=>obtain⟨_,v,xs,hv,_⟩:=hbk;exact .inr ⟨n,v,hv⟩
  |map k v l=>obtain⟨p,es,cl,hp,_⟩:=hbk;exact .inl ⟨p,hp⟩
  |iter s n=>obtain⟨p,hp,_⟩:=hbk;exact .inl ⟨p,hp⟩
  |dead=>exact absurd rfl hnd
 refine callsIn_wide.1 (callsIn_of_wp_marks (F:=Fence.wide) (n:=0) hf hb trivial (aVj (h4 none rfl _ _ _ _ _ _ _ _ (aTZ _) hr hgood (UD L)) fun x a' w' hp=> ?_) rfl);obtain⟨e,g',s',e1,e2,e3,e4,e5⟩:=hp;have wA: ∀m:List (Nat×Nat),wQ s'.np m=true->DK (pW r.H) 0 (s'.keep ⟨[],m⟩).H=pN 0 r.H->HR T s' m ts=some r.ret->LeavesInM Fence.wide 0 P fn a'.tmps (fun e w'=> ∃v' g',e= .returned v'/\JN g w L r g' w' v') a'.defers .returning w':=by
  intro m hk k1 k2;refine aBM a'.defers w' e3 e4 (fun w1 e3 e4=> ?_);obtain⟨l1,l2,l3,_⟩:=ZQ e3 e4 e5 ⟨[],m⟩ hk;replace l2:=l2.pad (pW r.H) 0;rw[k1] at l2;obtain⟨vs,q1,q2⟩:=aBX hT hk e3 k2;have q3:=aLf (P:=P) (w:=w1) (tmps:=a'.tmps) hres q1;refine⟨_,q3,_,_,rfl,⟨fun b o hb=>l2.shut b o hb,by rw[<-k1];exact l1.heap.pad _ _,?_,?_,fun i blk b o hi ho=> ?_,fun i t x us hi=> ?_,fun i t x us u y vs hi hr=> ?_,fun i p hi hp=>l2.J i p hi ((AJ UB (LZ.2 ⟨rfl,aUC _,by omega⟩)).1.trans hp),fun i n u hi hu=>l2.cur i n u hi ((congrFun (AJ UB (LZ.2 ⟨rfl,aUC _,by omega⟩)).2 n).trans hu)⟩⟩
  ·unfold OW;split
   ·rename_i s hs;rw[hs] at q2;obtain⟨v,vs',hv,h5,h6⟩:=q2;rw[hv,show vs'=[] from h6];exact h5
   ·rename_i hne;refine⟨_,?_,q2⟩;unfold a0f;split
    ·rename_i v hv;exfalso;have:=(UC q2).1;cases hq:r.ret with
     |nil=>rw[hq] at this;simp at this
     |cons s l=>cases l with
      |nil=>exact hne s hq
      |cons _ _=>rw[hq] at this;simp at this
    ·rfl
  ·exact⟨l2.fr.os,l2.fr.tape,l2.fr.output,l2.fr.size,fun b hb hA=>l2.fr.blk b hb (fun o ho=>hA o (hsub b o ho)),fun b o hb hA=>l2.fr.cell b o hb (fun ho=>hA (hsub b o ho)),fun b o hS=>(l2.fr.new b o hS).imp id (Or.imp id (hsub b o)),fun b s hs=>(l2.fr.shape b s hs).imp id fun h o=>hsub b o (h o)⟩
  ·exact(l2.perm i blk b o (by rw[xC];exact hi) ho).imp id (hsub b o)
  ·obtain⟨j1,⟨p,cs,j2,_⟩,_⟩:=hent i _ hi;have hil:i<L.length:=(aTU.1 hi).1;rw[l2.J i p hil j2,<-j1,j2]
  ·have hil:i<L.length:=(aTU.1 hi).1;obtain⟨x',ts',h5⟩:=l2.ty i u y vs hil (by rw[xC];exact hr);rw[hi] at h5;simp only[aTE,pC.cells.injEq] at h5;exact h5.1.symm
 cases x<;>simp only[CT,aTE] at e1
 case normal=>subst e1;obtain⟨k,k0,k1,k2⟩:=e2;exact wA k k0 k1 k2
 case ret=>subst e1;obtain⟨k,k0,k1,k2⟩:=e2;exact wA k k0 k1 k2
 case exit id=>subst e1;exact e2.elim
 all_goals cases e1
open Classical in
noncomputable def qP {V:Type}(p:V->List pD) (q:V->List pC) (R:V->pJ) (a:List pD) (L:List pC):Option pJ:=
 if h: ∃v,p v=a/\q v=L then some (R h.choose) else none
theorem aLh {V:Type}{p:V->List pD}{q:V->List pC}{R:V->pJ}{a:List pD}{L:List pC}{r:pJ}(h:qP p q R a L=some r): ∃v,p v=a/\q v=L/\R v=r:=by
 unfold qP at h;split at h
 ·rename_i e;exact⟨e.choose,e.choose_spec.1,e.choose_spec.2,aTI h⟩
 ·cases h
theorem qQ {V:Type}{p:V->List pD}{q:V->List pC}{R:V->pJ}(inj: ∀v v',p v=p v'->q v=q v'->v=v') (v:V):qP p q R (p v) (q v)=some (R v):=by
 have h: ∃u,p u=p v/\q u=q v:=⟨v,rfl,rfl⟩;unfold qP;rw[aVS h,inj _ v h.choose_spec.1 h.choose_spec.2]
theorem aBY: ∀{l:List Prop},(∀p∈l,p)->qH l
 |[],_=>trivial
 |[p],h=>h p (by simp)
 |p::q::r,h=>⟨h p (by simp),aBY (l:=q::r) fun x hx=>h x (aTS _ hx)⟩
def qJ (P:Program) (x:Nat×qC):Prop:=zO P x.1 x.2.C/\∀F,x.2.row=some F->TQ P x.1 F
theorem qR {P:Program}{T:rZ}{Γ:tX}(hE:qG P T Γ) {f:FuncId}{fn:Func}{c:Code}{V:Type}{p:V->List pD}{q:V->List pC}{R:V->pJ}{ps:List PK}{gs:List (Nat×Nat×PK)}{same:List Nat}{ts:List (Nat×Option TypeId)}(hf:P.funcs[f]? =some fn) (hb:fn.body=some c) {N:Nat}(hN:fn.ntmps=N)
  (hres:fn.results.toList=ts.map CU) (hcall: ∀args w,(callFunc f args).run P w= .ok (.enter f args) w)
  (h: ∀v,qH (R v).side->qO (q v)->Ev false P c ⟨qM 0 (p v),pN 0 (q v),pW (q v),N,pW (q v)⟩ (aBW T ts (R v)))
  (h1: ∀v,Nat.ble (p v).length N=true:=by intro _;rfl)
  (h2: ∀v,PC (uR 0 (q v)) (p v):=by intro _;repeat (first|exact trivial|refine ⟨rfl,?_⟩))
  (h3: ∀v,PD (uR 0 (q v)) (q v):=by intro _;repeat (first|exact trivial|refine ⟨rfl,?_⟩)):qJ P (f,⟨ps,qP p q R,gs,same,none⟩):=
 ⟨aLg hE.T hf hb hN hcall hres fun args L r hC hs hr=>by
  obtain⟨v,rfl,rfl,rfl⟩:=aLh hC;exact⟨aVs (h1 v),h2 v,h3 v,h v (aBY hs) hr⟩,fun _ h=>by cases h⟩
abbrev pE (n:Int):Prop:= -9223372036854775808<=n/\n<=9223372036854775807
@[go_sem] def qE:List (Nat×qC)->tX
 |[],_=>none
 |(k,s)::r,f=>if k=f then some s else qE r f
theorem qS {P:Program}:DJ P (qE []):=fun _ _ h=>by cases h
theorem pM {P:Program}{x:Nat×qC}{r:List (Nat×qC)}(h:qJ P x) (hr:DJ P (qE r)):DJ P (qE (x::r)):=fun f s hs=>by
 obtain⟨k,y⟩:=x;simp only[qE] at hs;split at hs
 ·rename_i e;subst e;cases hs;exact h
 ·exact hr f s hs
section
variable {P:Program}{T:rZ}{Γ:tX}(E:qG P T Γ) {s:St}{Q:Ex->St->Prop}
include E
theorem pB {id:Nat}{ops:Array Oper}{a:vF}{y:Code}(hq:Ev R P y a.s Q) (h:vG T Γ ops.toList ops.toList (some ⟨s,[],[]⟩)=some a:=by simp only[go_sem];rfl) (hp:qH a.side:=by exact trivial):Ev R P (.seq (.region id ops false) y) s Q:=
 pP (aBS E h hp hq)
theorem xD {id:Nat}{ops:Array Oper}{a:vF}{y:Code}(hq:Ev R P y a.s Q) (h:vG T Γ ops.toList ops.toList (some ⟨s,[],[]⟩)=some a:=by simp only[go_sem];rfl) (hp:qH a.side:=by exact trivial) (hf:EP ops s.nb a.es.reverse=true:=by kernel_rfl):Ev R P (.seq (.region id ops true) y) s Q:=
 pP (aBT E h hf hp hq)
theorem qU {id:Nat}{ops:Array Oper}{a:vF}(hq:Q .normal a.s) (h:vG T Γ ops.toList ops.toList (some ⟨s,[],[]⟩)=some a:=by simp only[go_sem];rfl) (hp:qH a.side:=by exact trivial):Ev R P (.region id ops false) s Q:=
 aBS E h hp hq
theorem G5 {id:Nat}{ops:Array Oper}{a:vF}(hq:Q .normal a.s) (h:vG T Γ ops.toList ops.toList (some ⟨s,[],[]⟩)=some a:=by simp only[go_sem];rfl) (hp:qH a.side:=by exact trivial) (hf:EP ops s.nb a.es.reverse=true:=by kernel_rfl):Ev R P (.region id ops true) s Q:=
 aBT E h hf hp hq
end
theorem pO {P:Program}{s:St}{Q:Ex->St->Prop}{c:Operand}{x y:Code}{b b':Bool}{k:Option Nat}{ρ:Type}{X Y r:ρ}(hC:(if b'=true then X else Y)=r) (ht:X=r->b=true->Ev R P x s Q) (hf:Y=r->b=false->Ev R P y s Q)
  (h:sY s.env c=(.val .bool b,k):=by simp only[go_sem];rfl) (hb:b=b':=by first|rfl|simp):Ev R P (.cond c x y) s Q:=
 aK0 h (fun e=>ht (aLb hC (hb▸e)) e) (fun e=>hf (aLc hC (hb▸e)) e)
theorem pZ {σ ρ:Type}[Inhabited σ] {x:Option σ}{k:σ->Option ρ}{r:ρ}(h:x.bind k=some r): ∃y,x=some y/\val x=y/\k y=some r:=by
 obtain⟨y,h1,h2⟩:=pF h;exact⟨y,h1,r8 h1,h2⟩
attribute [go_sem] true_and and_true false_and and_false Nat.reduceMul List.nil_append List.cons_append List.append_nil List.toList_toArray Nat.reduceEqDiff reduceIte reduceDIte reduceCtorEq Nat.reduceAdd Nat.reduceSub Int.reduceToNat Nat.reduceLT Nat.reduceLeDiff decide_true decide_false Bool.and_self Bool.or_self Bool.or_false Bool.false_or Bool.and_true Bool.true_and Bool.not_true Bool.not_false
end Go.Proofs.YtbbpilohihldiaaGreatDoor.Vc
namespace Go.Proofs
open Go.RowKit Go.Lib
def Tryz.lays137_ren:Go.Shelf.Ren:=⟨fun|137=>135|217=>182|266=>222|n=>n,fun|9=>9|5=>5|3=>3|n=>n,fun|n=>n⟩
theorem Tryz.lays137:Go.Proofs.Lays.n137 Tryz.prog Tryz.lays137_ren:={
 mixed:=by kernel_rfl
 f137:=Tryz.func135.trans (aUi some (by kernel_rfl))
 f217:=Tryz.func182.trans (aUi some (by kernel_rfl))
 f266:=Tryz.func222.trans (aUi some (by kernel_rfl))
 t3:=Tryz.underlying3
 a3:=Tryz.isAgg3
 z3:=Tryz.sizeOf3
 v3:=Tryz.zeroValue3
 t5:=Tryz.underlying5
 a5:=Tryz.isAgg5
 z5:=Tryz.sizeOf5
 v5:=Tryz.zeroValue5
 t9:=Tryz.underlying9
 a9:=Tryz.isAgg9
 z9:=Tryz.sizeOf9
 v9:=Tryz.zeroValue9}
def Tryz.lays190_ren:Go.Shelf.Ren:=⟨fun|190=>147|125=>192|258=>191|128=>234|129=>235|302=>225|303=>226|304=>227|305=>228|306=>229|307=>230|308=>231|309=>232|310=>233|333=>261|329=>262|330=>263|334=>264|335=>265|336=>266|344=>279|n=>n,fun|31=>23|9=>9|3=>3|46=>219|0=>0|51=>241|53=>243|4=>4|183=>235|182=>234|131=>57|5=>5|218=>258|222=>262|228=>272|229=>224|n=>n,fun|n=>n⟩
theorem Tryz.lays190:Go.Proofs.Lays.n190 Tryz.prog Tryz.lays190_ren:={
 mixed:=by kernel_rfl
 f125:=Tryz.func192.trans (aUi some (by kernel_rfl))
 f128:=Tryz.func234.trans (aUi some (by kernel_rfl))
 f129:=Tryz.func235.trans (aUi some (by kernel_rfl))
 f190:=Tryz.func147.trans (aUi some (by kernel_rfl))
 f258:=Tryz.func191.trans (aUi some (by kernel_rfl))
 f302:=Tryz.func225.trans (aUi some (by kernel_rfl))
 f303:=Tryz.func226.trans (aUi some (by kernel_rfl))
 f304:=Tryz.func227.trans (aUi some (by kernel_rfl))
 f305:=Tryz.func228.trans (aUi some (by kernel_rfl))
 f306:=Tryz.func229.trans (aUi some (by kernel_rfl))
 f307:=Tryz.func230.trans (aUi some (by kernel_rfl))
 f308:=Tryz.func231.trans (aUi some (by kernel_rfl))
 f309:=Tryz.func232.trans (aUi some (by kernel_rfl))
 f310:=Tryz.func233.trans (aUi some (by kernel_rfl))
 f329:=Tryz.func262.trans (aUi some (by kernel_rfl))
 f330:=Tryz.func263.trans (aUi some (by kernel_rfl))
 f333:=Tryz.func261.trans (aUi some (by kernel_rfl))
 f334:=Tryz.func264.trans (aUi some (by kernel_rfl))
 f335:=Tryz.func265.trans (aUi some (by kernel_rfl))
 f336:=Tryz.func266.trans (aUi some (by kernel_rfl))
 f344:=Tryz.func279.trans (aUi some (by kernel_rfl))
 t0:=Tryz.underlying0
 a0:=Tryz.isAgg0
 z0:=Tryz.sizeOf0
 v0:=Tryz.zeroValue0
 t3:=Tryz.underlying3
 a3:=Tryz.isAgg3
 z3:=Tryz.sizeOf3
 v3:=Tryz.zeroValue3
 t4:=Tryz.underlying4
 a4:=Tryz.isAgg4
 z4:=Tryz.sizeOf4
 v4:=Tryz.zeroValue4
 t5:=Tryz.underlying5
 a5:=Tryz.isAgg5
 z5:=Tryz.sizeOf5
 v5:=Tryz.zeroValue5
 t9:=Tryz.underlying9
 a9:=Tryz.isAgg9
 z9:=Tryz.sizeOf9
 v9:=Tryz.zeroValue9
 t31:=Tryz.underlying23
 a31:=Tryz.isAgg23
 z31:=Tryz.sizeOf23
 v31:=Tryz.zeroValue23
 t46:=Tryz.underlying219
 a46:=Tryz.isAgg219
 z46:=Tryz.sizeOf219
 v46:=Tryz.zeroValue219
 t51:=Tryz.underlying241
 a51:=Tryz.isAgg241
 z51:=Tryz.sizeOf241
 v51:=Tryz.zeroValue241
 t53:=Tryz.underlying243
 a53:=Tryz.isAgg243
 z53:=Tryz.sizeOf243
 v53:=Tryz.zeroValue243
 t131:=Tryz.underlying57
 a131:=Tryz.isAgg57
 z131:=Tryz.sizeOf57
 v131:=Tryz.zeroValue57
 t182:=Tryz.underlying234
 a182:=Tryz.isAgg234
 z182:=Tryz.sizeOf234
 v182:=Tryz.zeroValue234
 t183:=Tryz.underlying235
 a183:=Tryz.isAgg235
 z183:=Tryz.sizeOf235
 v183:=Tryz.zeroValue235
 t218:=Tryz.underlying258
 a218:=Tryz.isAgg258
 z218:=Tryz.sizeOf258
 v218:=Tryz.zeroValue258
 t222:=Tryz.underlying262
 a222:=Tryz.isAgg262
 z222:=Tryz.sizeOf262
 v222:=Tryz.zeroValue262
 t228:=Tryz.underlying272
 a228:=Tryz.isAgg272
 z228:=Tryz.sizeOf272
 v228:=Tryz.zeroValue272
 t229:=Tryz.underlying224
 a229:=Tryz.isAgg224
 z229:=Tryz.sizeOf224
 v229:=Tryz.zeroValue224}
def Tryz.lays196_ren:Go.Shelf.Ren:=⟨fun|196=>243|259=>271|n=>n,fun|0=>0|3=>3|4=>4|5=>5|9=>9|12=>12|46=>219|53=>243|119=>254|138=>256|139=>257|n=>n,fun|3=>1|4=>2|n=>n⟩
theorem Tryz.lays196:Go.Proofs.Lays.n196 Tryz.prog Tryz.lays196_ren:={
 mixed:=by kernel_rfl
 f196:=Tryz.func243.trans (aUi some (by kernel_rfl))
 f259:=Tryz.func271.trans (aUi some (by kernel_rfl))
 t0:=Tryz.underlying0
 a0:=Tryz.isAgg0
 z0:=Tryz.sizeOf0
 v0:=Tryz.zeroValue0
 t3:=Tryz.underlying3
 a3:=Tryz.isAgg3
 z3:=Tryz.sizeOf3
 v3:=Tryz.zeroValue3
 t4:=Tryz.underlying4
 a4:=Tryz.isAgg4
 z4:=Tryz.sizeOf4
 v4:=Tryz.zeroValue4
 t5:=Tryz.underlying5
 a5:=Tryz.isAgg5
 z5:=Tryz.sizeOf5
 v5:=Tryz.zeroValue5
 t9:=Tryz.underlying9
 a9:=Tryz.isAgg9
 z9:=Tryz.sizeOf9
 v9:=Tryz.zeroValue9
 t12:=Tryz.underlying12
 a12:=Tryz.isAgg12
 z12:=Tryz.sizeOf12
 v12:=Tryz.zeroValue12
 t46:=Tryz.underlying219
 a46:=Tryz.isAgg219
 z46:=Tryz.sizeOf219
 v46:=Tryz.zeroValue219
 t53:=Tryz.underlying243
 a53:=Tryz.isAgg243
 z53:=Tryz.sizeOf243
 v53:=Tryz.zeroValue243
 t119:=Tryz.underlying254
 a119:=Tryz.isAgg254
 z119:=Tryz.sizeOf254
 t138:=Tryz.underlying256
 a138:=Tryz.isAgg256
 z138:=Tryz.sizeOf256
 v138:=Tryz.zeroValue256
 t139:=Tryz.underlying257
 a139:=Tryz.isAgg257
 z139:=Tryz.sizeOf257
 v139:=Tryz.zeroValue257
 g3:=by kernel_rfl
 g4:=by kernel_rfl}
def Tryz.lays143_ren:Go.Shelf.Ren:=⟨fun|143=>173|219=>208|217=>182|225=>248|224=>249|267=>250|266=>222|314=>276|n=>n,fun|9=>9|3=>3|4=>4|5=>5|46=>219|146=>270|51=>241|n=>n,fun|1=>0|n=>n⟩
theorem Tryz.lays143:Go.Proofs.Lays.n143 Tryz.prog Tryz.lays143_ren:={
 mixed:=by kernel_rfl
 f143:=Tryz.func173.trans (aUi some (by kernel_rfl))
 f217:=Tryz.func182.trans (aUi some (by kernel_rfl))
 f219:=Tryz.func208.trans (aUi some (by kernel_rfl))
 f224:=Tryz.func249.trans (aUi some (by kernel_rfl))
 f225:=Tryz.func248.trans (aUi some (by kernel_rfl))
 f266:=Tryz.func222.trans (aUi some (by kernel_rfl))
 f267:=Tryz.func250.trans (aUi some (by kernel_rfl))
 f314:=Tryz.func276.trans (aUi some (by kernel_rfl))
 t3:=Tryz.underlying3
 a3:=Tryz.isAgg3
 z3:=Tryz.sizeOf3
 v3:=Tryz.zeroValue3
 t4:=Tryz.underlying4
 a4:=Tryz.isAgg4
 z4:=Tryz.sizeOf4
 v4:=Tryz.zeroValue4
 t5:=Tryz.underlying5
 a5:=Tryz.isAgg5
 z5:=Tryz.sizeOf5
 v5:=Tryz.zeroValue5
 t9:=Tryz.underlying9
 a9:=Tryz.isAgg9
 z9:=Tryz.sizeOf9
 v9:=Tryz.zeroValue9
 t46:=Tryz.underlying219
 a46:=Tryz.isAgg219
 z46:=Tryz.sizeOf219
 v46:=Tryz.zeroValue219
 t51:=Tryz.underlying241
 a51:=Tryz.isAgg241
 z51:=Tryz.sizeOf241
 v51:=Tryz.zeroValue241
 t146:=Tryz.underlying270
 a146:=Tryz.isAgg270
 z146:=Tryz.sizeOf270
 v146:=Tryz.zeroValue270
 g1:=by kernel_rfl}
def Tryz.lays240_ren:Go.Shelf.Ren:=⟨fun|240=>93|276=>133|n=>n,fun|0=>0|4=>4|9=>9|20=>20|70=>82|72=>84|164=>168|37=>42|n=>n,fun|n=>n⟩
theorem Tryz.lays240:Go.Proofs.Lays.n240 Tryz.prog Tryz.lays240_ren:={
 mixed:=by kernel_rfl
 f240:=Tryz.func93.trans (aUi some (by kernel_rfl))
 f276:=Tryz.func133.trans (aUi some (by kernel_rfl))
 t0:=Tryz.underlying0
 a0:=Tryz.isAgg0
 z0:=Tryz.sizeOf0
 v0:=Tryz.zeroValue0
 t4:=Tryz.underlying4
 a4:=Tryz.isAgg4
 z4:=Tryz.sizeOf4
 v4:=Tryz.zeroValue4
 t9:=Tryz.underlying9
 a9:=Tryz.isAgg9
 z9:=Tryz.sizeOf9
 v9:=Tryz.zeroValue9
 t20:=Tryz.underlying20
 a20:=Tryz.isAgg20
 z20:=Tryz.sizeOf20
 v20:=Tryz.zeroValue20
 t70:=Tryz.underlying82
 a70:=Tryz.isAgg82
 z70:=Tryz.sizeOf82
 v70:=Tryz.zeroValue82
 t72:=Tryz.underlying84
 a72:=Tryz.isAgg84
 z72:=Tryz.sizeOf84
 v72:=Tryz.zeroValue84
 t164:=Tryz.underlying168
 a164:=Tryz.isAgg168
 z164:=Tryz.sizeOf168
 v164:=Tryz.zeroValue168}
theorem Tryz.builderX72:Builder.X72 Tryz.prog Tryz.lays240_ren:={
 sizeBuilder:=by kernel_rfl
 liesBuilder:=by kernel_rfl}
def Tryz.lays169_ren:Go.Shelf.Ren:=⟨fun|169=>54|n=>n,fun|70=>82|9=>9|0=>0|72=>84|37=>42|127=>125|3=>3|5=>5|n=>n,fun|n=>n⟩
theorem Tryz.lays169:Go.Proofs.Lays.n169 Tryz.prog Tryz.lays169_ren:={
 mixed:=by kernel_rfl
 f169:=Tryz.func54.trans (aUi some (by kernel_rfl))
 t0:=Tryz.underlying0
 a0:=Tryz.isAgg0
 z0:=Tryz.sizeOf0
 v0:=Tryz.zeroValue0
 t3:=Tryz.underlying3
 a3:=Tryz.isAgg3
 z3:=Tryz.sizeOf3
 v3:=Tryz.zeroValue3
 t9:=Tryz.underlying9
 a9:=Tryz.isAgg9
 z9:=Tryz.sizeOf9
 v9:=Tryz.zeroValue9
 t37:=Tryz.underlying42
 a37:=Tryz.isAgg42
 z37:=Tryz.sizeOf42
 v37:=Tryz.zeroValue42
 t70:=Tryz.underlying82
 a70:=Tryz.isAgg82
 z70:=Tryz.sizeOf82
 v70:=Tryz.zeroValue82
 t72:=Tryz.underlying84
 a72:=Tryz.isAgg84
 z72:=Tryz.sizeOf84
 v72:=Tryz.zeroValue84
 t127:=Tryz.underlying125
 a127:=Tryz.isAgg125
 z127:=Tryz.sizeOf125
 v127:=Tryz.zeroValue125}
theorem Tryz.builderExtra:Builder.Extra Tryz.prog Tryz.lays169_ren:={
 sizeBuilder:=by kernel_rfl
 liesBuilder:=by kernel_rfl
 t5:=Tryz.underlying5
 a5:=Tryz.isAgg5
 z5:=Tryz.sizeOf5
 v5:=Tryz.zeroValue5
 infoByte:=by kernel_rfl
 cellsByte:=by kernel_rfl
 sizeByte:=by kernel_rfl
 neB5:=by decide}
end Go.Proofs
namespace Go.Proofs.YtbbpilohihldiaaGreatDoor
open Vc Go.RowKit
theorem aLi {g:Gh}{w w':World}(hH:rT g w (pN 0 [])) (hb:Below w.heap.size w w'):rT g w' (pN 0 []):=
 ⟨fun _ _ h=>(by cases h),fun _ _ _ _ _ _ _ h=>(by cases h),fun b o h=>aUj (hH.sl b o h) hb.size,⟨NX hH.tab.1 hb.size fun b h=>hb.block b (aUj h hH.tab.1.1),fun _ _ _ _ h=>(by cases h)⟩⟩
theorem M1 {P:Program}{f:FuncId}{C:List pD->List pC->Option pJ}(hen: ∀args w,(callFunc f args).run P w= .ok (.enter f args) w)
  (h: ∀(g:Gh) (w:World) (args:List pD) (vals:List Value) (L:List pC) (r:pJ),J3 w->uP g w args vals->C args L=some r->(∀p∈r.side,p)->
   L=[]/\r.H=[]/\Calls P f vals.toArray w (fun e w'=> ∃v,e= .returned v/\Below w.heap.size w w'/\OW g w' r.ret v)):zO P f C:=by
 refine⟨hen,fun g w args vals L r hH ha hC hs=> ?_⟩;obtain⟨rfl,hr,hc⟩:=h g w args vals L r hH.tab.1 ha hC hs;refine hc.mono fun e w' ⟨v,he,hb,hv⟩=>⟨v,g,he,⟨fun b o h=>⟨h,hb.cell (p:=⟨b,o,none⟩) (hH.sl b o h)⟩,by rw[hr];exact aLi hH hb,hv,⟨hb.os,hb.tape,hb.output,hb.size,fun b h _=>hb.block b h,fun b o h _=>⟨hb.cell (p:=⟨b,o,none⟩) h,hb.frozen (p:=⟨b,o,none⟩) h⟩,fun b o h=> .inl h,fun b s h=> .inl ((DF (hb.block b (DE h))).trans h)⟩,(fun i blk b o h=>by rw[hr] at h;cases h),(fun i t x ts h=>by cases h),(fun i t x ts u y us h=>by cases h),(fun _ _ _ h=>h),(fun _ _ _ _ h=>h)⟩⟩
theorem aBZ {P:Program}{f:FuncId}{vals:Array Value}{w:World}{Q:Ending->Prop}(h:Calls P f vals w fun e w'=>Q e/\w'=w):Calls P f vals w fun e w'=>Q e/\Below w.heap.size w w':=
 h.mono fun e w' ⟨h1,h2⟩=>⟨h1,by rw[h2];exact Below.refl _ _⟩
def tK (s:List UInt8) (c:Int):Int:=Lib.indexByte s (Int.toNat c).toUInt8
@[go_sem] def a0p:List pD->List pC->Option pJ
 |[(.val .str O,none),(.val (.int .u8) Z,none)],[]=>some ⟨[],[(.val (.int .i64) (tK O Z),none)],[]⟩
 |_,_=>none
theorem aLj:zO Tryz.prog 135 a0p:=by
 refine M1 (fun _ _=>rfl) fun g w args vals L r hT ha hC hs=> ?_;unfold a0p at hC;split at hC
 ·rename_i s c;cases hC;obtain⟨va,_,rfl,ra,vb,_,rfl,rb,hv⟩:=ha;obtain rfl:=yB ra.1;obtain rfl:=v7 rb.1;cases hv;exact⟨rfl,rfl,(aBZ (Any.strings_IndexByte Tryz.lays137 ⟨List.toArray s⟩ c w)).mono fun e w' ⟨he,hb⟩=>⟨_,he,hb,vO _ _ _ _,trivial⟩⟩
 ·cases hC
@[go_sem] def a0q:List pD->List pC->Option pJ
 |[(.val .str O,none)],[]=>some ⟨[List.length O<=9223372036854775807],[(.val .bool (Lib.validD O),none)],[]⟩
 |_,_=>none
theorem aLk:zO Tryz.prog 243 a0q:=by
 refine M1 (fun _ _=>rfl) fun g w args vals L r hT ha hC hs=> ?_;unfold a0q at hC;split at hC
 ·rename_i s;cases hC;have h1:=hs _ aT1;obtain⟨va,_,rfl,ra,hv⟩:=ha;obtain rfl:=yB ra.1;cases hv;exact⟨rfl,rfl,(Any.utf8_ValidString Tryz.lays196 ⟨List.toArray s⟩ w h1 hT.2.1).mono fun e w' ⟨he,hb⟩=>⟨_,he,hb,vP _ _ _,trivial⟩⟩
 ·cases hC
end Go.Proofs.YtbbpilohihldiaaGreatDoor
