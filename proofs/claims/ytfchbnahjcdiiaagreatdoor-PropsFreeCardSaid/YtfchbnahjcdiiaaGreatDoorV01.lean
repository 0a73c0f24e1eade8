/- Packed by a program of mine (wip/tools/pack.py): the same texts with short names and few blanks. -/
import Derived.ChangeKeysEq
import Derived.KernelRfl
import Derived.Laws.BytesArg
import Derived.Laws.StructEq
import Derived.Lib.AppendStr
import Derived.OrdersIn
import Derived.RangeFuncLeaves
import Derived.RangeFuncNested
import Derived.Scope
import Derived.WalkSpells
import Derived.Test.YtfchbnahjcdiiaaGreatDoorV00
set_option linter.unusedVariables false
set_option linter.unusedSimpArgs false
set_option linter.unusedSectionVars false
namespace Go.Proofs.YtfchbnahjcdiiaaGreatDoor.Vc
open Go.RowKit
set_option linter.unusedSectionVars false
def sS (g:Gh):Option Whence→Option Pl
 |some (.box i _ _ _ o)=>(g.J i).map fun p=>⟨p.1,p.2+o,p.3⟩
 |some (.tok k)=>g.J k
 |none=>none
def xV (g:Gh):Option Whence→Nat→Option Value
 |some (.tok k),n=>g.cur k n
 |_,_=>none
def canGh (g:Gh) (ws:List Whence):Gh:=⟨g.S,fun c=>sS g ws[c]?,fun c n=>xV g ws[c]? n⟩
def WOk0 (H:Heap) (ws:List Whence):Whence→Blk→Prop
 | .box i u x toks o,.cells t y ts=>getH H i=some (.cells u x toks)∧pA t u x o=some y∧∀q n,(q,n)∈ts→∃k,ws[n]? =some (.tok k)∧tQ toks (o+q)=some k∧q<t.cells
 | .tok k,.grow e c m=>getH H k=some (.grow e c m)
 | .tok k,.map s t l=>getH H k=some (.map s t l)∧s.pure=true∧t.pure=true
 | .tok k,.row e t l n=>getH H k=some (.row e t l n)∧t.pure=true
 |_,_=>False
structure Matched0 (H:Heap) (ws:List Whence) (L:List Blk):Prop where
 len:ws.length=L.length
 ok: ∀(c:Nat) wh b,ws[c]? =some wh→L[c]? =some b→WOk0 H ws wh b
 nodup:(wsIds ws).Nodup
def T2 (ws:List Whence) (t:Ty) (x y:t.den):Prop:=(t.pure=true∧y=x)∨yV ws t x=some y
def WOk (H:Heap) (ws:List Whence):Whence→Blk→Prop
 | .box i u x toks o,.cells t y ts=>getH H i=some (.cells u x toks)∧(∃y0,pA t u x o=some y0∧T2 ws t y0 y)∧∀q n,(q,n)∈ts→∃k,ws[n]? =some (.tok k)∧tQ toks (o+q)=some k∧q<t.cells
 | .tok k,.grow e c m=>getH H k=some (.grow e c m)
 | .tok k,.map s t l=>getH H k=some (.map s t l)∧s.pure=true∧t.pure=true
 | .tok k,.row e t l n=>getH H k=some (.row e t l n)∧t.pure=true
 |_,_=>False
theorem ND {i o:Nat}: ∀{ws:List Whence}{c0:Nat}{c q:Nat},BC i o ws c0=some (c,q)→∃d u x toks oc,c=c0+d∧ws[d]? =some (.box i u x toks oc)∧o=oc+q
 |[],_,_,_,h=>by simp [BC] at h
 | .box j u x toks oc::r,c0,c,q,h=>by
  simp only[BC] at h
  split at h
  ·rename_i hc
   simp only[Option.some.injEq,Prod.mk.injEq] at h
   obtain⟨rfl,rfl⟩:=h
   obtain⟨rfl,h2⟩:=hc
   exact⟨0,u,x,toks,oc,rfl,rfl,by omega⟩
  ·obtain⟨d,u',x',toks',oc',h1,h2,h3⟩:=ND h
   exact⟨d+1,u',x',toks',oc',by omega,by simpa using h2,h3⟩
 | .tok k::r,c0,c,q,h=>by
  simp only[BC] at h
  obtain⟨d,u',x',toks',oc',h1,h2,h3⟩:=ND h
  exact⟨d+1,u',x',toks',oc',by omega,by simpa using h2,h3⟩
theorem GD {i:Nat}: ∀{ws:List Whence}{c0 c:Nat},sV i ws c0=some c→∃d,c=c0+d∧ws[d]? =some (.tok i)
 |[],_,_,h=>by simp [sV] at h
 | .tok j::r,c0,c,h=>by
  simp only[sV] at h
  split at h
  ·rename_i hc
   simp only[Option.some.injEq] at h
   subst h
   subst hc
   exact⟨0,rfl,rfl⟩
  ·obtain⟨d,h1,h2⟩:=GD h
   exact⟨d+1,by omega,by simpa using h2⟩
 | .box _ _ _ _ _::r,c0,c,h=>by
  simp only[sV] at h
  obtain⟨d,h1,h2⟩:=GD h
  exact⟨d+1,by omega,by simpa using h2⟩
theorem T3 {α β:Type}{a:Option α}{b:Option β}{p:α×β}(h:DY a b=some p):a=some p.1∧b=some p.2:=by
 cases a<;>cases b<;>simp [DY] at h
 subst h
 exact⟨rfl,rfl⟩
theorem aAk {x y:Option (Nat×List (Nat×Nat))}(h:IF x=some y):y=x∧∀f l,x=some (f,l)→l=[]:=by
 unfold IF at h
 split at h
 ·cases h;exact⟨rfl,fun _ _ h=>by cases h⟩
 ·cases h;exact⟨rfl,fun _ _ h=>by cases h;rfl⟩
 ·cases h
theorem aAl {g g':Gh}{x:Option (Nat×List (Nat×Nat))}{cs:List Value}(hx: ∀f l,x=some (f,l)→l=[]) (h:IZ g x cs):IZ g' x cs:=by
 cases x with
 |none=>exact h
 |some q=>
  obtain⟨f,l⟩:=q
  obtain rfl:=hx f l rfl
  exact h
theorem NE {g g':Gh}{w:World}(hS:g'.S=g.S) (f:(t:Ty)→t.den→Option t.den)
  (hp: ∀a b x,f (.pair a b) x=DY (if a.pure=true then some x.1 else f a x.1) (if b.pure=true then some x.2 else f b x.2))
  (hl: ∀t x,f (.list t) x=if t.pure=true then some x else none) (hb: ∀x,f .bool x=some x) (hi: ∀k x,f (.int k) x=some x) (hs: ∀x,f .str x=some x) (hu: ∀x,f .unit x=some x) (hfn: ∀x,f .fn x=some x) (hrl: ∀e t x y cs,f (.rl e t) x=some y→CR g x cs→CR g' y cs) (hmr: ∀x y cs,f .mref x=some y→J0 g x cs→J0 g' y cs)
  (hr: ∀x y cs,f .ref x=some y→IY g x cs→IY g' y cs) (hm: ∀x y cs,f .mp x=some y→G6 g x cs→G6 g' y cs) (hc: ∀x,f .clo x=IF x):
  ∀{t:Ty}{x y:t.den}{cs:List Value},Rd g w t x cs→f t x=some y→Rd g' w t y cs
 | .bool,_,_,_,r,h=>by rw[hb] at h;cases h;exact r
 | .int _,_,_,_,r,h=>by rw[hi] at h;cases h;exact r
 | .str,_,_,_,r,h=>by rw[hs] at h;cases h;exact r
 | .unit,_,_,_,r,h=>by rw[hu] at h;cases h;exact r
 | .rl e t,x,y,_,r,h=>hrl e t x y _ h r
 | .fn,_,_,_,r,h=>by rw[hfn] at h;cases h;exact r
 | .mref,x,y,_,r,h=>hmr x y _ h r
 | .list t,x,y,_,r,h=>by
  rw[hl] at h
  split at h
  ·rename_i hpu
   cases h
   exact sN hS (t:= .list t) (by simpa[Ty.pure] using hpu) r
  ·cases h
 | .ref,x,y,_,r,h=>hr x y _ h r
 | .clo,x,y,_,r,h=>by
  rw[hc] at h
  obtain⟨rfl,h2⟩:=aAk h
  exact aAl h2 r
 | .mp,x,y,_,r,h=>hm x y _ h r
 | .pair a b,x,y,_,⟨c1,c2,e,r1,r2⟩,h=>by
  rw[hp] at h
  obtain⟨h1,h2⟩:=T3 h
  refine⟨c1,c2,e,?_,?_⟩
  ·split at h1
   ·rename_i hpu;exact(Option.some.inj h1)▸sN hS hpu r1
   ·exact NE hS f hp hl hb hi hs hu hfn hrl hmr hr hm hc r1 h1
  ·split at h2
   ·rename_i hpu;exact(Option.some.inj h2)▸sN hS hpu r2
   ·exact NE hS f hp hl hb hi hs hu hfn hrl hmr hr hm hc r2 h2
theorem T4 (f:(t:Ty)→t.den→Option t.den)
  (hp: ∀a b x,f (.pair a b) x=DY (if a.pure=true then some x.1 else f a x.1) (if b.pure=true then some x.2 else f b x.2))
  (hl: ∀t x,f (.list t) x=if t.pure=true then some x else none) {u:Ty}: ∀{t:Ty}{x y:t.den}{o:Nat}{l:List u.den},f t x=some y→pA (.list u) t x o=some l→pA (.list u) t y o=some l:=by
 intro t
 induction t with
 |pair a b iha ihb=>
  intro x y o l h hg
  rw[hp] at h
  obtain⟨h1,h2⟩:=T3 h
  have key: ∀z:(Ty.pair a b).den,∀q,pA (.list u) (.pair a b) z q=if q<a.cells then pA (.list u) a z.1 q else pA (.list u) b z.2 (q-a.cells):=by
   intro z q
   cases q with
   |zero=>
    conv=>lhs;unfold pA
    rw[dif_neg (by intro e;cases e),Nat.zero_sub]
   |succ q=>simp [pA]
  rw[key] at hg⊢
  split
  ·rename_i ho
   rw[if_pos ho] at hg
   split at h1
   ·rw[←Option.some.inj h1];exact hg
   ·exact iha h1 hg
  ·rename_i ho
   rw[if_neg ho] at hg
   split at h2
   ·rw[←Option.some.inj h2];exact hg
   ·exact ihb h2 hg
 |list v=>
  intro x y o l h hg
  rw[hl] at h
  split at h
  ·cases h;exact hg
  ·cases h
 |_=>
  intro x y o l h hg
  cases o with
  |zero=>
   unfold pA at hg
   split at hg
   ·rename_i e;cases e
   ·cases hg
  |succ o=>simp [pA] at hg
theorem aAm {g:Gh}{w:World}{ws:List Whence}{t:Ty}{x y:t.den}{cs:List Value}(r:Rd g w t x cs) (h:yV ws t x=some y):Rd (canGh g ws) w t y cs:=by
 refine NE (g:=g) (g':=canGh g ws) rfl (yV ws) (fun a b x=>rfl) (fun t x=>rfl) (fun _=>rfl) (fun _ _=>rfl) (fun _=>rfl) (fun _=>rfl) (fun _=>rfl) (fun _ _ x y cs h r=> ?_) (fun x y cs h r=> ?_) (fun x y cs h r=> ?_) (fun x y cs h r=> ?_) (fun _=>rfl) r h
 ·cases x with
  |none=>cases h;exact r
  |some q=>
   obtain⟨k,n⟩:=q
   simp only[yV,a1K] at h
   cases hc:sV k ws 0 with
   |none=>rw[hc] at h;cases h
   |some c=>
    rw[hc] at h
    cases h
    obtain⟨d,rfl,h2⟩:=GD hc
    obtain⟨v,hv,hs⟩:=r
    refine⟨v,?_,hs⟩
    show xV g ws[0+d]? n=_
    rw[Nat.zero_add,h2]
    exact hv
 ·cases x with
  |none=>cases h;exact r
  |some q=>
   obtain⟨i,o⟩:=q
   simp only[yV,LT] at h
   cases hc:BC i o ws 0 with
   |none=>rw[hc] at h;cases h
   |some q=>
    obtain⟨c,q⟩:=q
    rw[hc] at h
    cases h
    obtain⟨d,u,x,toks,oc,rfl,h2,rfl⟩:=ND hc
    obtain⟨p,hp,hv⟩:=r
    refine⟨⟨p.1,p.2+oc,p.3⟩,?_,by have:=hv.1;rwa [←Nat.add_assoc] at this,hv.2.imp id fun hv=>by rw[hv];simp [Nat.add_assoc]⟩
    show sS g ws[0+d]? =_
    rw[Nat.zero_add,h2]
    simp [sS,hp]
 ·cases x with
  |none=>cases h;exact r
  |some q=>
   obtain⟨i,o⟩:=q
   simp only[yV,LT] at h
   cases hc:BC i o ws 0 with
   |none=>rw[hc] at h;cases h
   |some q=>
    obtain⟨c,q⟩:=q
    rw[hc] at h
    cases h
    obtain⟨d,u,x,toks,oc,rfl,h2,rfl⟩:=ND hc
    obtain⟨p,hp,hv⟩:=r
    refine⟨⟨p.1,p.2+oc,p.3⟩,?_,by rw[hv];simp [Nat.add_assoc]⟩
    show sS g ws[0+d]? =_
    rw[Nat.zero_add,h2]
    simp [sS,hp]
 ·cases x with
  |none=>cases h;exact r
  |some i=>
   simp only[yV,a1J] at h
   cases hc:sV i ws 0 with
   |none=>rw[hc] at h;cases h
   |some c=>
    rw[hc] at h
    cases h
    obtain⟨d,rfl,h2⟩:=GD hc
    obtain⟨p,hp,hv⟩:=r
    refine⟨p,?_,hv⟩
    show sS g ws[0+d]? =_
    rw[Nat.zero_add,h2]
    exact hp
theorem aAn {g:Gh}{w:World}{ws:List Whence}{t:Ty}{x y:t.den}{cs:List Value}(h:T2 ws t x y) (r:Rd g w t x cs):Rd (canGh g ws) w t y cs:=by
 rcases h with⟨hp,rfl⟩ |h
 ·exact sN (g:=g) (g':=canGh g ws) rfl hp r
 ·exact aAm r h
theorem aAo {ws:List Whence}{t u:Ty}{x y:t.den}{o:Nat}{l:List u.den}(h:T2 ws t x y) (hg:pA (.list u) t x o=some l):pA (.list u) t y o=some l:=by
 rcases h with⟨_,rfl⟩ |h
 ·exact hg
 ·exact T4 (yV ws) (fun _ _ _=>rfl) (fun _ _=>rfl) h hg
structure Matched (H:Heap) (ws:List Whence) (L:List Blk):Prop where
 len:ws.length=L.length
 ok: ∀(c:Nat) wh b,ws[c]? =some wh→L[c]? =some b→WOk H ws wh b
 nodup:(wsIds ws).Nodup
theorem T5: ∀(ws:List Whence) (c:Nat),(wsIds ws)[c]? =(ws[c]?).map Whence.id
 |[],c=>by simp [wsIds]
 |w::ws,0=>rfl
 |w::ws,c+1=>by simpa[wsIds] using T5 ws c
theorem CU: ∀ws ws':List Whence,wsIds (ws++ws')=wsIds ws++wsIds ws'
 |[],_=>rfl
 |w::ws,ws'=>by simp [wsIds,CU ws ws']
theorem EI: ∀{i:Nat}{l:List Nat},yU i l=true↔i∈l
 |i,[]=>by simp [yU]
 |i,j::r=>by
  simp only[yU,List.mem_cons]
  by_cases h:i=j
  ·simp [h]
  ·rw[if_neg h,EI];simp [h]
theorem NF {ws:List Whence}(h:(wsIds ws).Nodup) {c c':Nat}{x y:Whence}(hx:ws[c]? =some x) (hy:ws[c']? =some y) (he:x.id=y.id):c=c':=by
 have h1:(wsIds ws)[c]? =some x.id:=by rw[T5,hx];rfl
 have h2:(wsIds ws)[c']? =some x.id:=by rw[T5,hy,he];rfl
 obtain⟨l1,e1⟩:=List.getElem?_eq_some_iff.1 h1
 obtain⟨l2,e2⟩:=List.getElem?_eq_some_iff.1 h2
 have hp:=List.pairwise_iff_getElem.1 h
 rcases Nat.lt_trichotomy c c' with h3|h3|h3
 ·exact absurd (e1.trans e2.symm) (hp c c' l1 l2 h3)
 ·exact h3
 ·exact absurd (e2.trans e1.symm) (hp c' c l2 l1 h3)
theorem a3g: ∀{toks:List (Nat×Nat)}{q k:Nat},tQ toks q=some k→(q,k)∈toks
 |[],_,_,h=>by simp [tQ] at h
 |(q',k')::r,q,k,h=>by
  simp only[tQ] at h
  split at h
  ·rename_i e
   subst e
   simp only[Option.some.injEq] at h
   subst h
   simp
  ·exact List.mem_cons_of_mem _ (a3g h)
theorem aAp {v t:Ty}: ∀{u:Ty}{x:u.den}{o q:Nat}{y:t.den}{l:(Ty.list v).den},pA t u x o=some y→pA (.list v) u x (o+q)=some l→q<t.cells→pA (.list v) t y q=some l:=by
 intro u
 induction u with
 |pair a b iha ihb=>
  intro x o q y l h g hq
  by_cases hu:o=0∧t= .pair a b
  ·obtain⟨rfl,rfl⟩:=hu
   unfold pA at h
   rw[dif_pos rfl] at h
   simp only[rL,Option.some.injEq] at h
   subst h
   simpa using g
  ·have keyh:(if o<a.cells then pA t a x.1 o else pA t b x.2 (o-a.cells))=some y:=by
    cases o with
    |zero=>
     unfold pA at h
     rw[dif_neg (fun e=>hu ⟨rfl,e.symm⟩)] at h
     simpa using h
    |succ o=>simpa[pA] using h
   have keyg: ∀z,pA (.list v) (.pair a b) x z=(if z<a.cells then pA (.list v) a x.1 z else pA (.list v) b x.2 (z-a.cells)):=by
    intro z
    cases z with
    |zero=>
     conv=>lhs;unfold pA
     rw[dif_neg (by intro e;cases e),Nat.zero_sub]
    |succ z=>simp [pA]
   rw[keyg] at g
   by_cases ho:o<a.cells
   ·rw[if_pos ho] at keyh
    have hfit:o+t.cells≤a.cells:=by
     have: ∀{u:Ty}{x:u.den}{o:Nat}{y:t.den},pA t u x o=some y→o+t.cells≤u.cells:=by
      intro u
      induction u with
      |pair a b iha ihb=>
       intro x o y h
       have key: ∀o,(if o<a.cells then pA t a x.1 o else pA t b x.2 (o-a.cells))=some y→o+t.cells≤a.cells+b.cells:=by
        intro o h
        by_cases ho:o<a.cells
        ·rw[if_pos ho] at h;have:=iha h;omega
        ·rw[if_neg ho] at h;have:=ihb h;omega
       cases o with
       |zero=>
        unfold pA at h
        split at h
        ·rename_i e;subst e;simp
        ·exact key 0 (by simpa using h)
       |succ o=>exact key (o+1) (by simpa[pA] using h)
      |_=>
       intro x o y h
       cases o with
       |zero=>
        unfold pA at h
        split at h
        ·rename_i e;subst e;simp
        ·simp at h
       |succ o=>simp [pA] at h
     exact this keyh
    rw[if_pos (by omega)] at g
    exact iha keyh g hq
   ·rw[if_neg ho] at keyh
    rw[if_neg (by omega),show o+q-a.cells=o-a.cells+q from by omega] at g
    exact ihb keyh g hq
 |_=>
  intro x o q y l h g hq
  cases o with
  |zero=>
   unfold pA at h
   split at h
   ·rename_i e
    subst e
    simp only[rL,Option.some.injEq] at h
    try subst h
    simpa using g
   ·simp at h
  |succ o=>simp [pA] at h
theorem aAq {g:Gh}{w:World}{H:Heap}{ws:List Whence}{L:List Blk}(hH:HeapOk g w H) (hm:Matched H ws L):HeapOk (canGh g ws) w (enumH 0 L):=by
 have wsL: ∀c b,getH (enumH 0 L) c=some b→∃wh,ws[c]? =some wh∧WOk H ws wh b:=by
  intro c b h
  rw[uK] at h
  have hlt:c<ws.length:=hm.len▸(List.getElem?_eq_some_iff.1 h).1
  exact⟨ws[c],List.getElem?_eq_getElem hlt,hm.ok c _ b (List.getElem?_eq_getElem hlt) h⟩
 have own: ∀c b wh,ws[c]? =some wh→WOk H ws wh b→∀bb oo,owns (canGh g ws) c b bb oo→∃blk,getH H wh.id=some blk∧owns g wh.id blk bb oo:=by
  intro c b wh hwh hw bb oo ho
  cases wh with
  |box i u x toks off=>
   cases b with
   |cells t y ts=>
    obtain⟨h1,⟨y0,h2,h3⟩,h4⟩:=hw
    obtain⟨p,hp,e1,e2,e3⟩:=ho
    have hp':sS g ws[c]? =some p:=hp
    rw[hwh] at hp'
    obtain⟨p0,hp0,rfl⟩:=Option.map_eq_some_iff.1 hp'
    obtain⟨p1,cs,hp1,hR,_⟩:=hH.blk i _ h1
    obtain⟨c1,c2,c3,hcs,hl,hR2⟩:=AD hR h2
    have l1:=q8 hR
    have l2:=q8 hR2
    rw[hcs] at l1
    simp only[List.length_append] at l1
    exact⟨_,h1,p0,hp0,e1,by simp at e2;omega,by simp at e3;omega⟩
   |_=>exact hw.elim
  |tok k=>
   cases b with
   |grow e cc m=>
    obtain⟨v,hv,hb⟩:=ho
    have hv':xV g ws[c]? m=some v:=hv
    rw[hwh] at hv'
    exact⟨_,hw,v,hv',hb⟩
   |map s t l=>
    obtain⟨p,hp,hb⟩:=ho
    have hp':sS g ws[c]? =some p:=hp
    rw[hwh] at hp'
    exact⟨_,hw.1,p,hp',hb⟩
   |row e t l m=>
    obtain⟨v,hv,hb⟩:=ho
    have hv':xV g ws[c]? m=some v:=hv
    rw[hwh] at hv'
    exact⟨_,hw.1,v,hv',hb⟩
   |_=>exact hw.elim
 refine⟨fun c b h=> ?_,fun c c' b b' bb oo hne h1 h2 o1 o2=> ?_,hH.sl,hH.tab.1,fun c b bb oo h ho=> ?_⟩
 rotate_right
 ·obtain⟨wh,hwh,hw⟩:=wsL c b h
  obtain⟨k1,g1,p1⟩:=own c b wh hwh hw bb oo ho
  exact hH.tab.2 _ _ bb oo g1 p1
 ·obtain⟨wh,hwh,hw⟩:=wsL c b h
  cases wh with
  |box i u x toks off=>
   cases b with
   |cells t y ts=>
    obtain⟨h1,⟨y0,h2,h3⟩,h4⟩:=hw
    obtain⟨p,cs,hp,hR,hra,hth,hns,htk⟩:=hH.blk i _ h1
    obtain⟨c1,c2,c3,rfl,rfl,hR2⟩:=AD hR h2
    have l1:=q8 hR
    have l2:=q8 hR2
    simp only[List.length_append] at l1
    refine⟨⟨p.1,p.2+c1.length,p.3⟩,c2,?_,aAn h3 hR2,fun j v hv=> ?_,⟨fun j hj=> ?_,fun h0 s hs=>hth.2 (by omega) s hs⟩,fun j hj hs=> ?_,fun q n hm'=> ?_⟩
    ·show sS g ws[c]? =_
     rw[hwh]
     simp [sS,hp]
    ·have:=hra (c1.length+j) v (by
      have hj':=(List.getElem?_eq_some_iff.1 hv).1
      rw[List.append_assoc,List.getElem?_append_right (by omega),Nat.add_sub_cancel_left,List.getElem?_append_left hj'];exact hv)
     rw[Nat.add_assoc];exact this
    ·have:=hth.1 (c1.length+j) (by omega)
     rw[Nat.add_assoc];exact this
    ·exact hns (c1.length+j) (by omega) (by rw[←Nat.add_assoc];exact hs)
    ·obtain⟨k,k1,k2,k3⟩:=h4 q n hm'
     have hmem:(c1.length+q,k)∈toks:=a3g k2
     obtain⟨u',l,v,g1,g2,g3⟩:=htk _ _ hmem
     refine⟨u',l,v,aAo h3 (aAp h2 g1 k3),?_,?_⟩
     ·rw[List.append_assoc,List.getElem?_append_right (by omega),Nat.add_sub_cancel_left,List.getElem?_append_left (by omega)] at g2
      exact g2
     ·show xV g ws[n]? _=_
      rw[k1]
      exact g3
   |_=>exact hw.elim
  |tok k=>
   cases b with
   |grow e cc m=>
    have e1:(canGh g ws).cur c=g.cur k:=by
     funext n
     show xV g ws[c]? n=_
     rw[hwh];rfl
    obtain⟨v,xs,hv,hr,hn,hs⟩:=hH.blk k _ hw
    exact⟨v,xs,by rw[e1];exact hv,hr,fun m hm'=>by rw[e1];exact hn m hm',hs⟩
   |map s t l=>
    obtain⟨p,es,cl,hp,hp0,hh,hM,hS⟩:=hH.blk k _ hw.1
    refine⟨p,es,cl,?_,hp0,hh,J1 (g:=g) (g':=canGh g ws) rfl hw.2.1 hw.2.2 hM,hS⟩
    show sS g ws[c]? =_
    rw[hwh]
    exact hp
   |row e t l m=>
    have e1:(canGh g ws).cur c=g.cur k:=by
     funext n
     show xV g ws[c]? n=_
     rw[hwh];rfl
    obtain⟨hl,v,xs,hv,hr,hF,hn,hs⟩:=hH.blk k _ hw.1
    exact⟨hl,v,xs,by rw[e1];exact hv,hr,yX (fun _ _ h=>sN (g:=g) (g':=canGh g ws) rfl hw.2 h) hF,fun m hm'=>by rw[e1];exact hn m hm',hs⟩
   |_=>exact hw.elim
 ·obtain⟨wh,hwh,hw⟩:=wsL c b h1
  obtain⟨wh',hwh',hw'⟩:=wsL c' b' h2
  obtain⟨k1,g1,p1⟩:=own c b wh hwh hw bb oo o1
  obtain⟨k2,g2,p2⟩:=own c' b' wh' hwh' hw' bb oo o2
  exact hH.dis wh.id wh'.id k1 k2 bb oo (fun e=>hne (NF hm.nodup hwh hwh' e)) g1 g2 p1 p2
end Go.Proofs.YtfchbnahjcdiiaaGreatDoor.Vc
namespace Go.Proofs.YtfchbnahjcdiiaaGreatDoor.Vc
open Go.RowKit
set_option linter.unusedSectionVars false
theorem a3h {H:Heap}{ws more:List Whence}: ∀{wh:Whence}{b:Blk},WOk0 H ws wh b→WOk0 H (ws++more) wh b
 | .box _ _ _ _ _,.cells _ _ _,⟨h1,h2,h4⟩=>⟨h1,h2,fun q n h=>let ⟨k,k1,k2⟩:=h4 q n h;⟨k,by rw[List.getElem?_append_left (List.getElem?_eq_some_iff.1 k1).1];exact k1,k2⟩⟩
 | .box _ _ _ _ _,.grow _ _ _,h=>h.elim
 | .box _ _ _ _ _,.dead,h=>h.elim
 | .box _ _ _ _ _,.row _ _ _ _,h=>h.elim
 | .box _ _ _ _ _,.map _ _ _,h=>h.elim
 | .box _ _ _ _ _,.iter _ _,h=>h.elim
 | .tok _,.iter _ _,h=>h.elim
 | .tok _,.row _ _ _ _,h=>h
 | .tok _,.grow _ _ _,h=>h
 | .tok _,.map _ _ _,h=>h
 | .tok _,.cells _ _ _,h=>h.elim
 | .tok _,.dead,h=>h.elim
theorem GE (g:Gh) (w:World) (ws more:List Whence):Le (canGh g ws) w (canGh g (ws++more)) w:=by
 refine⟨fun _ _ h=>h,fun _ _ _=>rfl,fun c p h=> ?_,fun c n v h=> ?_⟩
 ·have h':sS g ws[c]? =some p:=h
  show sS g (ws++more)[c]? =some p
  cases hc:ws[c]? with
  |none=>rw[hc] at h';cases h'
  |some wh=>rw[List.getElem?_append_left (List.getElem?_eq_some_iff.1 hc).1];exact h'
 ·have h':xV g ws[c]? n=some v:=h
  show xV g (ws++more)[c]? n=some v
  cases hc:ws[c]? with
  |none=>rw[hc] at h';cases h'
  |some wh=>rw[List.getElem?_append_left (List.getElem?_eq_some_iff.1 hc).1];exact h'
theorem GF {g g':Gh}{w w':World}(h:Le g w g' w'): ∀{ss:List Slot}{vs:List Value},ArgsOk g w ss vs→ArgsOk g' w' ss vs
 |[],_,r=>r
 |_::_,_,⟨v,vs',e,r1,r2⟩=>⟨v,vs',e,xT h r1,GF h r2⟩
theorem CV {g:Gh}{w:World}: ∀{ss:List Slot}{vs:List Value}{s:Slot}{v:Value},ArgsOk g w ss vs→RdS g w s v→ArgsOk g w (ss++[s]) (vs++[v])
 |[],_,_,_,h,k=>by rw[show _=[] from h];exact⟨_,_,rfl,k,rfl⟩
 |_::_,_,_,_,⟨v,vs',e,r1,r2⟩,k=>⟨v,vs'++_,by rw[e];rfl,r1,CV r2 k⟩
theorem Matched0.tok {H:Heap}{ws:List Whence}{L:List Blk}(h:Matched0 H ws L) {k:Nat}{b0:Blk}(hk:WOk0 H (ws++[.tok k]) (.tok k) b0) (hn:k∉wsIds ws):Matched0 H (ws++[.tok k]) (L++[b0]):=by
 refine⟨by simp [h.len],fun i wh b h1 h2=> ?_,?_⟩
 ·by_cases hi:i<ws.length
  ·rw[List.getElem?_append_left hi] at h1
   rw[List.getElem?_append_left (h.len▸hi)] at h2
   exact a3h (h.ok i wh b h1 h2)
  ·rw[List.getElem?_append_right (by omega)] at h1
   rw[List.getElem?_append_right (by rw[←h.len];omega),←h.len] at h2
   obtain⟨d,hd⟩: ∃d,i-ws.length=d:=⟨_,rfl⟩
   rw[hd] at h1 h2
   cases d with
   |zero=>
    simp only[List.getElem?_cons_zero,Option.some.injEq] at h1 h2
    subst h1
    subst h2
    exact hk
   |succ d=>simp at h1
 ·rw[CU]
  exact List.nodup_append.2 ⟨h.nodup,by simp [wsIds],fun a ha b hb=>by
   simp only[wsIds,Whence.id,List.mem_singleton] at hb
   subst hb
   intro e
   exact hn (e▸ha)⟩
theorem a3i: ∀{os:List Nat}{n q m:Nat},(q,m)∈DW os n→∃j:Nat,os[j]? =some q∧m=n+j
 |[],_,_,_,h=>by simp [DW] at h
 |q'::os,n,q,m,h=>by
  simp only[DW,List.mem_cons,Prod.mk.injEq] at h
  rcases h with⟨rfl,rfl⟩ |h
  ·exact⟨0,rfl,rfl⟩
  ·obtain⟨j,h1,h2⟩:=a3i h
   exact⟨j+1,by simpa using h1,by omega⟩
theorem a3j {n:Nat}: ∀{os:List Nat}{j q:Nat},FP n os=true→os[j]? =some q→q<n
 |[],_,_,_,h=>by simp at h
 |q'::os,0,q,h,h2=>by
  simp only[FP,Bool.and_eq_true,decide_eq_true_eq] at h
  simp only[List.getElem?_cons_zero,Option.some.injEq] at h2
  exact h2▸h.1
 |q'::os,j+1,q,h,h2=>by
  simp only[FP,Bool.and_eq_true] at h
  exact a3j h.2 (by simpa using h2)
theorem NH {H:Heap}{toks:List (Nat×Nat)}{o:Nat}: ∀{os:List Nat}{a a':Pass},uW H toks o os (some a)=some a'→
  ∃(ks:List Nat) (bs:List Blk),ks.length=os.length∧bs.length=os.length∧a'.args=a.args∧a'.H.reverse=a.H.reverse++bs∧a'.ws.reverse=a.ws.reverse++ks.map Whence.tok∧a'.n=a.n+os.length∧
   (∀(j:Nat) q k,os[j]? =some q→ks[j]? =some k→tQ toks (o+q)=some k)∧(∀(j:Nat) k b,ks[j]? =some k→bs[j]? =some b→getH H k=some b∧∃e c m,b= .grow e c m)∧(∀k∈ks,k∉wsIds a.ws.reverse)∧ks.Nodup
 |[],a,a',h=>by
  simp only[uW,Option.some.injEq] at h
  subst h
  exact⟨[],[],rfl,rfl,rfl,by simp,by simp,rfl,by simp,by simp,by simp,by simp⟩
 |q::os,a,a',h=>by
  simp only[uW] at h
  have none_no: ∀os,uW H toks o os none=none:=by
   intro os
   induction os with
   |nil=>rfl
   |cons q os ih=>
    have:vQ H (tQ toks (o+q)) none=none:=by
     cases tQ toks (o+q) with
     |none=>rfl
     |some k=>simp only[vQ];cases getH H k with
      |none=>rfl
      |some b=>cases b<;>rfl
    simp only[uW,this,ih]
  cases hk:tQ toks (o+q) with
  |none=>rw[hk] at h;simp only[vQ,none_no] at h;cases h
  |some k=>
   rw[hk] at h
   simp only[vQ] at h
   cases hb:getH H k with
   |none=>rw[hb] at h;simp only[yA,none_no] at h;cases h
   |some b=>
    rw[hb] at h
    cases b with
    |grow e c m=>
     simp only[yA] at h
     by_cases hm:yU k (wsIds a.ws)=true
     ·rw[if_pos hm,none_no] at h;cases h
     ·rw[if_neg hm] at h
      obtain⟨ks,bs,h1,h2,h3,h4,h5,h6,h7,h8,h9,h10⟩:=NH h
      simp only[List.reverse_cons] at h4 h5 h9
      have hrev: ∀ws:List Whence,∀i,i∈wsIds ws.reverse↔i∈wsIds ws:=by
       intro ws i
       induction ws with
       |nil=>simp
       |cons x r ih=>rw[List.reverse_cons,CU];simp [wsIds,ih,or_comm]
      refine⟨k::ks,.grow e c m::bs,by simp [h1],by simp [h2],h3,by rw[h4];simp,by rw[h5];simp,by rw[h6];simp;omega,fun j q' k'=> ?_,fun j k' b'=> ?_,fun k' hk'=> ?_,?_⟩
      ·cases j with
       |zero=>intro e1 e2;simp only[List.getElem?_cons_zero,Option.some.injEq] at e1 e2;subst e1;subst e2;exact hk
       |succ j=>intro e1 e2;exact h7 j q' k' (by simpa using e1) (by simpa using e2)
      ·cases j with
       |zero=>intro e1 e2;simp only[List.getElem?_cons_zero,Option.some.injEq] at e1 e2;subst e1;subst e2;exact⟨hb,_,_,_,rfl⟩
       |succ j=>intro e1 e2;exact h8 j k' b' (by simpa using e1) (by simpa using e2)
      ·rcases List.mem_cons.1 hk' with rfl|hk'
       ·rw[hrev];exact fun hmem=>hm (EI.2 hmem)
       ·intro hmem
        exact h9 k' hk' (by rw[CU];exact List.mem_append_left _ hmem)
      ·refine List.nodup_cons.2 ⟨fun hmem=>h9 k hmem (by rw[CU];simp [wsIds,Whence.id]),h10⟩
    |cells t y ts=>simp only[yA,none_no] at h;cases h
    |row=>simp only[yA,none_no] at h;cases h
    |map=>simp only[yA,none_no] at h;cases h
    |iter=>simp only[yA,none_no] at h;cases h
    |dead=>simp only[yA,none_no] at h;cases h
theorem a3k: ∀ks:List Nat,wsIds (ks.map Whence.tok)=ks
 |[]=>rfl
 |k::ks=>by simp [wsIds,Whence.id,a3k ks]
theorem Matched0.box {H:Heap}{ws:List Whence}{L:List Blk}(h:Matched0 H ws L) {t u:Ty}{x:u.den}{y:t.den}{toks:List (Nat×Nat)}{i o:Nat}{os ks:List Nat}{bs:List Blk}(hi:getH H i=some (.cells u x toks)) (hy:pA t u x o=some y) (hlt:FP t.cells os=true) (hn:i∉wsIds ws)
  (h1:ks.length=os.length) (h2:bs.length=os.length) (h7: ∀(j:Nat) q k,os[j]? =some q→ks[j]? =some k→tQ toks (o+q)=some k) (h8: ∀(j:Nat) k b,ks[j]? =some k→bs[j]? =some b→getH H k=some b∧∃e c m,b= .grow e c m) (h9: ∀k∈ks,k∉wsIds (ws++[.box i u x toks o])) (h10:ks.Nodup):
  Matched0 H ((ws++[.box i u x toks o])++ks.map Whence.tok) ((L++[.cells t y (DW os (ws.length+1))])++bs):=by
 have hlen1:(ws++[Whence.box i u x toks o]).length=ws.length+1:=by simp
 have hlen2:(L++[Blk.cells t y (DW os (ws.length+1))]).length=ws.length+1:=by simp [h.len]
 refine⟨by simp [h.len,h1,h2],fun c wh b e1 e2=> ?_,?_⟩
 ·by_cases hc:c<ws.length
  ·rw[List.getElem?_append_left (by omega),List.getElem?_append_left hc] at e1
   rw[List.getElem?_append_left (by omega),List.getElem?_append_left (h.len▸hc)] at e2
   rw[List.append_assoc]
   exact a3h (h.ok c wh b e1 e2)
  ·by_cases hc2:c=ws.length
   ·subst hc2
    rw[List.getElem?_append_left (by omega),List.getElem?_append_right (Nat.le_refl _),Nat.sub_self] at e1
    rw[List.getElem?_append_left (by omega),List.getElem?_append_right (by rw[h.len];exact Nat.le_refl _),h.len,Nat.sub_self] at e2
    simp only[List.getElem?_cons_zero,Option.some.injEq] at e1 e2
    subst e1
    subst e2
    refine⟨hi,hy,fun q n hm=> ?_⟩
    rw[←h.len] at hm
    obtain⟨j,hj,rfl⟩:=a3i hm
    have hjl:j<ks.length:=by rw[h1];exact(List.getElem?_eq_some_iff.1 hj).1
    refine⟨ks[j],?_,h7 j q _ hj (List.getElem?_eq_getElem hjl),a3j hlt hj⟩
    rw[List.getElem?_append_right (by omega),hlen1,show ws.length+1+j- (ws.length+1)=j from by omega]
    simp [hjl]
   ·rw[List.getElem?_append_right (by omega),hlen1] at e1
    rw[List.getElem?_append_right (by omega),hlen2] at e2
    rw[List.getElem?_map] at e1
    obtain⟨k,hk,rfl⟩:=Option.map_eq_some_iff.1 e1
    obtain⟨hg,e,cc,m,rfl⟩:=h8 _ k b hk e2
    exact hg
 ·rw[CU,a3k]
  refine List.nodup_append.2 ⟨?_,h10,fun a ha b hb e=>h9 b hb (e▸ha)⟩
  rw[CU]
  exact List.nodup_append.2 ⟨h.nodup,by simp [wsIds],fun a ha b hb=>by
   simp only[wsIds,Whence.id,List.mem_singleton] at hb
   subst hb
   intro e
   exact hn (e▸ha)⟩
theorem NI (ws:List Whence) (i:Nat):i∈wsIds ws.reverse↔i∈wsIds ws:=by
 induction ws with
 |nil=>simp
 |cons x r ih=>rw[List.reverse_cons,CU];simp [wsIds,ih,or_comm]
structure PassOk (g:Gh) (w:World) (H:Heap) (vals:List Value) (a:Pass):Prop where
 n:a.n=a.ws.reverse.length
 m:Matched0 H a.ws.reverse a.H.reverse
 args:ArgsOk (canGh g a.ws.reverse) w a.args.reverse vals
theorem aAr {g:Gh}{w:World}{ws:List Whence}{t:Ty}(hp:t.pure=true) {x:t.den}{v:Value}{k:Option Nat}(h:RdS g w (.val t x,k) v):RdS (canGh g ws) w (.val t x,none) v:=
 ⟨h.1.imp (fun⟨a,cs,e,q⟩=>⟨a,cs,e,sN (g:=g) (g':=canGh g ws) rfl hp q⟩) (fun⟨a,q⟩=>⟨a,sN (g:=g) (g':=canGh g ws) rfl hp q⟩),trivial⟩
theorem aAs {H:Heap}{k:Option Nat}{a b:Pass}{l m:List Slot}(h:vQ H k (some ⟨l,a.H,a.ws,a.n⟩)=some b):b.args=l∧vQ H k (some ⟨m,a.H,a.ws,a.n⟩)=some ⟨m,b.H,b.ws,b.n⟩:=by
 cases k with
 |none=>cases h
 |some k=>
  simp only[vQ] at h⊢
  cases hb:getH H k with
  |none=>rw[hb] at h;simp [yA] at h
  |some bl=>
   rw[hb] at h
   cases bl with
   |grow e c n=>
    simp only[yA] at h⊢
    split at h
    ·cases h
    ·rename_i hc
     rw[if_neg hc]
     cases h
     exact⟨rfl,rfl⟩
   |_=>simp [yA] at h
theorem a3l {H:Heap}{toks:List (Nat×Nat)}{o:Nat}{m:List Slot}: ∀{os:List Nat}{a b:Pass},uW H toks o os (some a)=some b→b.args=a.args∧uW H toks o os (some ⟨m,a.H,a.ws,a.n⟩)=some ⟨m,b.H,b.ws,b.n⟩
 |[],a,b,h=>by simp only[uW,Option.some.injEq] at h;subst h;exact⟨rfl,rfl⟩
 |q::os,a,b,h=>by
  simp only[uW] at h⊢
  have none_no: ∀os,uW H toks o os none=none:=by
   intro os
   induction os with
   |nil=>rfl
   |cons q os ih=>
    have:vQ H (tQ toks (o+q)) none=none:=by
     cases tQ toks (o+q) with
     |none=>rfl
     |some k=>simp only[vQ];cases getH H k with
      |none=>rfl
      |some b=>cases b<;>rfl
    simp only[uW,this,ih]
  cases hm:vQ H (tQ toks (o+q)) (some a) with
  |none=>rw[hm,none_no] at h;cases h
  |some c=>
   rw[hm] at h
   obtain⟨h1,h2⟩:=aAs (a:=a) (l:=a.args) (m:=m) hm
   obtain⟨h3,h4⟩:=a3l (m:=m) h
   rw[h2]
   exact⟨h3.trans h1,h4⟩
theorem aAt {H:Heap}{t:Ty}{os:List Nat}{i o:Nat}{a b:Pass}{m:List Slot}(h:sM H t os i o a (getH H i)=some b):sM H t os i o ⟨m,a.H,a.ws,a.n⟩ (getH H i)=some ⟨(.val .ref (some (a.n,0)),none)::m,b.H,b.ws,b.n⟩:=by
 cases hb:getH H i with
 |none=>rw[hb] at h;simp [sM] at h
 |some bl=>
  rw[hb] at h
  cases bl with
  |cells u x toks=>
   simp only[sM] at h⊢
   cases hy:pA t u x o with
   |none=>rw[hy] at h;simp [A7] at h
   |some y=>
    rw[hy] at h
    simp only[A7] at h⊢
    split at h
    ·rename_i hc
     rw[if_pos hc]
     exact(a3l (m:=(.val .ref (some (a.n,0)),none)::m) h).2
    ·cases h
  |_=>simp [sM] at h
theorem a3m {g:Gh}{i o:Nat}{p:Pl}{v:Value}: ∀{l:List (Nat×Nat)}{vs:List Value},uJ g l vs→g.J i=some p→v= .pointer (some ⟨p.1,p.2+o,none⟩)→uJ g (l++[(i,o)]) (vs++[v])
 |[],vs,h,hp,hv=>by rw[show vs=[] from h];exact⟨p,[],hp,by rw[hv];rfl,rfl⟩
 |(_,_)::l,vs,⟨q,vs',h1,h2,h3⟩,hp,hv=>⟨q,vs'++[v],h1,by rw[h2];rfl,a3m h3 hp hv⟩
theorem a3n {α:Type}: ∀(l acc:List α),vP l acc=l.reverse++acc
 |[],_=>rfl
 |x::l,acc=>by simp [vP,a3n l]
theorem a3o {g:Gh}{w:World}{H:Heap}(hH:HeapOk g w H) {t:Ty}{os:List Nat}{i o:Nat}{vals:List Value}{a a':Pass}(ha:PassOk g w H vals a) {p:Pl}(hp:g.J i=some p) (h:sM H t os i o a (getH H i)=some a'):
  PassOk g w H vals ⟨a.args,a'.H,a'.ws,a'.n⟩∧∃more,a'.ws.reverse=a.ws.reverse++more∧a'.args=(.val .ref (some (a.n,0)),none)::a.args∧(canGh g a'.ws.reverse).J a.n=some ⟨p.1,p.2+o,p.3⟩:=by
 cases hb:getH H i with
 |none=>rw[hb] at h;simp [sM] at h
 |some b=>
  rw[hb] at h
  cases b with
  |cells u x toks=>
   simp only[sM] at h
   cases hy:pA t u x o with
   |none=>rw[hy] at h;simp [A7] at h
   |some y=>
    rw[hy] at h
    simp only[A7] at h
    split at h
    ·rename_i hc
     simp only[Bool.and_eq_true,Bool.not_eq_true'] at hc
     obtain⟨ks,bs,h1,h2,h3,h4,h5,h6,h7,h8,h9,h10⟩:=NH h
     simp only[List.reverse_cons] at h3 h4 h5 h6 h9
     have hnm:i∉wsIds a.ws.reverse:=fun hmem=>by
      have:=EI.2 ((NI _ _).1 hmem)
      rw[hc.2] at this;cases this
     have e5:a'.ws.reverse=a.ws.reverse++([Whence.box i u x toks o]++ks.map Whence.tok):=by rw[h5];simp only[List.append_assoc]
     refine⟨⟨by rw[h6];simp only;rw[h5,ha.n];simp [h1];omega,?_,?_⟩,_,e5,h3,?_⟩
     ·simp only
      rw[h4,h5,ha.n]
      exact ha.m.box hb hy hc.1 hnm h1 h2 h7 h8 h9 h10
     ·simp only
      rw[e5]
      exact GF (GE g w _ _) ha.args
     ·show sS g a'.ws.reverse[a.n]? =_
      rw[e5,ha.n,List.getElem?_append_right (Nat.le_refl _),Nat.sub_self]
      show (g.J i).map _=_
      rw[hp];rfl
    ·cases h
  |grow=>simp [sM] at h
  |row=>simp [sM] at h
  |map=>simp [sM] at h
  |iter=>simp [sM] at h
  |dead=>simp [sM] at h
theorem a3p {H:Heap}{f:FuncId}{args0:List Slot}: ∀{ks:List (Ty×List Nat)}{cs ids:List (Nat×Nat)}{a a':Pass},tZ H f args0 ks cs ids (some a)=some a'→∃s more,a'.args=s::args0∧a'.ws.reverse=a.ws.reverse++more
 |[],[],ids,a,a',h=>by
  simp only[tZ,Option.some.injEq] at h
  subst h
  exact⟨_,[],rfl,by simp⟩
 |[],_::_,_,_,_,h=>by simp [tZ] at h
 |_::_,[],_,_,_,h=>by simp [tZ] at h
 |(t,os)::ks,(i,o)::cs,ids,a,a',h=>by
  simp only[tZ] at h
  cases hb:sM H t os i o a (getH H i) with
  |none=>rw[hb] at h;cases ks<;>cases cs<;>simp [tZ] at h
  |some b=>
   rw[hb] at h
   obtain⟨s,more,h1,h2⟩:=a3p h
   obtain⟨more0,h3⟩: ∃more0,b.ws.reverse=a.ws.reverse++more0:=by
    unfold sM at hb
    split at hb
    ·unfold A7 at hb
     split at hb
     ·split at hb
      ·obtain⟨ks,bs,_,_,_,_,h5,_⟩:=NH hb
       exact⟨_,by rw[h5];simp only[List.reverse_cons];exact List.append_assoc ..⟩
      ·cases hb
     ·cases hb
    ·cases hb
   exact⟨s,more0++more,h1,by rw[h2,h3,List.append_assoc]⟩
theorem a3q {g:Gh}{w:World}{H:Heap}(hH:HeapOk g w H) {f:FuncId}{args0:List Slot}{vals:List Value}: ∀{ks:List (Ty×List Nat)}{cs:List (Nat×Nat)}{ids:List (Nat×Nat)}{vs us:List Value}{a a':Pass},PassOk g w H vals ⟨args0,a.H,a.ws,a.n⟩→
  uJ g cs vs→uJ (canGh g a.ws.reverse) ids.reverse us→tZ H f args0 ks cs ids (some a)=some a'→
  PassOk g w H vals ⟨args0,a'.H,a'.ws,a'.n⟩∧∃ids',a'.args=(.val .clo (some (f,ids')),none)::args0∧(∃more,a'.ws.reverse=a.ws.reverse++more)∧uJ (canGh g a'.ws.reverse) ids' (us++vs)
 |[],[],ids,vs,us,a,a',ha,hv,hu,h=>by
  simp only[tZ,a3n,List.append_nil,Option.some.injEq] at h
  subst h
  rw[show vs=[] from hv,List.append_nil]
  exact⟨ha,_,rfl,⟨[],by simp⟩,hu⟩
 |[],_::_,_,_,_,_,_,_,_,_,h=>by simp [tZ] at h
 |_::_,[],_,_,_,_,_,_,_,_,h=>by simp [tZ] at h
 |(t,os)::ks,(i,o)::cs,ids,vs,us,a,a',ha,⟨p,vs',hp,hv1,hv2⟩,hu,h=>by
  simp only[tZ] at h
  cases hb:sM H t os i o a (getH H i) with
  |none=>rw[hb] at h;cases ks<;>cases cs<;>simp [tZ] at h
  |some b=>
   rw[hb] at h
   have hb':sM H t os i o ⟨args0,a.H,a.ws,a.n⟩ (getH H i)=some ⟨(.val .ref (some (a.n,0)),none)::args0,b.H,b.ws,b.n⟩:=aAt hb
   obtain⟨q1,more,q2,q3,q4⟩:=a3o hH ha hp hb'
   simp only at q1 q2 q3 q4
   have hmono:=GE g w a.ws.reverse more
   rw[←q2] at hmono
   have hu2:uJ (canGh g b.ws.reverse) ((a.n,0)::ids).reverse (us++[.pointer (some ⟨p.1,p.2+o,none⟩)]):=by
    simp only[List.reverse_cons]
    exact a3m (S7 hmono.J hu) q4 (by simp)
   obtain⟨z1,ids',z2,⟨more',z3⟩,z4⟩:=a3q hH (a:=b) q1 hv2 hu2 h
   refine⟨z1,ids',z2,⟨more++more',by rw[z3,q2,List.append_assoc]⟩,?_⟩
   rw[hv1]
   rw[List.append_assoc] at z4
   exact z4
theorem a3r {g:Gh}{w:World}{H:Heap}(hH:HeapOk g w H) {p:PK}{s:Slot}{v:Value}{vals:List Value}{a a':Pass}(ha:PassOk g w H vals a) (hs:RdS g w s v) (h:uH H a p s=some a'):PassOk g w H (vals++[v]) a':=by
 unfold uH at h
 split at h
 ·rename_i f k
  simp only[LS,Option.some.injEq] at h
  subst h
  refine⟨ha.n,ha.m,?_⟩
  simp only[List.reverse_cons]
  refine CV ha.args ⟨?_,trivial⟩
  rcases hs.1 with⟨h1,_⟩ |⟨h1,vs,h2,h3⟩
  ·cases h1
  ·rw[show vs=[] from h2] at h3
   exact .inr ⟨rfl,[],rfl,h3⟩
 ·rename_i t x k _
  simp only[LR] at h
  split at h
  ·rename_i hp
   simp only[Option.some.injEq] at h
   subst h
   refine⟨ha.n,ha.m,?_⟩
   simp only[List.reverse_cons]
   exact CV ha.args (aAr hp hs)
  ·cases h
 ·rename_i t x k
  cases hb:getH H k with
  |none=>rw[hb] at h;simp [yB] at h
  |some b=>
   rw[hb] at h
   cases b with
   |grow e c m=>
    simp only[yB] at h
    split at h
    ·rename_i hc
     simp only[Bool.and_eq_true,Bool.not_eq_true'] at hc
     simp only[Option.some.injEq] at h
     subst h
     have hnm:k∉wsIds a.ws.reverse:=fun hmem=>by
      have:=EI.2 ((NI _ _).1 hmem)
      rw[hc.2] at this;cases this
     refine⟨by simp [ha.n],by simpa using ha.m.tok (b0:= .grow e c m) hb hnm,?_⟩
     simp only[List.reverse_cons]
     refine CV (GF (GE g w _ _) ha.args) (NC (g:=g) (g':=canGh g (a.ws.reverse++[.tok k])) (k':=some a.n) rfl hc.1 hs (fun c' e1=> ?_) (fun e1=>by cases e1))
     cases e1
     refine⟨_,rfl,fun n u hu=> ?_⟩
     show xV g (a.ws.reverse++[Whence.tok k])[a.n]? n=some u
     rw[ha.n,List.getElem?_append_right (Nat.le_refl _),Nat.sub_self]
     exact hu
    ·cases h
   |cells=>simp [yB] at h
   |row=>simp [yB] at h
   |map=>simp [yB] at h
   |iter=>simp [yB] at h
   |dead=>simp [yB] at h
 ·rename_i t os i o k
  obtain⟨p,hp,hv⟩:=wV hs.1
  obtain⟨h1,more,h2,h3,h4⟩:=a3o hH ha hp h
  refine⟨h1.n,h1.m,?_⟩
  rw[h3]
  simp only[List.reverse_cons]
  exact CV h1.args ⟨.inr ⟨rfl,_,h4,by rw[hv];rfl⟩,trivial⟩
 ·rename_i i k
  cases hb:getH H i with
  |none=>rw[hb] at h;simp [yC] at h
  |some b=>
   rw[hb] at h
   cases b with
   |map s t l=>
    simp only[yC] at h
    split at h
    ·rename_i hc
     simp only[Bool.and_eq_true,Bool.not_eq_true'] at hc
     simp only[Option.some.injEq] at h
     subst h
     have hnm:i∉wsIds a.ws.reverse:=fun hmem=>by
      have:=EI.2 ((NI _ _).1 hmem)
      rw[hc.2] at this;cases this
     refine⟨by simp [ha.n],by simpa using ha.m.tok (b0:= .map s t l) ⟨hb,hc.1.1,hc.1.2⟩ hnm,?_⟩
     simp only[List.reverse_cons]
     obtain⟨p,hp,hv⟩: ∃p,g.J i=some p∧v= .map (some p.1):=by
      obtain⟨p,h1,e⟩:=yJ rfl hs.1
      simp only[List.cons.injEq,and_true] at e
      exact⟨p,h1,e⟩
     refine CV (GF (GE g w _ _) ha.args) ⟨.inr ⟨rfl,p,?_,by rw[hv]⟩,trivial⟩
     show sS g (a.ws.reverse++[Whence.tok i])[a.n]? =_
     rw[ha.n,List.getElem?_append_right (Nat.le_refl _),Nat.sub_self]
     exact hp
    ·cases h
   |cells=>simp [yC] at h
   |row=>simp [yC] at h
   |grow=>simp [yC] at h
   |iter=>simp [yC] at h
   |dead=>simp [yC] at h
 ·rename_i k n k'
  cases hb:getH H k with
  |none=>rw[hb] at h;simp [yD] at h
  |some b=>
   rw[hb] at h
   cases b with
   |row e t l m=>
    simp only[yD] at h
    split at h
    ·rename_i hc
     simp only[Bool.and_eq_true,Bool.not_eq_true'] at hc
     simp only[Option.some.injEq] at h
     subst h
     have hnm:k∉wsIds a.ws.reverse:=fun hmem=>by
      have:=EI.2 ((NI _ _).1 hmem)
      rw[hc.2] at this;cases this
     refine⟨by simp [ha.n],by simpa using ha.m.tok (b0:= .row e t l m) ⟨hb,hc.1⟩ hnm,?_⟩
     simp only[List.reverse_cons]
     obtain⟨h1,h2⟩:=hs.1
     refine CV (GF (GE g w _ _) ha.args) ⟨⟨?_,h2⟩,trivial⟩
     show xV g (a.ws.reverse++[Whence.tok k])[a.n]? n=_
     rw[ha.n,List.getElem?_append_right (Nat.le_refl _),Nat.sub_self]
     exact h1
    ·cases h
   |cells=>simp [yD] at h
   |grow=>simp [yD] at h
   |map=>simp [yD] at h
   |iter=>simp [yD] at h
   |dead=>simp [yD] at h
 ·rename_i ks f cs k'
  obtain⟨vs,hv1,hv2⟩: ∃vs,uJ g cs vs∧v= .func (.func f) #[] vs.toArray:=by
   rcases hs.1 with⟨h1,_⟩ |⟨_,vs,h2,h3⟩
   ·cases h1
   ·simp only[List.cons.injEq,and_true] at h3
    exact⟨vs,h2,h3⟩
  obtain⟨z1,ids',z2,_,z4⟩:=a3q hH (ids:=[]) (a:=a) (us:=[]) ha hv1 rfl h
  refine⟨z1.n,z1.m,?_⟩
  rw[z2]
  simp only[List.reverse_cons]
  exact CV z1.args ⟨.inr ⟨rfl,vs,by simpa using z4,by rw[hv2]⟩,trivial⟩
 ·cases h
theorem a3s {g:Gh}{w:World}{H:Heap}(hH:HeapOk g w H): ∀{ps:List PK}{ss:List Slot}{vs vals:List Value}{a a':Pass},PassOk g w H vals a→ArgsOk g w ss vs→u1 H ps ss (some a)=some a'→PassOk g w H (vals++vs) a'
 |[],[],vs,vals,a,a',ha,hs,h=>by
  simp only[u1,Option.some.injEq] at h
  subst h
  rw[show vs=[] from hs,List.append_nil]
  exact ha
 |p::ps,s::ss,vs,vals,a,a',ha,⟨v,vs',e,h1,h2⟩,h=>by
  simp only[u1] at h
  cases ho:uH H a p s with
  |none=>rw[ho] at h;cases ps<;>cases ss<;>simp [u1] at h
  |some a1=>
   rw[ho] at h
   have:=a3s hH (a3r hH ha h1 ho) h2 h
   rw[e]
   simpa using this
 |[],_::_,_,_,_,_,_,_,h=>by simp [u1] at h
 |_::_,[],_,_,_,_,_,_,h=>by simp [u1] at h
theorem PassOk.nil (g:Gh) (w:World) (H:Heap):PassOk g w H [] ⟨[],[],[],0⟩:=
 ⟨rfl,⟨rfl,fun c wh b h _=>by simp at h,by simp [wsIds]⟩,rfl⟩
theorem a3t: ∀(l:List Blk) (n:Nat),CL l n=l[n]?
 |[],_=>by simp [CL]
 |_::_,0=>rfl
 |_::r,n+1=>by simpa[CL] using a3t r n
theorem aAu {g:Gh}{w:World}: ∀{t:Ty}{x:t.den}{cs:List Value}{o:Nat}{y:Option (Nat×Nat)},Rd g w t x cs→BB t x o=some y→∃cs',CR g y cs':=by
 intro t
 induction t with
 |pair a b iha ihb=>
  intro x cs o y r h
  obtain⟨c1,c2,_,r1,r2⟩:=r
  simp only[BB] at h
  split at h
  ·exact iha r1 h
  ·exact ihb r2 h
 |rl e u=>
  intro x cs o y r h
  cases o with
  |zero=>simp only[BB,Option.some.injEq] at h;subst h;exact⟨cs,r⟩
  |succ o=>simp [BB] at h
 |_=>intro x cs o y r h;cases o<;>simp [BB] at h
theorem aAv {g:Gh}{w:World}{H:Heap}(hH:HeapOk g w H) {vals:List Value}{a:Pass}(ha:PassOk g w H vals a) (c q:Nat) (pk:PK): ∃v,RdS g w (DX q pk (CL a.H c)) v:=by
 rw[a3t]
 have any: ∃v,RdS g w (.any,none) v:=⟨undef,trivial,trivial⟩
 cases hb:a.H[c]? with
 |none=>cases pk<;>exact any
 |some b=>
  cases b with
  |cells t y ts=>
   have hlt:c<a.H.length:=(List.getElem?_eq_some_iff.1 hb).1
   have hb':a.H.reverse[a.H.length-1-c]? =some (.cells t y ts):=by
    rw[List.getElem?_reverse (by omega),show a.H.length-1- (a.H.length-1-c)=c by omega];exact hb
   obtain⟨wh,hwh⟩: ∃wh,a.ws.reverse[a.H.length-1-c]? =some wh:=by
    have hl:=ha.m.len
    simp only[List.length_reverse] at hl
    exact⟨_,List.getElem?_eq_getElem (by rw[List.length_reverse];omega)⟩
   have hw:=ha.m.ok _ wh _ hwh hb'
   cases wh with
   |tok k=>exact hw.elim
   |box i u x toks off=>
    obtain⟨h1,h2,_⟩:=hw
    obtain⟨p,cs,hp,hR,_⟩:=hH.blk i _ h1
    obtain⟨c1,c2,c3,hcs,hl,hR2⟩:=AD hR h2
    cases pk with
    |p t' os=>
     simp only[DX]
     cases hg:pA .ref t y q with
     |none=>exact any
     |some z=>
      cases z with
      |none=>exact any
      |some z=>
       obtain⟨d1,d2,d3,_,_,hR3⟩:=AD hR2 hg
       obtain⟨p',hp',e⟩:=hR3
       exact⟨_,.inr ⟨rfl,p',hp',rfl⟩,trivial⟩
    |m=>
     simp only[DX]
     cases hg:pA .mp t y q with
     |none=>exact any
     |some z=>
      cases z with
      |none=>exact any
      |some z=>
       obtain⟨d1,d2,d3,_,_,hR3⟩:=AD hR2 hg
       obtain⟨p',hp',e⟩:=hR3
       exact⟨_,.inr ⟨rfl,p',hp',rfl⟩,trivial⟩
    |v=>exact any
    |own=>exact any
    |f ks=>exact any
    |r=>
     simp only[DX]
     cases hg:BB t y q with
     |none=>exact any
     |some z=>
      cases z with
      |none=>exact any
      |some z=>
       obtain⟨cs',hR3⟩:=aAu hR2 hg
       obtain⟨v,hv,_,hsh⟩:=hR3
       exact⟨v,⟨hv,hsh⟩,trivial⟩
  |_=>cases pk<;>exact any
theorem a3u {g:Gh}{w:World}{H:Heap}(hH:HeapOk g w H) {vals:List Value}: ∀{gs:List (Nat×Nat×PK)}{a a':Pass},PassOk g w H vals a→xP H gs (some a)=some a'→PassOk g w H vals a'
 |[],a,a',ha,h=>by
  simp only[xP,Option.some.injEq] at h
  subst h
  exact ha
 |(c,q,pk)::gs,a,a',ha,h=>by
  simp only[xP] at h
  obtain⟨v,hv⟩:=aAv hH ha (a.n-1-c) q pk
  cases hp:uH H a pk (DX q pk (CL a.H (a.n-1-c))) with
  |none=>
   rw[hp] at h
   simp only[FQ] at h
   cases gs<;>simp [xP] at h
  |some b=>
   rw[hp] at h
   simp only[FQ] at h
   have hb:=a3r hH ha hv hp
   refine a3u hH (a:=⟨a.args,b.H,b.ws,b.n⟩) ⟨hb.n,hb.m,?_⟩ h
   obtain⟨s,more,e1,e2⟩: ∃s more,b.args=s::a.args∧b.ws.reverse=a.ws.reverse++more:=by
    have hp':=hp
    unfold uH at hp'
    split at hp'
    ·simp only[LS,Option.some.injEq] at hp';subst hp';exact⟨_,[],rfl,by simp⟩
    ·simp only[LR] at hp'
     split at hp'
     ·simp only[Option.some.injEq] at hp';subst hp';exact⟨_,[],rfl,by simp⟩
     ·cases hp'
    ·unfold yB at hp'
     split at hp'
     ·split at hp'
      ·simp only[Option.some.injEq] at hp';subst hp';exact⟨_,[_],rfl,List.reverse_cons ..⟩
      ·cases hp'
     ·cases hp'
    ·unfold sM at hp'
     split at hp'
     ·unfold A7 at hp'
      split at hp'
      ·split at hp'
       ·obtain⟨ks,bs,_,_,h3,_,h5,_⟩:=NH hp'
        exact⟨_,_,h3,by rw[h5];simp only[List.reverse_cons];exact List.append_assoc ..⟩
       ·cases hp'
      ·cases hp'
     ·cases hp'
    ·unfold yC at hp'
     split at hp'
     ·split at hp'
      ·simp only[Option.some.injEq] at hp';subst hp';exact⟨_,[_],rfl,List.reverse_cons ..⟩
      ·cases hp'
     ·cases hp'
    ·unfold yD at hp'
     split at hp'
     ·split at hp'
      ·simp only[Option.some.injEq] at hp';subst hp';exact⟨_,[_],rfl,List.reverse_cons ..⟩
      ·cases hp'
     ·cases hp'
    ·exact a3p hp'
    ·cases hp'
   rw[e2]
   exact GF (GE g w _ _) ha.args
theorem aAw {b:Option Blk}{l:Option (List Blk)}{r:List Blk}(h:R5 b l=some r): ∃b' l',b=some b'∧l=some l'∧r=b'::l':=by
 cases b<;>cases l<;>simp [R5] at h
 exact⟨_,_,rfl,rfl,h.symm⟩
theorem a3v {W:List Whence}: ∀{L0 L:List Blk},CM W L0=some L→L.length=L0.length∧∀(c:Nat) (b:Blk),L[c]? =some b→∃b0,L0[c]? =some b0∧LU W b0=some b
 |[],L,h=>by
  simp only[CM,Option.some.injEq] at h
  subst h
  exact⟨rfl,fun c b h=>by simp at h⟩
 |b0::L0,L,h=>by
  simp only[CM] at h
  obtain⟨b',l',h1,h2,rfl⟩:=aAw h
  obtain⟨k1,k2⟩:=a3v h2
  refine⟨by simp [k1],fun c b hc=> ?_⟩
  cases c with
  |zero=>simp only[List.getElem?_cons_zero,Option.some.injEq] at hc;subst hc;exact⟨b0,rfl,h1⟩
  |succ c=>obtain⟨b1,q1,q2⟩:=k2 c b (by simpa using hc);exact⟨b1,by simpa using q1,q2⟩
theorem Matched0.ren {H:Heap}{ws:List Whence}{L0 L:List Blk}(h:Matched0 H ws L0) (hc:CM ws L0=some L):Matched H ws L:=by
 obtain⟨k1,k2⟩:=a3v hc
 refine⟨h.len.trans k1.symm,fun c wh b hw hb=> ?_,h.nodup⟩
 obtain⟨b0,q1,q2⟩:=k2 c b hb
 have hok:=h.ok c wh b0 hw q1
 cases b0 with
 |cells t y ts=>
  cases wh with
  |tok k=>exact hok.elim
  |box i u x toks o=>
   obtain⟨h1,h2,h3⟩:=hok
   simp only[LU] at q2
   split at q2
   ·rename_i hp
    obtain rfl:=Option.some.inj q2
    exact⟨h1,⟨y,h2,.inl ⟨hp,rfl⟩⟩,h3⟩
   ·cases hy:yV ws t y with
    |none=>rw[hy] at q2;cases q2
    |some z=>
     rw[hy] at q2
     obtain rfl:=Option.some.inj q2
     exact⟨h1,⟨y,h2,.inr hy⟩,h3⟩
 |_=>
  simp only[LU,Option.some.injEq] at q2
  subst q2
  cases wh<;>exact hok
end Go.Proofs.YtfchbnahjcdiiaaGreatDoor.Vc
namespace Go.Proofs.YtfchbnahjcdiiaaGreatDoor.Vc
open Go.RowKit
set_option linter.unusedSectionVars false
theorem wB: ∀(W:List Whence) (c:Nat),wT W c=W[c]?
  |[],c=>by simp [wT]
  |_::_,0=>rfl
  |_::W,c+1=>by simpa[wT] using wB W c
theorem a3w: ∀L:List Blk,pF L=L.length
  |[]=>rfl
  |_::L=>by simp [pF,a3w L]
theorem a3x {α:Type}: ∀(l acc:List α),vP l acc=l.reverse++acc
  |[],_=>rfl
  |x::l,acc=>by simp [vP,a3x l]
theorem T6 {a:Option (Nat×Blk)}{b:Option (List (Nat×Blk))}{l:List (Nat×Blk)}(h:IG a b=some l): ∃q r,a=some q∧b=some r∧l=q::r:=by
  cases a<;>cases b<;>simp [IG] at h
  exact⟨_,_,rfl,rfl,h.symm⟩
def CW (base n:Nat) (W ws:List Whence) (R:List Blk) (c0:Nat) (id:Nat) (b:Blk):Prop:=
  (∃(c:Nat) (i:Nat) (u:Ty) (x:u.den) (toks:List (Nat×Nat)) (o:Nat) (b0:Blk),ws[c]? =some (.box i u x toks o)∧id=i∧R[c]? =some b0∧u6 base n i o W u x toks b0=some (i,b))∨
  (∃(c k:Nat) (b0:Blk),ws[c]? =some (.tok k)∧id=k∧R[c]? =some b0∧w5 k b0=some (k,b))∨
  (∃(c:Nat) (b0:Blk),R[c]? =some b0∧id=base+(c0+c)∧ws[c]? =none∧zK base n (c0+c) W b0=some (id,b))
theorem CW.succ {base n:Nat}{W:List Whence}{wh:Whence}{ws:List Whence}{b0:Blk}{R:List Blk}{c0 id:Nat}{b:Blk}(h:CW base n W ws R (c0+1) id b):CW base n W (wh::ws) (b0::R) c0 id b:=by
  rcases h with⟨c,i,u,x,toks,o,b1,h1,h2,h3,h4⟩ |⟨c,k,b1,h1,h2,h3,h4⟩ |⟨c,b1,h1,h2,h3,h4⟩
  ·exact .inl ⟨c+1,i,u,x,toks,o,b1,by simpa using h1,h2,by simpa using h3,h4⟩
  ·exact .inr (.inl ⟨c+1,k,b1,by simpa using h1,h2,by simpa using h3,h4⟩)
  ·exact .inr (.inr ⟨c+1,b1,by simpa using h1,by rw[h2];omega,by simpa using h3,by rw[show c0+(c+1)=c0+1+c from by omega];exact h4⟩)
theorem CW.succ0 {base n:Nat}{W:List Whence}{b0:Blk}{R:List Blk}{c0 id:Nat}{b:Blk}(h:CW base n W [] R (c0+1) id b):CW base n W [] (b0::R) c0 id b:=by
  rcases h with⟨c,i,u,x,toks,o,b1,h1,_⟩ |⟨c,k,b1,h1,_⟩ |⟨c,b1,h1,h2,h3,h4⟩
  ·simp at h1
  ·simp at h1
  ·exact .inr (.inr ⟨c+1,b1,by simpa using h1,by rw[h2];omega,by simp,by rw[show c0+(c+1)=c0+1+c from by omega];exact h4⟩)
theorem a3y {i:Nat}{t:Ty}{ts:List (Nat×Nat)}{o:Option t.den}{q:Nat×Blk}(h:a1O i t ts o=some q): ∃y,o=some y∧q=(i,.cells t y ts):=by
  cases o with
  |none=>cases h
  |some y=>exact⟨y,rfl,(Option.some.inj h).symm⟩
theorem aAx {base n c:Nat}{W:List Whence}{b:Blk}{q:Nat×Blk}(h:zK base n c W b=some q):q.1=base+c:=by
  cases b<;>simp only[zK] at h
  · split at h
    ·exact(Option.some.inj h)▸rfl
    ·obtain⟨y,_,rfl⟩:=a3y h;rfl
  ·exact(Option.some.inj h)▸rfl
  · split at h
    ·exact(Option.some.inj h)▸rfl
    ·cases h
  · split at h
    ·exact(Option.some.inj h)▸rfl
    ·cases h
  ·cases h
  ·exact(Option.some.inj h)▸rfl
def bY (base n:Nat) (W:List Whence) (t:Ty) (x y:t.den):Prop:=(t.pure=true∧y=x)∨yE base n W t x=some y
theorem T7 {base n i o:Nat}{W:List Whence}{u t:Ty}{x:u.den}{y:t.den}{toks ts:List (Nat×Nat)}{q:Nat×Blk}(h:u6 base n i o W u x toks (.cells t y ts)=some q):
    ∃y2 z,bY base n W t y y2∧pY t y2 u x o=some z∧q=(i,.cells u z (app (zJ base n W o ts) (sG toks o t.cells))):=by
  simp only[u6] at h
  split at h
  · rename_i hp
    cases hs:pY t y u x o with
    |none=>rw[hs] at h;simp [LW] at h
    |some z=>rw[hs] at h;exact⟨y,z,.inl ⟨hp,rfl⟩,hs,(Option.some.inj h).symm⟩
  · cases hy:yE base n W t y with
    |none=>rw[hy] at h;cases h
    | some y2=>
      rw[hy] at h
      simp only[a1P] at h
      cases hs:pY t y2 u x o with
      |none=>rw[hs] at h;simp [LW] at h
      |some z=>rw[hs] at h;exact⟨y2,z,.inr hy,hs,(Option.some.inj h).symm⟩
theorem aAy {k:Nat}{b:Blk}{q:Nat×Blk}(h:w5 k b=some q):q.1=k:=by
  cases b<;>simp only[w5] at h
  ·cases h
  ·exact(Option.some.inj h)▸rfl
  · split at h
    ·exact(Option.some.inj h)▸rfl
    ·cases h
  · split at h
    ·exact(Option.some.inj h)▸rfl
    ·cases h
  ·cases h
  ·exact(Option.some.inj h)▸rfl
theorem aAz {base n i o:Nat}{W:List Whence}{u:Ty}{x:u.den}{toks:List (Nat×Nat)}{b:Blk}{q:Nat×Blk}(h:u6 base n i o W u x toks b=some q):q.1=i:=by
  cases b with
  |cells t y ts=>obtain⟨y2,z,_,_,rfl⟩:=T7 h;rfl
  |grow=>simp [u6] at h
  |row=>simp [u6] at h
  |map=>simp [u6] at h
  |iter=>simp [u6] at h
  |dead=>simp only[u6,Option.some.injEq] at h;exact h▸rfl
theorem GG {base n:Nat}{W:List Whence}: ∀{ws:List Whence}{R:List Blk}{c0:Nat}{upd:List (Nat×Blk)},xQ base n W c0 ws R=some upd→
    ws.length≤R.length∧(∀id b,getH upd id=some b→CW base n W ws R c0 id b)∧(∀id,id∈idsOf upd→∃b,getH upd id=some b)∧
    (∀(c:Nat) wh,ws[c]? =some wh→wh.id∈idsOf upd)∧(∀(c:Nat) b,R[c]? =some b→ws[c]? =none→base+(c0+c)∈idsOf upd)
  | [],[],_,upd,h=>by
    simp only[xQ,Option.some.injEq] at h
    subst h
    exact⟨Nat.le_refl _,fun _ _ h=>by simp [getH] at h,fun _ h=>by simp [idsOf] at h,fun _ _ h=>by simp at h,fun _ _ h=>by simp at h⟩
  | [],b::R,c0,upd,h=>by
    simp only[xQ] at h
    obtain⟨q,r,h1,h2,rfl⟩:=T6 h
    obtain⟨k1,k2,k3,k4,k5⟩:=GG h2
    have hq:=aAx h1
    obtain⟨q1,q2⟩:=q
    simp only at hq
    subst hq
    refine⟨by simp,fun id b' hg=> ?_,fun id hi=> ?_,fun c wh hw=>by simp at hw,fun c b' hb hn=> ?_⟩
    · simp only[getH] at hg
      split at hg
      · rename_i e
        obtain rfl:=Option.some.inj hg
        subst e
        exact .inr (.inr ⟨0,b,rfl,rfl,by simp,h1⟩)
      ·exact(k2 id b' hg).succ0
    · simp only[getH]
      by_cases e:base+c0=id
      ·rw[if_pos e];exact⟨_,rfl⟩
      · rw[if_neg e]
        simp only[idsOf,List.mem_cons] at hi
        exact k3 id (hi.resolve_left (Ne.symm e))
    · cases c with
      |zero=>simp [idsOf]
      | succ c=>
        have:=k5 c b' (by simpa using hb) (by simp)
        simp only[idsOf,List.mem_cons]
        right
        rw[show base+(c0+(c+1))=base+(c0+1+c) from by omega]
        exact this
  | .box i u x toks o::ws,[],c0,upd,h=>by simp [xQ] at h
  | .tok k::ws,[],c0,upd,h=>by simp [xQ] at h
  | .box i u x toks o::ws,b::R,c0,upd,h=>by
    simp only[xQ] at h
    obtain⟨q,r,h1,h2,rfl⟩:=T6 h
    obtain⟨k1,k2,k3,k4,k5⟩:=GG h2
    have hq:=aAz h1
    obtain⟨q1,q2⟩:=q
    simp only at hq
    subst hq
    refine⟨by simp;omega,fun id b' hg=> ?_,fun id hi=> ?_,fun c wh hw=> ?_,fun c b' hb hn=> ?_⟩
    · simp only[getH] at hg
      split at hg
      · rename_i e
        obtain rfl:=Option.some.inj hg
        subst e
        exact .inl ⟨0,q1,u,x,toks,o,b,rfl,rfl,rfl,h1⟩
      ·exact(k2 id b' hg).succ
    · simp only[getH]
      by_cases e:q1=id
      ·rw[if_pos e];exact⟨_,rfl⟩
      · rw[if_neg e]
        simp only[idsOf,List.mem_cons] at hi
        exact k3 id (hi.resolve_left (Ne.symm e))
    · cases c with
      |zero=>simp only[List.getElem?_cons_zero,Option.some.injEq] at hw;subst hw;simp [idsOf,Whence.id]
      |succ c=>simp only[idsOf,List.mem_cons];exact .inr (k4 c wh (by simpa using hw))
    · cases c with
      |zero=>simp at hn
      | succ c=>
        have:=k5 c b' (by simpa using hb) (by simpa using hn)
        simp only[idsOf,List.mem_cons]
        right
        rw[show base+(c0+(c+1))=base+(c0+1+c) from by omega]
        exact this
  | .tok k::ws,b::R,c0,upd,h=>by
    simp only[xQ] at h
    obtain⟨q,r,h1,h2,rfl⟩:=T6 h
    obtain⟨k1,k2,k3,k4,k5⟩:=GG h2
    have hq:=aAy h1
    obtain⟨q1,q2⟩:=q
    simp only at hq
    subst hq
    refine⟨by simp;omega,fun id b' hg=> ?_,fun id hi=> ?_,fun c wh hw=> ?_,fun c b' hb hn=> ?_⟩
    · simp only[getH] at hg
      split at hg
      · rename_i e
        obtain rfl:=Option.some.inj hg
        subst e
        exact .inr (.inl ⟨0,q1,b,rfl,rfl,rfl,h1⟩)
      ·exact(k2 id b' hg).succ
    · simp only[getH]
      by_cases e:q1=id
      ·rw[if_pos e];exact⟨_,rfl⟩
      · rw[if_neg e]
        simp only[idsOf,List.mem_cons] at hi
        exact k3 id (hi.resolve_left (Ne.symm e))
    · cases c with
      |zero=>simp only[List.getElem?_cons_zero,Option.some.injEq] at hw;subst hw;simp [idsOf,Whence.id]
      |succ c=>simp only[idsOf,List.mem_cons];exact .inr (k4 c wh (by simpa using hw))
    · cases c with
      |zero=>simp at hn
      | succ c=>
        have:=k5 c b' (by simpa using hb) (by simpa using hn)
        simp only[idsOf,List.mem_cons]
        right
        rw[show base+(c0+(c+1))=base+(c0+1+c) from by omega]
        exact this
def qS (g g':Gh) (base:Nat) (W:List Whence) (ids:List Nat):Gh:=
  ⟨g'.S,fun i=>if base≤i∧i∈ids then g'.J (i-base) else match sV i W 0 with|some c=>g'.J c|none=>g.J i,
   fun i=>if base≤i∧i∈ids then g'.cur (i-base) else match sV i W 0 with|some c=>g'.cur c|none=>g.cur i⟩
theorem NJ {n c:Nat}{wh:Option Whence}:FS n c wh=true↔c<n∧wh=none:=by
  cases wh with
  |none=>simp [FS]
  |some wh=>simp [FS]
theorem aAA {base n c i:Nat}{wh:Option Whence}(h:wU base n c wh=some i):wh=some (.tok i)∨(wh=none∧c<n∧i=base+c):=by
  cases wh with
  | none=>
    simp only[wU] at h
    split at h
    ·rename_i hc;exact .inr ⟨rfl,hc,(Option.some.inj h).symm⟩
    ·cases h
  | some wh=>
    cases wh with
    |box=>cases h
    |tok k=>simp only[wU,Option.some.injEq] at h;subst h;exact .inl rfl
theorem NK {i:Nat}: ∀{ws:List Whence}{c0:Nat},(∀c:Nat,ws[c]? ≠some (.tok i))→sV i ws c0=none
  |[],_,_=>rfl
  | .tok j::r,c0,h=>by
    simp only[sV]
    split
    ·rename_i e;subst e;exact absurd rfl (h 0)
    ·exact NK (fun c=>by have:=h (c+1);simpa using this)
  | .box _ _ _ _ _::r,c0,h=>by
    simp only[sV]
    exact NK (fun c=>by have:=h (c+1);simpa using this)
theorem aAB {i c:Nat}{ws:List Whence}(hnd:(wsIds ws).Nodup) (h:ws[c]? =some (.tok i)):sV i ws 0=some c:=by
  cases hc:sV i ws 0 with
  | none=>
    exfalso
    have: ∀{ws:List Whence}{c0 c:Nat},ws[c]? =some (.tok i)→sV i ws c0≠none:=by
      intro ws
      induction ws with
      |nil=>intro c0 c h;simp at h
      | cons wh r ih=>
        intro c0 c h
        cases c with
        | zero=>
          simp only[List.getElem?_cons_zero,Option.some.injEq] at h
          subst h
          simp [sV]
        | succ c=>
          simp only[List.getElem?_cons_succ] at h
          cases wh with
          |box=>exact ih h
          | tok j=>
            simp only[sV]
            split
            ·simp
            ·exact ih h
    exact this h hc
  | some d=>
    obtain⟨d',e1,h2⟩:=GD hc
    rw[Nat.zero_add] at e1
    subst e1
    rw[NF hnd h h2 rfl]
theorem Fr.mono {A B:Nat→Nat→Prop}{w w':World}{S S':Nat→Nat→Prop}(h:Fr A w w' S S') (hAB: ∀b o,A b o→B b o):Fr B w w' S S':=
  ⟨h.os,h.tape,h.output,h.size,fun b hb hn=>h.blk b hb (fun o ho=>hn o (hAB b o ho)),fun b o hb hn=>h.cell b o hb (fun ho=>hn (hAB b o ho)),fun b o hs=>(h.new b o hs).imp id (Or.imp id (hAB b o)),fun b s hs=>(h.shape b s hs).imp id fun h o=>hAB b o (h o)⟩
theorem NL {base n:Nat}{W:List Whence}{o:Nat}: ∀{ts:List (Nat×Nat)}{q k:Nat},(q,k)∈zJ base n W o ts→∃q' c,(q',c)∈ts∧wU base n c (wT W c)=some k∧q=o+q'
  |[],_,_,h=>by simp [zJ] at h
  | (q',c)::r,q,k,h=>by
    simp only[zJ] at h
    cases hn:wU base n c (wT W c) with
    | none=>
      rw[hn] at h
      obtain⟨a,b,h1,h2⟩:=NL h
      exact⟨a,b,List.mem_cons_of_mem _ h1,h2⟩
    | some k'=>
      rw[hn] at h
      rcases List.mem_cons.1 h with h|h
      · simp only[Prod.mk.injEq] at h
        obtain⟨rfl,rfl⟩:=h
        exact⟨q',c,by simp,hn,rfl⟩
      · obtain⟨a,b,h1,h2⟩:=NL h
        exact⟨a,b,List.mem_cons_of_mem _ h1,h2⟩
theorem tK {α:Type}{x:α}: ∀{l m:List α},x∈app l m↔x∈l∨x∈m
  |[],m=>by simp [app]
  |y::l,m=>by simp [app,tK (l:=l),or_assoc]
theorem T8: ∀{toks:List (Nat×Nat)}{off n q k:Nat},(q,k)∈sG toks off n→(q,k)∈toks∧¬(off≤q∧q<off+n)
  |[],_,_,_,_,h=>by simp [sG] at h
  | (q',k')::r,off,n,q,k,h=>by
    simp only[sG] at h
    split at h
    · obtain⟨h1,h2⟩:=T8 h
      exact⟨List.mem_cons_of_mem _ h1,h2⟩
    · rename_i hn
      rcases List.mem_cons.1 h with h|h
      · cases h
        exact⟨by simp,hn⟩
      · obtain⟨h1,h2⟩:=T8 h
        exact⟨List.mem_cons_of_mem _ h1,h2⟩
section
variable {g g':Gh}{w w':World}{H:Heap}{W:List Whence}{L:List Blk}{r:Ret}{v:Value}{base:Nat}{upd:List (Nat×Blk)}
variable (hH:HeapOk g w H) (hm:Matched H W L) (hr:RetOk (canGh g W) w L r g' w' v) (hb:xQ base r.H.length W 0 W r.H=some upd) (hf: ∀i,i∈idsOf upd→base≤i→g.J i=none∧∀n,g.cur i n=none)
include hH hm hr hb hf
theorem AF {c:Nat}{wh:Whence}(hw:W[c]? =some wh):wh.id∈idsOf upd∧wh.id<base∧∃b,L[c]? =some b∧WOk H W wh b:=by
  have hin:=(GG hb).2.2.2.1 c wh hw
  have hlt:c<L.length:=hm.len▸(List.getElem?_eq_some_iff.1 hw).1
  have hok:=hm.ok c wh _ hw (List.getElem?_eq_getElem hlt)
  refine⟨hin,Nat.lt_of_not_le fun hle=> ?_,_,List.getElem?_eq_getElem hlt,hok⟩
  have hfr:=hf _ hin hle
  cases wh with
  | box i u x toks o=>
    cases hL:L[c] with
    | cells t y ts=>
      rw[hL] at hok
      obtain⟨p,cs,hp,_⟩:=hH.blk i _ hok.1
      rw[show (Whence.box i u x toks o).id=i from rfl] at hfr
      rw[hfr.1] at hp;cases hp
    |_=>rw[hL] at hok;exact hok.elim
  | tok k=>
    cases hL:L[c] with
    | grow e cc m=>
      rw[hL] at hok
      obtain⟨v,xs,hv,_⟩:=hH.blk k _ hok
      rw[show (Whence.tok k).id=k from rfl] at hfr
      rw[hfr.2] at hv;cases hv
    | map s t l=>
      rw[hL] at hok
      obtain⟨p,es,cl,hp,_⟩:=hH.blk k _ hok.1
      rw[show (Whence.tok k).id=k from rfl] at hfr
      rw[hfr.1] at hp;cases hp
    | row e t l m=>
      rw[hL] at hok
      obtain⟨_,v,xs,hv,_⟩:=hH.blk k _ hok.1
      rw[show (Whence.tok k).id=k from rfl] at hfr
      rw[hfr.2] at hv;cases hv
    |_=>rw[hL] at hok;exact hok.elim
theorem aAC {c:Nat}(hc:c<r.H.length) (hn:W[c]? =none):base+c∈idsOf upd:=by
  have:=(GG hb).2.2.2.2 c _ (List.getElem?_eq_getElem hc) hn
  simpa using this
theorem GH {c:Nat}(hc:c<r.H.length) (hn:W[c]? =none):(qS g g' base W (idsOf upd)).J (base+c)=g'.J c∧(qS g g' base W (idsOf upd)).cur (base+c)=g'.cur c:=by
  have hin:=aAC hH hm hr hb hf hc hn
  refine⟨?_,?_⟩
  · show (if base≤base+c∧base+c∈idsOf upd then _ else _)=_
    rw[if_pos ⟨by omega,hin⟩,Nat.add_sub_cancel_left]
  · show (if base≤base+c∧base+c∈idsOf upd then _ else _)=_
    rw[if_pos ⟨by omega,hin⟩,Nat.add_sub_cancel_left]
theorem a3z {i:Nat}(hi: ¬(base≤i∧i∈idsOf upd)) (hn:sV i W 0=none):(qS g g' base W (idsOf upd)).J i=g.J i∧(qS g g' base W (idsOf upd)).cur i=g.cur i:=by
  refine⟨?_,?_⟩
  · show (if base≤i∧i∈idsOf upd then _ else _)=_
    rw[if_neg hi,hn]
  · show (if base≤i∧i∈idsOf upd then _ else _)=_
    rw[if_neg hi,hn]
theorem a3A {c k:Nat}(hw:W[c]? =some (.tok k)):(qS g g' base W (idsOf upd)).J k=g'.J c∧(qS g g' base W (idsOf upd)).cur k=g'.cur c:=by
  have hlt:=(AF hH hm hr hb hf hw).2.1
  simp only[Whence.id] at hlt
  have hc:=aAB hm.nodup hw
  refine⟨?_,?_⟩
  · show (if base≤k∧k∈idsOf upd then _ else _)=_
    rw[if_neg (by omega),hc]
  · show (if base≤k∧k∈idsOf upd then _ else _)=_
    rw[if_neg (by omega),hc]
theorem JD {c i:Nat}{u:Ty}{x:u.den}{toks:List (Nat×Nat)}{o:Nat}(hw:W[c]? =some (.box i u x toks o)):(qS g g' base W (idsOf upd)).J i=g.J i∧(qS g g' base W (idsOf upd)).cur i=g.cur i:=by
  have hlt:=(AF hH hm hr hb hf hw).2.1
  simp only[Whence.id] at hlt
  refine a3z hH hm hr hb hf (by omega) (NK fun d hd=> ?_)
  have:=NF hm.nodup hw hd rfl
  subst this
  rw[hw] at hd
  cases hd
theorem EJ {c i:Nat}(hi:wU base r.H.length c W[c]? =some i):(qS g g' base W (idsOf upd)).J i=g'.J c∧(qS g g' base W (idsOf upd)).cur i=g'.cur c:=by
  rcases aAA hi with h|⟨h1,h2,rfl⟩
  ·exact a3A hH hm hr hb hf h
  ·exact GH hH hm hr hb hf h2 h1
theorem a3B:Le g w (qS g g' base W (idsOf upd)) w':=by
  have len: ∀{i c:Nat},sV i W 0=some c→W[c]? =some (.tok i)∧c<L.length:=by
    intro i c h
    obtain⟨d,e1,h2⟩:=GD h
    rw[Nat.zero_add] at e1
    subst e1
    exact⟨h2,hm.len▸(List.getElem?_eq_some_iff.1 h2).1⟩
  refine⟨fun b o h=>(hr.shut b o h).1,fun b o h=>(hr.shut b o h).2,fun i p h=> ?_,fun i n u h=> ?_⟩
  · show (if base≤i∧i∈idsOf upd then _ else _)=_
    rw[if_neg (fun⟨h1,h2⟩=>by rw[(hf i h2 h1).1] at h;cases h)]
    cases hc:sV i W 0 with
    |none=>exact h
    | some c=>
      obtain⟨h1,h2⟩:=len hc
      refine hr.Jt c p h2 ?_
      show sS g W[c]? =_
      rw[h1]
      exact h
  · show (if base≤i∧i∈idsOf upd then g'.cur (i-base) else match sV i W 0 with|some c=>g'.cur c|none=>g.cur i) n=_
    rw[if_neg (fun⟨h1,h2⟩=>by rw[(hf i h2 h1).2] at h;cases h)]
    cases hc:sV i W 0 with
    |none=>exact h
    | some c=>
      obtain⟨h1,h2⟩:=len hc
      refine hr.cur c n u h2 ?_
      show xV g W[c]? n=_
      rw[h1]
      exact h
theorem aAD {t:Ty}{x y:t.den}{cs:List Value}(hx:Rd g' w' t x cs) (h:yE base r.H.length W t x=some y):Rd (qS g g' base W (idsOf upd)) w' t y cs:=by
  refine NE (g:=g') (g':=qS g g' base W (idsOf upd)) rfl (yE base r.H.length W) (fun a b x=>rfl) (fun t x=>rfl) (fun _=>rfl) (fun _ _=>rfl) (fun _=>rfl) (fun _=>rfl) (fun _=>rfl) (fun _ _ x y cs h hx=> ?_) (fun x y cs h hx=> ?_) (fun x y cs h hx=> ?_) (fun x y cs h hx=> ?_) (fun _=>rfl) hx h
  · cases x with
    |none=>cases h;exact hx
    | some q=>
      obtain⟨c,n⟩:=q
      simp only[yE,a1N,wB] at h
      obtain⟨i,hi,rfl⟩:=Option.map_eq_some_iff.1 h
      obtain⟨v,hv,hs⟩:=hx
      exact⟨v,by rw[(EJ hH hm hr hb hf hi).2];exact hv,hs⟩
  · cases x with
    |none=>cases h;exact hx
    | some q=>
      obtain⟨c,o⟩:=q
      simp only[yE,E2] at h
      obtain⟨p,hp,hv⟩:=hx
      unfold E2.back2 at h
      split at h
      · rename_i i uu x toks o' hwh
        cases h
        rw[wB] at hwh
        obtain⟨_,hlt,b,hL,hok⟩:=AF hH hm hr hb hf hwh
        cases b with
        | cells t y ts=>
          have hJ:=hr.J c t y ts hL
          rw[hp] at hJ
          have hJ':sS g W[c]? =some p:=hJ.symm
          rw[hwh] at hJ'
          obtain⟨p0,hp0,rfl⟩:=Option.map_eq_some_iff.1 hJ'
          exact⟨p0,by rw[(JD hH hm hr hb hf hwh).1];exact hp0,by have:=hv.1;rwa [Nat.add_assoc] at this,hv.2.imp id fun hv=>by rw[hv];simp [Nat.add_assoc]⟩
        |_=>exact hok.elim
      · split at h
        · rename_i hn
          cases h
          obtain⟨h1,h2⟩:=NJ.1 hn
          rw[wB] at h2
          exact⟨p,by rw[(GH hH hm hr hb hf h1 h2).1];exact hp,hv⟩
        ·cases h
  · cases x with
    |none=>cases h;exact hx
    | some q=>
      obtain⟨c,o⟩:=q
      simp only[yE,E2] at h
      obtain⟨p,hp,hv⟩:=hx
      unfold E2.back2 at h
      split at h
      · rename_i i uu x toks o' hwh
        cases h
        rw[wB] at hwh
        obtain⟨_,hlt,b,hL,hok⟩:=AF hH hm hr hb hf hwh
        cases b with
        | cells t y ts=>
          have hJ:=hr.J c t y ts hL
          rw[hp] at hJ
          have hJ':sS g W[c]? =some p:=hJ.symm
          rw[hwh] at hJ'
          obtain⟨p0,hp0,rfl⟩:=Option.map_eq_some_iff.1 hJ'
          exact⟨p0,by rw[(JD hH hm hr hb hf hwh).1];exact hp0,by rw[hv];simp [Nat.add_assoc]⟩
        |_=>exact hok.elim
      · split at h
        · rename_i hn
          cases h
          obtain⟨h1,h2⟩:=NJ.1 hn
          rw[wB] at h2
          exact⟨p,by rw[(GH hH hm hr hb hf h1 h2).1];exact hp,hv⟩
        ·cases h
  · cases x with
    |none=>cases h;exact hx
    | some c=>
      simp only[yE,a1M,wB] at h
      obtain⟨i,hi,rfl⟩:=Option.map_eq_some_iff.1 h
      obtain⟨p,hp,hv⟩:=hx
      exact⟨p,by rw[(EJ hH hm hr hb hf hi).1];exact hp,hv⟩
theorem a3C {t:Ty}{x y:t.den}{cs:List Value}(hx:Rd g' w' t x cs) (h:bY base r.H.length W t x y):Rd (qS g g' base W (idsOf upd)) w' t y cs:=by
  rcases h with⟨hp,rfl⟩ |h
  ·exact sN (g:=g') (g':=qS g g' base W (idsOf upd)) rfl hp hx
  ·exact aAD hH hm hr hb hf hx h
omit hH hm hr hb hf in
theorem a3D {n:Nat}{t u:Ty}{x y:t.den}{o:Nat}{l:List u.den}(h:bY base n W t x y) (hg:pA (.list u) t x o=some l):pA (.list u) t y o=some l:=by
  rcases h with⟨_,rfl⟩ |h
  ·exact hg
  ·exact T4 (yE base n W) (fun _ _ _=>rfl) (fun _ _=>rfl) h hg
theorem a3E: ∀(cs:List (Nat×Nat)) {l:List (Nat×Nat)}{vs:List Value},uJ g' cs vs→FT base r.H.length W cs=some l→uJ (qS g g' base W (idsOf upd)) l vs
  |[],l,vs,h,e=>by cases e;exact h
  | (c,o)::cs,l,vs,⟨p,vs',hp,hv,hr'⟩,e=>by
    unfold FT at e
    cases h1:R6 base r.H.length c o (wT W c) with
    |none=>rw[h1] at e;cases e
    | some q=>
      cases h2:FT base r.H.length W cs with
      |none=>rw[h1,h2] at e;cases e
      | some l'=>
        rw[h1,h2] at e
        cases e
        refine(?_ : ∃p vs',_)
        have ih:=a3E cs hr' h2
        unfold R6 at h1
        split at h1
        · rename_i i uu x toks o' hwh
          cases h1
          rw[wB] at hwh
          obtain⟨_,hlt,b,hL,hok⟩:=AF hH hm hr hb hf hwh
          cases b with
          | cells t y ts=>
            have hJ:=hr.J c t y ts hL
            rw[hp] at hJ
            have hJ':sS g W[c]? =some p:=hJ.symm
            rw[hwh] at hJ'
            obtain⟨p0,hp0,rfl⟩:=Option.map_eq_some_iff.1 hJ'
            exact⟨p0,vs',by rw[(JD hH hm hr hb hf hwh).1];exact hp0,by rw[hv];simp [Nat.add_assoc],ih⟩
          |_=>exact hok.elim
        · split at h1
          · rename_i hn
            cases h1
            obtain⟨h3,h4⟩:=NJ.1 hn
            rw[wB] at h4
            exact⟨p,vs',by rw[(GH hH hm hr hb hf h3 h4).1];exact hp,hv,ih⟩
          ·cases h1
theorem aAE {s:Slot}{u:Value}(h:RdS g' w' s u):RdS (qS g g' base W (idsOf upd)) w' (LV base r.H.length W s) u:=by
  obtain⟨d,k⟩:=s
  have tokk: ∀{t:Ty}(hp:t.pure=true) {x:t.den}{k:Option Nat},RdS g' w' (.val t x,k) u→RdS (qS g g' base W (idsOf upd)) w' (.val t x,DZ base r.H.length W k) u:=by
    intro t hp x k h
    cases k with
    |none=>exact NC (g:=g') (g':=qS g g' base W (idsOf upd)) (k:=none) (k':=none) rfl hp h (fun c e=>by cases e) (fun _=>rfl)
    | some c=>
      simp only[DZ,wB]
      cases hn:wU base r.H.length c W[c]? with
      | some i=>
        refine NC (g:=g') (g':=qS g g' base W (idsOf upd)) (k:=some c) (k':=some i) rfl hp h (fun c' e=> ?_) (fun e=>by cases e)
        cases e
        refine⟨_,rfl,fun n u hu=> ?_⟩
        rw[(EJ hH hm hr hb hf hn).2];exact hu
      | none=>
        exact NC (g:=g') (g':=qS g g' base W (idsOf upd)) (k:=none) (k':=none) rfl hp ⟨h.1,trivial⟩ (fun c e=>by cases e) (fun _=>rfl)
  unfold LV
  split
  · rename_i c m k' heq
    simp only[Prod.mk.injEq] at heq
    obtain⟨rfl,rfl⟩:=heq
    simp only[DZ,wB]
    cases hn:wU base r.H.length c W[c]? with
    | some i=>
      obtain⟨h3,h4⟩:=h.1
      exact⟨⟨by rw[(EJ hH hm hr hb hf hn).2];exact h3,h4⟩,trivial⟩
    |none=>exact⟨trivial,trivial⟩
  · rename_i c o k' heq
    simp only[Prod.mk.injEq] at heq
    obtain⟨rfl,rfl⟩:=heq
    obtain⟨p,hp,hv⟩:=wV h.1
    unfold a1L
    split
    · rename_i i uu x toks o' hwh
      rw[wB] at hwh
      obtain⟨_,hlt,b,hL,hok⟩:=AF hH hm hr hb hf hwh
      cases b with
      | cells t y ts=>
        have hJ:=hr.J c t y ts hL
        rw[hp] at hJ
        have hJ':sS g W[c]? =some p:=hJ.symm
        rw[hwh] at hJ'
        obtain⟨p0,hp0,rfl⟩:=Option.map_eq_some_iff.1 hJ'
        refine⟨.inr ⟨rfl,p0,by rw[(JD hH hm hr hb hf hwh).1];exact hp0,?_⟩,trivial⟩
        rw[hv];simp [Nat.add_assoc]
      |_=>exact hok.elim
    · split
      · rename_i hn
        obtain⟨h1,h2⟩:=NJ.1 hn
        rw[wB] at h2
        exact⟨.inr ⟨rfl,p,by rw[(GH hH hm hr hb hf h1 h2).1];exact hp,by rw[hv]⟩,trivial⟩
      ·exact⟨trivial,trivial⟩
  · rename_i k' heq
    simp only[Prod.mk.injEq] at heq
    obtain⟨rfl,rfl⟩:=heq
    rcases h.1 with⟨h1,_⟩ |⟨h1,h2⟩
    ·cases h1
    ·exact⟨.inr ⟨h1,h2⟩,trivial⟩
  · rename_i c k' heq
    simp only[Prod.mk.injEq] at heq
    obtain⟨rfl,rfl⟩:=heq
    simp only[DZ,wB]
    cases hn:wU base r.H.length c W[c]? with
    | some i=>
      obtain⟨p,hp,hv⟩:G6 g' (some c) [u]:=yJ rfl h.1
      exact⟨.inr ⟨rfl,p,by rw[(EJ hH hm hr hb hf hn).1];exact hp,hv⟩,trivial⟩
    |none=>exact⟨trivial,trivial⟩
  · rename_i f cs k' heq
    simp only[Prod.mk.injEq] at heq
    obtain⟨rfl,rfl⟩:=heq
    cases hc:FT base r.H.length W cs with
    |none=>exact⟨trivial,trivial⟩
    | some l=>
      rcases h.1 with⟨h1,_⟩ |⟨_,vs,h2,h3⟩
      ·cases h1
      ·exact⟨.inr ⟨rfl,vs,a3E hH hm hr hb hf cs h2 hc,h3⟩,trivial⟩
  · rename_i t x k' hno hno0 hno2 hno3 heq
    simp only[Prod.mk.injEq] at heq
    obtain⟨rfl,rfl⟩:=heq
    split
    · rename_i hp
      exact tokk hp (a3c h)
    ·exact⟨trivial,trivial⟩
  ·exact⟨trivial,trivial⟩
end
end Go.Proofs.YtfchbnahjcdiiaaGreatDoor.Vc
namespace Go.Proofs.YtfchbnahjcdiiaaGreatDoor.Vc
open Go.RowKit
set_option linter.unusedSectionVars false
theorem a3F {g:Gh}{w:World}{H:Heap}{W:List Whence}{L:List Blk}(hH:HeapOk g w H) (hm:Matched H W L) {bb oo:Nat}(h:ownsAny (canGh g W) (enumH 0 L) bb oo):
  ∃(c:Nat) (wh:Whence) (b blk:Blk),W[c]? =some wh∧L[c]? =some b∧owns (canGh g W) c b bb oo∧getH H wh.id=some blk∧owns g wh.id blk bb oo:=by
 obtain⟨c,b,hc,ho⟩:=h
 rw[uK] at hc
 have hlt:c<W.length:=hm.len▸(List.getElem?_eq_some_iff.1 hc).1
 have hwh:W[c]? =some W[c]:=List.getElem?_eq_getElem hlt
 have hw:=hm.ok c _ b hwh hc
 refine⟨c,W[c],b,?_⟩
 generalize W[c]=wh at hwh hw
 cases wh with
 |box i u x toks off=>
  cases b with
  |cells t y ts=>
   obtain⟨h1,⟨y0,h2,h3⟩,h4⟩:=hw
   obtain⟨p,hp,e1,e2,e3⟩:=ho
   have hp':sS g W[c]? =some p:=hp
   rw[hwh] at hp'
   obtain⟨p0,hp0,rfl⟩:=Option.map_eq_some_iff.1 hp'
   obtain⟨p1,cs,hp1,hR,_⟩:=hH.blk i _ h1
   obtain⟨c1,c2,c3,hcs,hl,hR2⟩:=AD hR h2
   have l1:=q8 hR
   have l2:=q8 hR2
   rw[hcs] at l1
   simp only[List.length_append] at l1
   exact⟨_,hwh,hc,⟨_,hp,e1,e2,e3⟩,h1,p0,hp0,e1,by simp at e2;omega,by simp at e3;omega⟩
  |_=>exact hw.elim
 |tok k=>
  cases b with
  |grow e cc m=>
   obtain⟨v,hv,hb⟩:=ho
   have hv':xV g W[c]? m=some v:=hv
   rw[hwh] at hv'
   exact⟨_,hwh,hc,⟨v,hv,hb⟩,hw,v,hv',hb⟩
  |map s t l=>
   obtain⟨p,hp,hb⟩:=ho
   have hp':sS g W[c]? =some p:=hp
   rw[hwh] at hp'
   exact⟨_,hwh,hc,⟨p,hp,hb⟩,hw.1,p,hp',hb⟩
  |row e t l m=>
   obtain⟨v,hv,hb⟩:=ho
   have hv':xV g W[c]? m=some v:=hv
   rw[hwh] at hv'
   exact⟨_,hwh,hc,⟨v,hv,hb⟩,hw.1,v,hv',hb⟩
  |_=>exact hw.elim
section
variable {g g':Gh}{w w':World}{H:Heap}{W:List Whence}{L:List Blk}{r:Ret}{v:Value}{base:Nat}{upd:List (Nat×Blk)}
variable (hH:HeapOk g w H) (hm:Matched H W L) (hr:RetOk (canGh g W) w L r g' w' v) (hb:xQ base r.H.length W 0 W r.H=some upd) (hf: ∀i,i∈idsOf upd→base≤i→g.J i=none∧∀n,g.cur i n=none)
include hH hm hr hb hf
theorem T9 {b o:Nat}(h:ownsAny (canGh g W) (enumH 0 L) b o):ownsIn g H (idsOf upd) b o:=by
 obtain⟨c,wh,b0,blk,h1,h2,h3,h4,h5⟩:=a3F hH hm h
 exact⟨wh.id,blk,(AF hH hm hr hb hf h1).1,h4,h5⟩
theorem aAF:Fr (ownsIn g H (idsOf upd)) w w' g.S (qS g g' base W (idsOf upd)).S:=hr.fr.mono fun _ _ h=>T9 hH hm hr hb hf h
theorem NM {id:Nat}{b:Blk}(hi:id∈idsOf upd) (hg:getH (app upd H) id=some b):CW base r.H.length W W r.H 0 id b:=by
 obtain⟨_,k2,k3,_⟩:=GG hb
 obtain⟨b',hb'⟩:=k3 id hi
 have:getH (app upd H) id=some b':=by
  have: ∀{u:List (Nat×Blk)},getH u id=some b'→getH (app u H) id=some b':=by
   intro u
   induction u with
   |nil=>intro h;cases h
   |cons q u ih=>
    intro h
    simp only[app,getH] at h⊢
    split
    ·rename_i e;rw[if_pos e] at h;exact h
    ·rename_i e;rw[if_neg e] at h;exact ih h
  exact this hb'
 rw[this] at hg
 obtain rfl:=Option.some.inj hg
 exact k2 id b' hb'
theorem TA {c i o:Nat}{u:Ty}{x:u.den}{toks:List (Nat×Nat)}{b0 b:Blk}(hW:W[c]? =some (.box i u x toks o)) (hR:r.H[c]? =some b0) (hbb:u6 base r.H.length i o W u x toks b0=some (i,b)):
  BlkOk (qS g g' base W (idsOf upd)) w' i b∧(∀bb oo,owns (qS g g' base W (idsOf upd)) i b bb oo→owns g i (.cells u x toks) bb oo∧getH H i=some (.cells u x toks))∧
   ∀bb oo,owns (qS g g' base W (idsOf upd)) i b bb oo→owns g' c b0 bb oo∨(bb<w.heap.size∧¬ownsAny (canGh g W) (enumH 0 L) bb oo):=by
 obtain⟨hin,hlt,bL,hL,hok⟩:=AF hH hm hr hb hf hW
 have hJi:=(JD hH hm hr hb hf hW).1
 have hle:=a3B hH hm hr hb hf
 cases bL with
 |grow=>exact hok.elim
 |row=>exact hok.elim
 |map=>exact hok.elim
 |iter=>exact hok.elim
 |dead=>exact hok.elim
 |cells tL yL tsL=>
  obtain⟨h1,h2,h4⟩:=hok
  obtain⟨p,cs,hp,hRd,hra,hth,hns,htk⟩:=hH.blk i _ h1
  cases b0 with
  |grow=>simp [u6] at hbb
  |row=>simp [u6] at hbb
  |map=>simp [u6] at hbb
  |iter=>simp [u6] at hbb
  |dead=>
   simp only[u6,Option.some.injEq,Prod.mk.injEq,true_and] at hbb
   subst hbb
   exact⟨trivial,fun _ _ h=>h.elim,fun _ _ h=>h.elim⟩
  |cells t y ts=>
   have htt:=hr.ty c _ _ _ _ _ _ hL hR
   subst htt
   obtain⟨y2,z,hbY,hset,hq⟩:=T7 hbb
   ·simp only[Prod.mk.injEq,true_and] at hq
    subst hq
    have hblk:=hr.heap.blk c _ (by rw[uK];exact hR)
    obtain⟨p',cs',hp',hRd',hra',hth',hns',htk'⟩:=hblk
    have hJc:=hr.J c _ _ _ hL
    have hpc:g'.J c=some ⟨p.1,p.2+o,p.3⟩:=by
     rw[hJc]
     show sS g W[c]? =_
     rw[hW];simp [sS,hp]
    rw[hpc] at hp'
    obtain rfl:=Option.some.inj hp'
    have hRdx:Rd (qS g g' base W (idsOf upd)) w' u x cs:=uC hle hRd
    have hRdy:Rd (qS g g' base W (idsOf upd)) w' t y2 cs':=a3C hH hm hr hb hf hRd' hbY
    obtain⟨c1,c2,c3,hcs,hl1,hl2,hz⟩:=N0 hRdy hRdx hset
    subst hcs
    subst hl1
    have l0:=q8 hRd
    have l1:=q8 hRd'
    simp only[List.length_append] at l0
    have hfar: ∀q,q<u.cells→¬(c1.length≤q∧q<c1.length+t.cells)→¬ownsAny (canGh g W) (enumH 0 L) p.1 (p.2+q):=by
     intro q hq hno hown
     obtain⟨c',wh',b',blk',k1,k2,k3,k4,k5⟩:=a3F hH hm hown
     by_cases hcc:c'=c
     ·subst hcc
      rw[hW] at k1
      obtain rfl:=Option.some.inj k1
      rw[hL] at k2
      obtain rfl:=Option.some.inj k2
      obtain⟨pp,hpp,e1,e2,e3⟩:=k3
      have hpp':sS g W[c']? =some pp:=hpp
      rw[hW] at hpp'
      simp only[sS,hp,Option.map_some,Option.some.injEq] at hpp'
      subst hpp'
      simp only at e2 e3
      exact hno ⟨by omega,by omega⟩
     ·have hid:wh'.id≠i:=fun e=>hcc (NF hm.nodup k1 hW e)
      exact hH.dis wh'.id i blk' _ p.1 (p.2+q) hid k4 h1 k5 ⟨p,hp,rfl,by omega,by omega⟩
    have hlt': ∀q,q<u.cells→p.1<w.heap.size:=fun q hq=>J4 (hH.blk i _ h1) (b:=p.1) (o:=p.2+q) ⟨p,hp,rfl,by omega,by omega⟩
    have hkeep: ∀q,q<u.cells→¬(c1.length≤q∧q<c1.length+t.cells)→w'.cell? ⟨p.1,p.2+q,none⟩=w.cell? ⟨p.1,p.2+q,none⟩∧w'.frozen? ⟨p.1,p.2+q,none⟩=w.frozen? ⟨p.1,p.2+q,none⟩:=fun q hq hno=>hr.fr.cell _ _ (hlt' q hq) (hfar q hq hno)
    refine⟨⟨p,c1++cs'++c3,by rw[hJi];exact hp,hz,fun q vv hv=> ?_,⟨fun q hq=> ?_,fun h0 s hs=> ?_⟩,fun q hq hs=> ?_,?_⟩,fun bb oo ho=>⟨?_,h1⟩,fun bb oo ho=> ?_⟩
    ·by_cases a1:q<c1.length
     ·rw[(hkeep q (by omega) (by omega)).1]
      refine hra q vv ?_
      rw[List.append_assoc,List.getElem?_append_left a1] at hv⊢
      exact hv
     ·by_cases a2:q<c1.length+t.cells
      ·rw[List.append_assoc,List.getElem?_append_right (by omega),List.getElem?_append_left (by omega)] at hv
       have:=hra' (q-c1.length) vv hv
       rwa [show p.2+c1.length+(q-c1.length)=p.2+q from by omega] at this
      ·rw[List.append_assoc,List.getElem?_append_right (by omega),List.getElem?_append_right (by omega)] at hv
       have hq:q<u.cells:=by
        have:=(List.getElem?_eq_some_iff.1 hv).1
        omega
       rw[(hkeep q hq (by omega)).1]
       refine hra q vv ?_
       rw[List.append_assoc,List.getElem?_append_right (by omega),List.getElem?_append_right (by omega),hl2]
       rw[l1] at hv
       exact hv
    ·by_cases a1:c1.length≤q∧q<c1.length+t.cells
     ·have:=hth'.1 (q-c1.length) (by omega)
      rwa [show p.2+c1.length+(q-c1.length)=p.2+q from by omega] at this
     ·rw[(hkeep q hq a1).1,(hkeep q hq a1).2]
      exact hth.1 q hq
    ·by_cases ht0:0<t.cells
     ·exact hth'.2 ht0 s hs
     ·exact(hr.fr.shape p.1 s (hth.2 h0 s hs)).resolve_right fun h=>hfar 0 h0 (by omega) (h (p.2+0))
    ·by_cases a1:c1.length≤q∧q<c1.length+t.cells
     ·exact hns' (q-c1.length) (by omega) (by rw[show p.2+c1.length+(q-c1.length)=p.2+q from by omega];exact hs)
     ·rcases hr.fr.new _ _ hs with k|k|k
      ·exact hns q hq k
      ·have:=hlt' q hq;omega
      ·exact hfar q hq a1 k
    ·intro q kk hmem
     rcases tK.1 hmem with hmem|hmem
     ·obtain⟨q',c',k1,k2,rfl⟩:=NL hmem
      rw[wB] at k2
      obtain⟨u',l,vv,g1,g2,g3⟩:=htk' q' c' k1
      have hq':=a2X g1
      refine⟨u',l,vv,a2W hset (a3D hbY g1) hq',?_,?_⟩
      ·rw[List.append_assoc,List.getElem?_append_right (by omega),Nat.add_sub_cancel_left,List.getElem?_append_left (by omega)]
       exact g2
      ·rw[(EJ hH hm hr hb hf k2).2];exact g3
     ·obtain⟨k1,k2⟩:=T8 hmem
      obtain⟨u',l,vv,g1,g2,g3⟩:=htk q kk k1
      refine⟨u',l,vv,a2N hH hset g1 k2,?_,hle.cur _ _ _ g3⟩
      rcases Nat.lt_or_ge q c1.length with a1|a1
      ·rw[List.append_assoc,List.getElem?_append_left a1] at g2⊢
       exact g2
      ·rw[List.append_assoc,List.getElem?_append_right (by omega),List.getElem?_append_right (by omega)] at g2⊢
       rw[l1]
       rw[hl2] at g2
       exact g2
    ·obtain⟨pp,hpp,e1,e2,e3⟩:=ho
     rw[hJi,hp] at hpp
     obtain rfl:=Option.some.inj hpp
     exact⟨p,hp,e1,e2,e3⟩
    ·obtain⟨pp,hpp,e1,e2,e3⟩:=ho
     rw[hJi,hp] at hpp
     obtain rfl:=Option.some.inj hpp
     subst e1
     by_cases a1:c1.length≤oo-p.2∧oo-p.2<c1.length+t.cells
     ·exact .inl ⟨_,hpc,rfl,by simp only;omega,by simp only;omega⟩
     ·right
      refine⟨hlt' (oo-p.2) (by omega),?_⟩
      have:=hfar (oo-p.2) (by omega) a1
      rwa [show p.2+(oo-p.2)=oo from by omega] at this
theorem TB {c:Nat}{b0 b:Blk}(hn:W[c]? =none) (hR:r.H[c]? =some b0) (hbn:zK base r.H.length c W b0=some (base+c,b)):
  BlkOk (qS g g' base W (idsOf upd)) w' (base+c) b∧∀bb oo,owns (qS g g' base W (idsOf upd)) (base+c) b bb oo→owns g' c b0 bb oo:=by
 have hc:=(List.getElem?_eq_some_iff.1 hR).1
 obtain⟨hJ,hcur⟩:=GH hH hm hr hb hf hc hn
 have hblk:=hr.heap.blk c _ (by rw[uK];exact hR)
 cases b0 with
 |dead=>
  simp only[zK,Option.some.injEq,Prod.mk.injEq,true_and] at hbn
  subst hbn
  exact⟨trivial,fun _ _ h=>h.elim⟩
 |grow e m k=>
  simp only[zK,Option.some.injEq,Prod.mk.injEq,true_and] at hbn
  subst hbn
  obtain⟨u,xs,hv,h1,h2,h3⟩:=hblk
  exact⟨⟨u,xs,by rw[hcur];exact hv,h1,fun m hm'=>by rw[hcur];exact h2 m hm',h3⟩,fun bb oo ⟨v',hv',hb'⟩=>⟨v',by rw[hcur] at hv';exact hv',hb'⟩⟩
 |row e t l n=>
  simp only[zK] at hbn
  split at hbn
  ·rename_i hp
   simp only[Option.some.injEq,Prod.mk.injEq,true_and] at hbn
   subst hbn
   obtain⟨h0,u,xs,hv,h1,h4,h2,h3⟩:=hblk
   exact⟨⟨h0,u,xs,by rw[hcur];exact hv,h1,yX (fun _ _ h=>sN (g:=g') (g':=qS g g' base W (idsOf upd)) rfl hp h) h4,fun m hm'=>by rw[hcur];exact h2 m hm',h3⟩,fun bb oo ⟨v',hv',hb'⟩=>⟨v',by rw[hcur] at hv';exact hv',hb'⟩⟩
  ·cases hbn
 |iter s n=>simp [zK] at hbn
 |map k v l=>
  simp only[zK] at hbn
  split at hbn
  ·rename_i hp
   rw[Bool.and_eq_true] at hp
   simp only[Option.some.injEq,Prod.mk.injEq,true_and] at hbn
   subst hbn
   obtain⟨p,es,cl,hp1,hp0,hh,hM,hS⟩:=hblk
   exact⟨⟨p,es,cl,by rw[hJ];exact hp1,hp0,hh,J1 (g:=g') (g':=qS g g' base W (idsOf upd)) rfl hp.1 hp.2 hM,hS⟩,fun bb oo ⟨pp,hpp,e⟩=>⟨pp,by rw[hJ] at hpp;exact hpp,e⟩⟩
  ·cases hbn
 |cells t y ts=>
  have tP: ∀y2,bY base r.H.length W t y y2→BlkOk (qS g g' base W (idsOf upd)) w' (base+c) (.cells t y2 (zJ base r.H.length W 0 ts))∧∀bb oo,owns (qS g g' base W (idsOf upd)) (base+c) (.cells t y2 (zJ base r.H.length W 0 ts)) bb oo→owns g' c (.cells t y ts) bb oo:=by
   intro y2 hbY
   obtain⟨p,cs,hp1,hR1,h1,h2,h3,h4⟩:=hblk
   refine⟨⟨p,cs,by rw[hJ];exact hp1,a3C hH hm hr hb hf hR1 hbY,h1,h2,h3,fun q kk hmem=> ?_⟩,fun bb oo ⟨pp,hpp,e⟩=>⟨pp,by rw[hJ] at hpp;exact hpp,e⟩⟩
   obtain⟨q',c',k1,k2,rfl⟩:=NL hmem
   rw[wB] at k2
   obtain⟨u',l,vv,g1,g2,g3⟩:=h4 q' c' k1
   exact⟨u',l,vv,by rw[Nat.zero_add];exact a3D hbY g1,by rw[Nat.zero_add];exact g2,by rw[(EJ hH hm hr hb hf k2).2];exact g3⟩
  simp only[zK] at hbn
  split at hbn
  ·rename_i hp
   simp only[Option.some.injEq,Prod.mk.injEq,true_and] at hbn
   subst hbn
   exact tP y (.inl ⟨hp,rfl⟩)
  ·obtain⟨y2,hy,hq⟩:=a3y hbn
   simp only[Prod.mk.injEq,true_and] at hq
   subst hq
   exact tP y2 (.inr hy)
theorem TC {c k:Nat}{b0 b:Blk}(hW:W[c]? =some (.tok k)) (hR:r.H[c]? =some b0) (hbk:w5 k b0=some (k,b)):
  BlkOk (qS g g' base W (idsOf upd)) w' k b∧∀bb oo,owns (qS g g' base W (idsOf upd)) k b bb oo→owns g' c b0 bb oo:=by
 obtain⟨hJ,hcur⟩:=a3A hH hm hr hb hf hW
 have hblk:=hr.heap.blk c _ (by rw[uK];exact hR)
 cases b0 with
 |dead=>
  simp only[w5,Option.some.injEq,Prod.mk.injEq,true_and] at hbk
  subst hbk
  exact⟨trivial,fun _ _ h=>h.elim⟩
 |grow e m n=>
  simp only[w5,Option.some.injEq,Prod.mk.injEq,true_and] at hbk
  subst hbk
  obtain⟨u,xs,hv,h1,h2,h3⟩:=hblk
  exact⟨⟨u,xs,by rw[hcur];exact hv,h1,fun m hm'=>by rw[hcur];exact h2 m hm',h3⟩,fun bb oo ⟨v',hv',hb'⟩=>⟨v',by rw[hcur] at hv';exact hv',hb'⟩⟩
 |row e t l n=>
  simp only[w5] at hbk
  split at hbk
  ·rename_i hp
   simp only[Option.some.injEq,Prod.mk.injEq,true_and] at hbk
   subst hbk
   obtain⟨h0,u,xs,hv,h1,h4,h2,h3⟩:=hblk
   exact⟨⟨h0,u,xs,by rw[hcur];exact hv,h1,yX (fun _ _ h=>sN (g:=g') (g':=qS g g' base W (idsOf upd)) rfl hp h) h4,fun m hm'=>by rw[hcur];exact h2 m hm',h3⟩,fun bb oo ⟨v',hv',hb'⟩=>⟨v',by rw[hcur] at hv';exact hv',hb'⟩⟩
  ·cases hbk
 |iter s n=>simp [w5] at hbk
 |map s v l=>
  simp only[w5] at hbk
  split at hbk
  ·rename_i hp
   rw[Bool.and_eq_true] at hp
   simp only[Option.some.injEq,Prod.mk.injEq,true_and] at hbk
   subst hbk
   obtain⟨p,es,cl,hp1,hp0,hh,hM,hS⟩:=hblk
   exact⟨⟨p,es,cl,by rw[hJ];exact hp1,hp0,hh,J1 (g:=g') (g':=qS g g' base W (idsOf upd)) rfl hp.1 hp.2 hM,hS⟩,fun bb oo ⟨pp,hpp,e⟩=>⟨pp,by rw[hJ] at hpp;exact hpp,e⟩⟩
  ·cases hbk
 |cells t y ts=>simp [w5] at hbk
theorem aAG {side:List Prop}{s:Slot}{rds:List Nat}{vv:Value}(hs:RdS (qS g g' base W (idsOf upd)) w' s vv):EffOk g w H ⟨side,s,upd,rds⟩ (qS g g' base W (idsOf upd)) w' vv:=by
 have le:=a3B hH hm hr hb hf
 have fr:=aAF hH hm hr hb hf
 have gho: ∀i,i∉idsOf upd→(qS g g' base W (idsOf upd)).J i=g.J i∧(qS g g' base W (idsOf upd)).cur i=g.cur i:=fun i hi=>
  a3z hH hm hr hb hf (fun h=>hi h.2) (NK fun c hc=>hi ((AF hH hm hr hb hf hc).1))
 have perm: ∀i blk b o,i∈idsOf upd→getH (app upd H) i=some blk→owns (qS g g' base W (idsOf upd)) i blk b o→w.heap.size≤b∨ownsIn g H (idsOf upd) b o:=by
  intro i blk b o hi hg ho
  rcases NM hH hm hr hb hf hi hg with⟨c,i',u,x,toks,off,b0,h1,h2,h3,h4⟩ |⟨c,k,b0,h1,h2,h3,h4⟩ |⟨c,b0,h1,h2,h3,h4⟩
  ·subst h2
   obtain⟨_,k2,_⟩:=TA hH hm hr hb hf h1 h3 h4
   exact .inr ⟨i,_,hi,(k2 b o ho).2,(k2 b o ho).1⟩
  ·subst h2
   obtain⟨_,k2⟩:=TC hH hm hr hb hf h1 h3 h4
   exact(hr.perm c b0 b o h3 (k2 b o ho)).imp id fun h=>T9 hH hm hr hb hf h
  ·rw[Nat.zero_add] at h2 h4
   subst h2
   obtain⟨_,k2⟩:=TB hH hm hr hb hf h3 h1 h4
   exact(hr.perm c b0 b o h1 (k2 b o ho)).imp id fun h=>T9 hH hm hr hb hf h
 refine⟨le,hs,hH.upd le fr perm gho (fun i blk hi hg=> ?_) (fun i j bi bj b o hi hj hij hgi hgj hoi hoj=> ?_) (fun b o h=>hr.heap.sl b o h),fr,perm,gho,fun i u' y us h=> ?_⟩
 ·rcases NM hH hm hr hb hf hi hg with⟨c,i',u,x,toks,off,b0,h1,h2,h3,h4⟩ |⟨c,k,b0,h1,h2,h3,h4⟩ |⟨c,b0,h1,h2,h3,h4⟩
  ·subst h2;exact(TA hH hm hr hb hf h1 h3 h4).1
  ·subst h2;exact(TC hH hm hr hb hf h1 h3 h4).1
  ·rw[Nat.zero_add] at h2 h4
   subst h2;exact(TB hH hm hr hb hf h3 h1 h4).1
 ·have cls: ∀{i:Nat}{blk:Blk},i∈idsOf upd→getH (app upd H) i=some blk→owns (qS g g' base W (idsOf upd)) i blk b o→
    (∃c u x toks off b0,W[c]? =some (.box i u x toks off)∧r.H[c]? =some b0∧owns g i (.cells u x toks) b o∧getH H i=some (.cells u x toks)∧(owns g' c b0 b o∨(b<w.heap.size∧¬ownsAny (canGh g W) (enumH 0 L) b o)))∨
    (∃c b0,wU base r.H.length c W[c]? =some i∧r.H[c]? =some b0∧owns g' c b0 b o):=by
   intro i blk hi hg ho
   rcases NM hH hm hr hb hf hi hg with⟨c,i',u,x,toks,off,b0,h1,h2,h3,h4⟩ |⟨c,k,b0,h1,h2,h3,h4⟩ |⟨c,b0,h1,h2,h3,h4⟩
   ·subst h2
    obtain⟨_,k2,k3⟩:=TA hH hm hr hb hf h1 h3 h4
    exact .inl ⟨c,u,x,toks,off,b0,h1,h3,(k2 b o ho).1,(k2 b o ho).2,k3 b o ho⟩
   ·subst h2
    obtain⟨_,k2⟩:=TC hH hm hr hb hf h1 h3 h4
    exact .inr ⟨c,b0,by rw[h1];rfl,h3,k2 b o ho⟩
   ·rw[Nat.zero_add] at h2 h4
    subst h2
    obtain⟨_,k2⟩:=TB hH hm hr hb hf h3 h1 h4
    exact .inr ⟨c,b0,by rw[h3];simp only[wU];rw[if_pos (List.getElem?_eq_some_iff.1 h1).1],h1,k2 b o ho⟩
  have cross: ∀{c c':Nat}{b0 b1:Blk},c≠c'→r.H[c]? =some b0→r.H[c']? =some b1→owns g' c b0 b o→owns g' c' b1 b o→False:=fun hne h1 h2 o1 o2=>
   hr.heap.dis _ _ _ _ b o hne (by rw[uK];exact h1) (by rw[uK];exact h2) o1 o2
  rcases cls hi hgi hoi with⟨c,u,x,toks,off,b0,h1,h2,h3,h4,h5⟩ |⟨c,b0,h1,h3,h4⟩<;>rcases cls hj hgj hoj with⟨c',u',x',toks',off',b0',k1,k2,k3,k4,k5⟩ |⟨c',b0',k1,k3,k4⟩
  ·exact hH.dis i j _ _ b o hij h4 k4 h3 k3
  ·rcases h5 with h5|⟨h5,h6⟩
   ·exact cross (fun e=>by subst e;rw[h1] at k1;cases k1) h2 k3 h5 k4
   ·rcases hr.perm c' b0' b o k3 k4 with h|h
    ·omega
    ·exact h6 h
  ·rcases k5 with k5|⟨k5,k6⟩
   ·exact cross (fun e=>by subst e;rw[k1] at h1;cases h1) h3 k2 h4 k5
   ·rcases hr.perm c b0 b o h3 h4 with h|h
    ·omega
    ·exact k6 h
  ·exact cross (fun e=>by subst e;rw[h1] at k1;exact hij (Option.some.inj k1)) h3 k3 h4 k4
 ·by_cases hi:i∈idsOf upd
  ·rcases NM hH hm hr hb hf hi h with⟨c,i',u,x,toks,off,b0,h1,h2,h3,h4⟩ |⟨c,k,b0,h1,h2,h3,h4⟩ |⟨c,b0,h1,h2,h3,h4⟩
   ·subst h2
    obtain⟨_,_,bL,hL,hok⟩:=AF hH hm hr hb hf h1
    cases b0 with
    |cells t y0 ts=>
     obtain⟨y2,z,_,hset,hq⟩:=T7 h4
     simp only[Prod.mk.injEq,Blk.cells.injEq,true_and] at hq
     obtain⟨rfl,_⟩:=hq
     cases bL with
     |cells=>exact .inl ⟨x,toks,hok.1⟩
     |_=>exact hok.elim
    |grow=>simp [u6] at h4
    |row=>simp [u6] at h4
    |map=>simp [u6] at h4
    |iter=>simp [u6] at h4
    |dead=>simp [u6] at h4
   ·cases b0 with
    |cells t y0 ts=>simp [w5] at h4
    |iter=>simp [w5] at h4
    |map=>simp only[w5] at h4;split at h4<;>simp at h4
    |row=>simp only[w5] at h4;split at h4<;>simp at h4
    |_=>simp [w5] at h4
   ·rw[Nat.zero_add] at h2
    exact .inr (hf i hi (by omega))
  ·exact .inl ⟨y,us,(yI hi).symm.trans h⟩
end
end Go.Proofs.YtfchbnahjcdiiaaGreatDoor.Vc
namespace Go.Proofs.YtfchbnahjcdiiaaGreatDoor.Vc
open Go.RowKit
set_option linter.unusedSectionVars false
section
variable {P:Program}{g:Gh}{w:World}
def aAH (P:Program) (g:Gh) (w:World) (d:Nat) (ty:Ty) (x y:ty.den):EqIx→Prop
 | .ty t=> ∀vx vy,qQ g w ty x vx→qQ g w ty y vy→∃b,y9 ty x y=some b∧(Op.equalIn (d+1) t vx vy).run P w= .ok b w
 | .fs o l=> ∀px py cx cy,px.length=o→py.length=o→Rd g w ty x cx→Rd g w ty y cy→∃b,y9 ty x y=some b∧(Op.eqFields (d+1) (px++cx).toArray (py++cy).toArray l).run P w= .ok b w
 | .el e i m=> ∀px py cx cy,px.length=i*P.cellsOf e→py.length=i*P.cellsOf e→Rd g w ty x cx→Rd g w ty y cy→∃b,y9 ty x y=some b∧(Op.eqItems (d+1) e (P.cellsOf e) (px++cx).toArray (py++cy).toArray (List.range' i m)).run P w= .ok b w
theorem aAI {e:TypeId}{n:Nat}(h:(P.info? e).map (·.size)=some n):P.cellsOf e=n:=by
 obtain⟨i,h1,h2⟩:=Option.map_eq_some_iff.1 h
 simp [Program.cellsOf,h1,h2]
theorem EqT.run {n:Nat}{ix:EqIx}{ty:Ty}(h:EqT P n ix ty): ∀(d:Nat),n≤d→∀x y:ty.den,aAH P g w d ty x y ix:=by
 induction h with
 |bool hu=>
  intro d _ x y vx vy hx hy
  obtain rfl:=tU hx
  obtain rfl:=tU hy
  exact⟨_,rfl,run_equalIn_bool' w d _ _ _ hu⟩
 |int hu=>
  intro d _ x y vx vy hx hy
  obtain rfl:=tI hx
  obtain rfl:=tI hy
  refine⟨_,rfl,(run_equalIn_int w d _ _ _ _ _ hu).trans ?_⟩
  congr 1
 |str hu=>
  intro d _ x y vx vy hx hy
  obtain rfl:=vU hx
  obtain rfl:=vU hy
  refine⟨_,rfl,(run_equalIn_string w d _ _ _ hu).trans ?_⟩
  congr 1
  rw[ByteArray.toList_eq,ByteArray.toList_eq]
  exact J7 _ _
 | @struct h0 t0 fs0 ty0 hr hu hs _ ih=>
  intro d hd x y vx vy hx hy
  obtain⟨cx,rfl,rx⟩:=EG hr hx
  obtain⟨cy,rfl,ry⟩:=EG hr hy
  obtain⟨d,rfl⟩: ∃d',d=d'+1:=⟨d-1,by omega⟩
  obtain⟨b,h1,h2⟩:=ih d (by omega) x y [] [] cx cy rfl rfl rx ry
  refine⟨b,h1,?_⟩
  have hf:P.fieldsOf t0=fs0:=by unfold Program.fieldsOf;rw[hu]
  rw[run_equalIn_struct w _ _ _ _ (by rw[hf];exact hu) hs,hf]
  simpa using h2
 |arr hr hu hi _ ih=>
  intro d hd x y vx vy hx hy
  obtain⟨cx,rfl,rx⟩:=EG hr hx
  obtain⟨cy,rfl,ry⟩:=EG hr hy
  obtain⟨d,rfl⟩: ∃d',d=d'+1:=⟨d-1,by omega⟩
  obtain⟨b,h1,h2⟩:=ih d (by omega) x y [] [] cx cy (by simp) (by simp) rx ry
  refine⟨b,h1,?_⟩
  obtain⟨i,hi⟩:=Option.isSome_iff_exists.1 hi
  rw[run_equalIn_array w _ _ _ hu hi,List.range_eq_range']
  simpa using h2
 |nil=>
  intro d _ x y px py cx cy _ _ _ _
  exact⟨true,rfl,by simp [Op.eqFields]⟩
 |anil=>
  intro d _ x y px py cx cy _ _ _ _
  exact⟨true,rfl,by simp [Op.eqItems]⟩
 | @cons h o f r a b hn ho hsz hrow _ _ iha ihb=>
  intro d hd x y px py cx cy hpx hpy ⟨x1,x2,ex,rx1,rx2⟩ ⟨y1,y2,ey,ry1,ry2⟩
  subst ex
  subst ey
  obtain⟨vx,p1,v1⟩:=J8 (P:=P) (c1:=px) (c3:=x2) hsz hrow rx1
  obtain⟨vy,p2,v2⟩:=J8 (P:=P) (c1:=py) (c3:=y2) hsz hrow ry1
  obtain⟨b1,e1,r1⟩:=iha d hd x.1 y.1 vx vy v1 v2
  obtain⟨b2,e2,r2⟩:=ihb d hd x.2 y.2 (px++x1) (py++y1) x2 y2 (by rw[List.length_append,hpx,q8 rx1]) (by rw[List.length_append,hpy,q8 ry1]) rx2 ry2
  refine⟨b1&&b2,by simp only[y9,e1,e2,y9.eqAnd],?_⟩
  rw[List.append_assoc] at p1 p2 r2
  rw[List.append_assoc] at r2
  rw[hpx,←ho] at p1
  rw[hpy,←ho] at p2
  simp only[Op.eqFields,if_pos hn,Sem.run_bind,p1,p2,Result.andThen_ok,r1]
  cases b1
  ·simp
  ·simpa using r2
 | @acons h e i m a b hsz hrow _ _ iha ihb=>
  intro d hd x y px py cx cy hpx hpy ⟨x1,x2,ex,rx1,rx2⟩ ⟨y1,y2,ey,ry1,ry2⟩
  subst ex
  subst ey
  have hc:=aAI hsz
  obtain⟨vx,p1,v1⟩:=J8 (P:=P) (c1:=px) (c3:=x2) hsz hrow rx1
  obtain⟨vy,p2,v2⟩:=J8 (P:=P) (c1:=py) (c3:=y2) hsz hrow ry1
  obtain⟨b1,e1,r1⟩:=iha d hd x.1 y.1 vx vy v1 v2
  obtain⟨b2,e2,r2⟩:=ihb d hd x.2 y.2 (px++x1) (py++y1) x2 y2 (by rw[List.length_append,hpx,q8 rx1,hc,Nat.succ_mul]) (by rw[List.length_append,hpy,q8 ry1,hc,Nat.succ_mul]) rx2 ry2
  refine⟨b1&&b2,by simp only[y9,e1,e2,y9.eqAnd],?_⟩
  rw[List.append_assoc] at p1 p2 r2
  rw[List.append_assoc] at r2
  rw[hpx] at p1
  rw[hpy] at p2
  simp only[List.range'_succ,Op.eqItems,Sem.run_bind,p1,p2,Result.andThen_ok,r1]
  cases b1
  ·simp
  ·simpa using r2
variable {o:Oper}{a:Act}{H:Heap}{T:Types}(hT:TypesOk P T) (hH:HeapOk g w H)
include hT hH
theorem aAJ {op:BinOp}{xt yt:TypeId}{x y:Operand}(ho:o.op= .binOp op xt x y yt) {sx sy:Slot}(hx:RdS g w sx (a.eval x)) (hy:RdS g w sy (a.eval y)) {e:Eff}
  (hr:xN (R1 (pE T xt) op sx sy)=some e):pC P o a g w H e:=by
 obtain⟨q,hq,rfl⟩:=EH hr
 have go: ∀{u v:Value},a.eval x=u→a.eval y=v→(∃z,(do eqGuard op xt x y u v;Go.binOp op xt u v:Sem Value).run P w= .ok z w∧w8 g w q.2 z)→pC P o a g w H ⟨q.1,(q.2,none),[],[]⟩:=by
  rintro u v rfl rfl ⟨z,hz,hd⟩
  refine pC.pure hH (v:=z) ?_ hd
  unfold execOp
  rw[ho]
  simp only[Sem.run_bind,Sem.run_pure] at hz⊢
  rw[hz]
  rfl
 replace hx:=hx.1
 replace hy:=hy.1
 generalize hti:pE T xt=oti at hq
 unfold R1 at hq
 split at hq
 ·rename_i u el by' ar ls_ t l k k'
  have hd:=(qK hT hti).2
  simp only[uX] at hd
  obtain⟨ax,cx,ex,hle,hll⟩:=zS hx
  have hnil:ax=none→l=[]:=fun h=>by
   rcases hll with h1|⟨b,o,h1,_⟩
   ·exact h1
   ·rw[h] at h1;cases h1
  have ey:a.eval y= .slice none 0 0:=hy
  refine go ex ey ?_
  unfold LM at hq
  split at hq
  ·cases hq
   have h1:(do eqGuard .eql xt x y (.slice ax (List.length l) cx) (.slice none 0 0);Go.binOp .eql xt (.slice ax (List.length l) cx) (.slice none 0 0):Sem Value).run P w= .ok (.bool ax.isNone) w:=by
    simp only[Sem.run_bind]
    rw[show (eqGuard .eql xt x y (.slice ax (List.length l) cx) (.slice none 0 0)).run P w= .ok () w from by simp [eqGuard]]
    exact Lib.run_eql_slice_nil (P:=P) w xt _ ax (List.length l) cx 0 0 hd.1
   exact⟨_,h1,_,rfl,fun h=>hnil (by simpa using h),fun _=>trivial⟩
  ·cases hq
   have h1:(do eqGuard .neq xt x y (.slice ax (List.length l) cx) (.slice none 0 0);Go.binOp .neq xt (.slice ax (List.length l) cx) (.slice none 0 0):Sem Value).run P w= .ok (.bool (!ax.isNone)) w:=by
    simp only[Sem.run_bind]
    rw[show (eqGuard .neq xt x y (.slice ax (List.length l) cx) (.slice none 0 0)).run P w= .ok () w from by simp [eqGuard]]
    exact run_neq_slice_nil_any (P:=P) w xt _ ax (List.length l) cx 0 0 hd.1
   exact⟨_,h1,_,rfl,fun _=>trivial,fun h=>hnil (by simpa using h)⟩
  ·cases hq
 ·rename_i u el by' ar ls_ k t l k'
  have hd:=(qK hT hti).2
  simp only[uX] at hd
  obtain⟨ay,cy,ey,hle,hll⟩:=zS hy
  have hnil:ay=none→l=[]:=fun h=>by
   rcases hll with h1|⟨b,o,h1,_⟩
   ·exact h1
   ·rw[h] at h1;cases h1
  have ex:a.eval x= .slice none 0 0:=hx
  refine go ex ey ?_
  unfold LM at hq
  split at hq
  ·cases hq
   have h1:(do eqGuard .eql xt x y (.slice none 0 0) (.slice ay (List.length l) cy);Go.binOp .eql xt (.slice none 0 0) (.slice ay (List.length l) cy):Sem Value).run P w= .ok (.bool ay.isNone) w:=by
    simp only[Sem.run_bind]
    rw[show (eqGuard .eql xt x y (.slice none 0 0) (.slice ay (List.length l) cy)).run P w= .ok () w from by simp [eqGuard]]
    exact run_eql_nil_slice (P:=P) w xt _ ay (List.length l) cy 0 0 hd.1
   exact⟨_,h1,_,rfl,fun h=>hnil (by simpa using h),fun _=>trivial⟩
  ·cases hq
   have h1:(do eqGuard .neq xt x y (.slice none 0 0) (.slice ay (List.length l) cy);Go.binOp .neq xt (.slice none 0 0) (.slice ay (List.length l) cy):Sem Value).run P w= .ok (.bool (!ay.isNone)) w:=by
    simp only[Sem.run_bind]
    rw[show (eqGuard .neq xt x y (.slice none 0 0) (.slice ay (List.length l) cy)).run P w= .ok () w from by simp [eqGuard]]
    exact run_neq_nil_slice (P:=P) w xt _ ay (List.length l) cy 0 0 hd.1
   exact⟨_,h1,_,rfl,fun _=>trivial,fun h=>hnil (by simpa using h)⟩
  ·cases hq
 ·rename_i u el b ar ls_ t x' k t' y' k'
  unfold a1F at hq
  split at hq
  ·rename_i htt
   subst htt
   split at hq
   ·rename_i hc
    obtain⟨rfl,hc⟩:=hc
    simp only[rL] at hq
    obtain⟨r,hr1,hr2⟩: ∃r,y9 t' x' y'=some r∧((op= .eql∧q=([],.val .bool r))∨(op= .neq∧q=([],.val .bool (!r)))):=by
     generalize hgen:y9 t' x' y'=od at hq
     unfold a1E at hq
     split at hq
     ·rename_i r;cases hq;exact⟨r,rfl,.inl ⟨rfl,rfl⟩⟩
     ·rename_i r;cases hq;exact⟨r,rfl,.inr ⟨rfl,rfl⟩⟩
     ·cases hq
    have hti':=qK hT hti
    rcases hc with rfl|⟨hrow,rfl⟩
    ·have hd:=hti'.2
     simp only[uX] at hd
     obtain hbx:=tU hx
     obtain hby:=tU hy
     refine go hbx hby ?_
     have hrr:r=(x'==y'):=(Option.some.inj hr1).symm
     subst hrr
     have hrun:=run_equalIn_bool' (P:=P) w 9999 xt x' y' hd
     rcases hr2 with⟨rfl,rfl⟩ |⟨rfl,rfl⟩
     ·refine⟨.bool (x'==y'),?_,sZ _ _ _⟩
      simp only[Sem.run_bind]
      rw[show (eqGuard .eql xt x y (.bool x') (.bool y')).run P w= .ok () w from by simp [eqGuard]]
      simp only[Result.andThen_ok,Go.binOp,Op.equal,Op.maxDepth,Sem.run_bind,hrun,Sem.run_pure]
     ·refine⟨.bool (!(x'==y')),?_,sZ _ _ _⟩
      simp only[Sem.run_bind]
      rw[show (eqGuard .neq xt x y (.bool x') (.bool y')).run P w= .ok () w from by simp [eqGuard]]
      simp only[Result.andThen_ok,Go.binOp,Op.equal,Op.maxDepth,Sem.run_bind,hrun,Sem.run_pure]
    ·have h2:=hti'.2
     have heq:P.eqGuardType P.depth xt=false∧∃h,h<9000∧EqT P h (.ty xt) t':=by
      unfold uX at h2
      cases t'<;>simp only[Ty.isRow,Bool.false_eq_true] at hrow
      all_goals exact h2.2 rfl
     obtain⟨hg1,hh,hlt,hE⟩:=heq
     obtain⟨cx,ex,rx⟩:=EG hrow hx
     obtain⟨cy,ey,ry⟩:=EG hrow hy
     obtain⟨b',hb1,hb2⟩:=hE.run (g:=g) (w:=w) 9999 (by omega) x' y' _ _ hx hy
     rw[hr1] at hb1
     obtain rfl:=Option.some.inj hb1
     rw[ex,ey] at hb2
     refine go ex ey ?_
     rcases hr2 with⟨rfl,rfl⟩ |⟨rfl,rfl⟩
     ·refine⟨.bool r,?_,sZ _ _ _⟩
      simp only[Sem.run_bind]
      rw[run_eqGuard_agg w _ _ _ _ _ _ hg1]
      simp only[Result.andThen_ok]
      rw[run_eql_struct,hb2]
      rfl
     ·refine⟨.bool (!r),?_,sZ _ _ _⟩
      simp only[Sem.run_bind]
      rw[run_eqGuard_agg w _ _ _ _ _ _ hg1]
      simp only[Result.andThen_ok]
      rw[run_neq_struct,hb2]
      rfl
   ·cases hq
  ·cases hq
 ·cases hq
end
end Go.Proofs.YtfchbnahjcdiiaaGreatDoor.Vc
namespace Go.Proofs.YtfchbnahjcdiiaaGreatDoor.Vc
open Go.RowKit
set_option linter.unusedSectionVars false
theorem aAK (s:List UInt8):Lib.strCells ⟨s.toArray⟩=s.map fun b=>Value.int .u8 b.toNat:=by
 simp [Lib.strCells]
theorem aAL {P:Program}(w:World) (t u ty e:TypeId) (i:TypeInfo) (ht:P.underlying t=some (.slice e)) (hu:P.underlying u=some .string) (hi:P.info? e=some i) (hz:i.zero=some (.int .u8 0))
  (hsize:i.size=1) (hby:i.bytes=1) (v:Value) (n:Nat) (xs:List Value) (hown:w.ownsRow 0 e 1 v n xs) (s:ByteArray) (hm:0<s.size)
  (h63:n+s.size≤maxLen) (hbytes:n+s.size≤140737488355328):
  ∃q cap w',(Builtin.append_ #[t,u] ty #[v,.string s]).run P w= .ok (.slice (some ⟨q,0,none⟩) (n+s.size) cap) w'∧w'.ownsRow 0 e 1 (.slice (some ⟨q,0,none⟩) (n+s.size) cap) (n+s.size) (xs++Lib.strCells s)∧
   (q=w.heap.size∨v.ownBlock=some q)∧w.grownBy w' v.ownBlock∧n+s.size≤cap∧
   ∀b o,b<w.heap.size→(v.ownBlock=some b→o<n*1)→w'.cell? ⟨b,o,none⟩=w.cell? ⟨b,o,none⟩:=by
 have hsmall:n+s.size≤9223372036854775807:=by simp only[maxLen] at h63;omega
 have hxl:xs.length=n:=by simpa using hown.1
 have hlen:(xs++Lib.strCells s).length=(n+s.size)*1:=by rw[List.length_append,hxl,Lib.strCells_length,Nat.mul_one]
 have grown: ∀(old:Nat),old<n+s.size→∀(row:Option Nat),
   (w.drew.alloc (.cells (xs.toArray++(Lib.strCells s).toArray++Builtin.zeroCells (Value.int .u8 0).cells (grownCap w (n+s.size) old e- (n+s.size))) e)).ownsRow 0 e 1
    (.slice (some ⟨w.heap.size,0,none⟩) (n+s.size) (grownCap w (n+s.size) old e)) (n+s.size) (xs++Lib.strCells s)∧
   w.grownBy (w.drew.alloc (.cells (xs.toArray++(Lib.strCells s).toArray++Builtin.zeroCells (Value.int .u8 0).cells (grownCap w (n+s.size) old e- (n+s.size))) e)) row∧n+s.size≤grownCap w (n+s.size) old e∧
   ∀b o,b<w.heap.size→(w.drew.alloc (.cells (xs.toArray++(Lib.strCells s).toArray++Builtin.zeroCells (Value.int .u8 0).cells (grownCap w (n+s.size) old e- (n+s.size))) e)).cell? ⟨b,o,none⟩=w.cell? ⟨b,o,none⟩:=by
  intro old ho row
  have hge:=grownCap_ge w (n+s.size) old e
  have hcm:grownCap w (n+s.size) old e≤maxLen:=grownCap_le_maxLen w (n+s.size) old e h63
  refine⟨⟨hlen,.inr ⟨w.heap.size,_,_,rfl,Nat.zero_le _,heap_alloc_new w.drew _,hge,hcm,?_,?_⟩⟩,⟨rfl,rfl,rfl,by simp,fun k hk _=>Below.heap_alloc w.drew _ k hk⟩,hge,fun b o hb=>World.cell?_of_block (w:=w) (a:=⟨b,o,none⟩) (Below.heap_alloc w.drew _ b hb)⟩
  ·have hz1:(Value.int IntKind.u8 0).cells.size=1:=rfl
   simp only[Array.size_append,List.size_toArray,size_zeroCells,hz1,hxl,Lib.strCells_length]
   omega
  ·simp only[Array.toList_append,List.append_assoc]
   rw[←List.append_assoc,←hlen]
   exact List.take_left
 rcases hown.2 with⟨rfl,rfl⟩ |⟨g,cap,cur,rfl,hbg,hg,hnc,hcm,hcs,htake⟩
 ·have hx:xs=[]:=List.eq_nil_of_length_eq_zero hxl
  subst hx
  have hr:=run_append_nil_string (P:=P) w t u ty e i (.int .u8 0) ht hu hi hz s (by omega) (by omega) (by rw[hby];omega)
  have hgr:=grown 0 (by omega) (Value.ownBlock (.slice none 0 0))
  simp only[Nat.zero_add,List.nil_append,Array.empty_append] at hgr⊢
  have e1:(s.data.map fun b=>Value.int .u8 b.toNat)=(Lib.strCells s).toArray:=by
   apply Array.ext'
   simp [Lib.strCells]
  rw[e1] at hr
  exact⟨_,_,_,hr,hgr.1,.inl rfl,hgr.2.1,hgr.2.2.1,fun b o hb _=>hgr.2.2.2 b o hb⟩
 ·by_cases hroom:n+s.size≤cap
  ·have hcs':cur.size=cap:=by simpa using hcs
   have hr:=Lib.run_append_room_string (P:=P) w t u ty e i ht hu hi hsize g n cap cur hg s hroom (by omega)
   refine⟨_,_,_,hr,⟨hlen,.inr ⟨g,cap,_,rfl,hbg,setRow_heap w g cur _ e _ hg,hroom,hcm,?_,?_⟩⟩,.inr rfl,⟨rfl,rfl,rfl,by simp,fun k _ hk=>setRow_other w g k _ (fun e=>hk (by simp [Value.ownBlock,e]))⟩,hroom,fun b o hb hso=> ?_⟩
   ·simp only[List.size_toArray,List.length_append,List.length_take,List.length_drop,Array.length_toList,Lib.strCells_length]
    omega
   ·have ht':cur.toList.take n=xs:=by simpa using htake
    rw[ht',←hlen]
    exact List.take_left
   ·by_cases hbg':b=g
    ·subst hbg'
     have ho:=hso rfl
     rw[cell_setRow_same w b o cur _ e _ hg,cell_of_row w b o cur e (0,0) hg]
     have hlt:o<(cur.toList.take n).length:=by rw[List.length_take,Array.length_toList];omega
     have hlt2:o<cur.size:=by rw[List.length_take,Array.length_toList] at hlt;omega
     simp only[List.getElem?_toArray,List.append_assoc]
     rw[List.getElem?_append_left hlt,List.getElem?_take,if_pos (by omega)]
     simp
    ·exact World.cell?_of_block (a:=⟨b,o,none⟩) (setRow_other w g b _ hbg')
  ·have holds: ∀j u,xs[j]? =some u→w.cell? ((⟨g,0,none⟩:Addr).add j)=some u:=hown.cells (g:=g) rfl
   have hr:=Lib.run_append_grow_string (P:=P) w t u ty e i (.int .u8 0) ht hu hi hz ⟨g,0,none⟩ n cap xs (by rw[hsize];simpa using hxl) holds s (by omega) (by omega) (by rw[hby];exact growslice_fits (by omega) (by omega))
   have hgr:=grown cap (by omega) (Value.ownBlock (.slice (some ⟨g,0,none⟩) n cap))
   exact⟨_,_,_,hr,hgr.1,.inl rfl,hgr.2.1,hgr.2.2.1,fun b o hb _=>hgr.2.2.2 b o hb⟩
theorem aAM {P:Program}(w:World) (t u ty e:TypeId) (i:TypeInfo) (ht:P.underlying t=some (.slice e)) (hu:P.underlying u=some .string) (hi:P.info? e=some i) (hsize:i.size=1) (ad:Option Addr) (n c:Nat) (hle:n≤c):
  (Builtin.append_ #[t,u] ty #[.slice ad n c,.string ⟨#[]⟩]).run P w= .ok (.slice ad n c) w:=by
 have hf:=Lib.run_firstCells_string (P:=P) w 1 ⟨#[]⟩
 have hm:(⟨#[]⟩:ByteArray).size=0:=rfl
 rw[hm] at hf
 cases ad<;>simp [Builtin.append_,run_underlying ht,run_underlying hu,sizeOf,typeInfo,hi,hsize,Builtin.lenOf,hm,hf,hle,Lib.strCells,storeCells]
theorem a3G (g:Gh) (w:World): ∀s:List UInt8,qR (Rd g w (.int .u8)) 1 (s5 s) (s.map fun b=>Value.int .u8 b.toNat)
 |[]=>rfl
 |b::s=>⟨[.int .u8 b.toNat],_,rfl,rfl,rfl,a3G g w s⟩
section
variable {P:Program}{o:Oper}{a:Act}{g:Gh}{w:World}{H:Heap}{T:Types}(hT:TypesOk P T) (hH:HeapOk g w H)
include hT hH
theorem aAN {t t':TypeId}{x:Operand}(ho:o.op= .convert t t' x) {sx:Slot}(hx:RdS g w sx (a.eval x)) {e:Eff}
  (hr:xN (R3 T (pE T t) (pE T t') sx)=some e):pC P o a g w H e:=by
 obtain⟨q,hq,rfl⟩:=EH hr
 replace hx:=hx.1
 generalize h1:pE T t=o1 at hq
 generalize h2:pE T t'=o2 at hq
 unfold R3 at hq
 split at hq
 ·rename_i e b1 a1 l1 e2 b2 a2 l2 l k
  generalize h3:pE T e=o3 at hq
  unfold a1H at hq
  split at hq
  ·cases hq
   have d1:=(qK hT h1).2
   have d2:=(qK hT h2).2
   have d3:=(qK hT h3).2
   simp only[uX] at d1 d2 d3
   obtain⟨ad,cap,hv,hle,hl⟩:=zS hx
   refine pC.pure hH (v:= .string ⟨(qW l).toArray⟩) ?_ (CT _ _ _)
   simp only[execOp,ho,hv,Sem.run_bind]
   have run:(convert t t' (.slice ad (List.length l) cap)).run P w= .ok (.string ⟨(qW l).toArray⟩) w:=by
    rcases hl with rfl|⟨b,off,rfl,hL⟩
    ·rw[run_convert_bytes_string w t t' e ad _ cap d1.1 d3 d2]
     cases ad with
     |none=>simp [Conv.bytesToString,qW];rfl
     |some ad=>simp [Conv.bytesToString,loadCells,loadCellsFrom,qW];rfl
    ·have:=run_convert_bytes_arg (P:=P) w t e d1.1 d3 b off (List.length l) cap l rfl (fun i hi=>by
      obtain⟨cs,_,c2,_,c4⟩:=SC hL (List.getElem?_eq_getElem hi)
      have c5:cs=[.int .u8 (l[i]:Int)]:=c4
      subst c5
      have:=c2 0 _ rfl
      have hcell:Ty.cells (.int .u8)=1:=rfl
      rw[hcell,Nat.mul_one,Nat.add_zero] at this
      rw[this,List.getD_eq_getElem?_getD,List.getElem?_eq_getElem hi]
      rfl) t' d2
     exact this
   rw[run]
   rfl
  ·cases hq
 ·cases hq
theorem aAO {args:Array Operand}{tys:Array TypeId}(ho:o.op= .call ⟨.builtin .append,args,tys⟩) {ρ:Operand→Slot}(hρ: ∀x∈args.toList,RdS g w (ρ x) (a.eval x)) {e:Eff}
  (hr:MM T H (sH ρ args.toList) tys.toList=some e) (hs: ∀p∈e.side,p):pC P o a g w H e:=by
 unfold MM at hr
 split at hr
 ·rename_i t u htu
  have htys:tys= #[t,u]:=by apply Array.toList_inj.1;rw[htu]
  split at hr
  ·rename_i e1
   subst e1
   exact aAa hT hH ho hρ htys hr hs
  ·clear htu
   subst htys
   generalize hst:pE T t=ot at hr
   generalize hsu:pE T u=ou at hr
   generalize hss:sH ρ args.toList=ss at hr
   unfold RX at hr
   split at hr
   ·rename_i el ar ls_ e2 b2 a2 ls2 l k s k2
    generalize hk:getH H k=ob at hr
    unfold ML at hr
    split at hr
    ·rename_i e' c n
     split at hr
     ·rename_i hec
      obtain⟨rfl,rfl⟩:=hec
      cases hr
      rw[List.length_append]
      have hsl:List.length (s5 s)=List.length s:=by simp [s5]
      rw[hsl]
      have hln:=hs _ (by simp:(List.length l=n)∈_)
      have hby:=hs _ (by simp:(List.length l+List.length s≤140737488355328)∈_)
      obtain⟨v,vr,hv,hs1,hs2⟩:=N6 hT hH hρ hss
      obtain⟨h2,h3,_⟩:=(qK hT hst).2
      have hu:=(qK hT hsu).2
      simp only[uX] at hu
      obtain⟨ei,hei,hz⟩:=Option.map_eq_some_iff.1 h3
      simp only[Prod.mk.injEq] at hz
      obtain⟨cs,hx⟩:=BM (a:=a) hT hH ho
      obtain⟨v0,xs,hv0,hown,hnone,hseal⟩:=hH.blk k _ hk
      have hcur:g.cur k (List.length l)=some v:=hs1.2
      rw[hln,hv0] at hcur
      obtain rfl:=Option.some.inj hcur
      obtain⟨adl,capl,hvl,hlel,hll⟩:=zS hs1.1
      have hvr:=vU hs2.1
      have hsz:(⟨List.toArray s⟩:ByteArray).size=List.length s:=by simp [ByteArray.size]
      by_cases hm:List.length s=0
      ·obtain rfl:s=[]:=List.eq_nil_of_length_eq_zero hm
       have hget: ∀i,getH (app [(k,Blk.grow e' 1 (List.length l+List.length ([]:List UInt8)))] H) i=getH H i:=by
        intro i
        simp only[app,getH]
        by_cases hi:k=i
        ·subst hi;rw[if_pos rfl,hk,hln];rfl
        ·rw[if_neg hi]
       have hkeep:EffOk g w H ⟨[List.length l=n,List.length l+List.length ([]:List UInt8)≤140737488355328],(.val (.list (.int .u8)) (l++s5 []),some k),[(k,.grow e' 1 (List.length l+List.length ([]:List UInt8)))],[k]⟩ g w v0:=by
        refine⟨.refl _ _,?_,⟨fun i b h=>hH.blk i b ((hget i).symm.trans h),fun i j bi bj b o' hij h1 h2=>hH.dis i j bi bj b o' hij ((hget i).symm.trans h1) ((hget j).symm.trans h2),hH.sl,hH.tab.1,fun i blk b o' h ho'=>hH.tab.2 i blk b o' ((hget i).symm.trans h) ho'⟩,.refl _ _ _,fun i blk b o' hi hg ho'=> .inr ⟨i,blk,hi,(hget i).symm.trans hg,ho'⟩,fun _ _=>⟨rfl,rfl⟩,fun i u' y us h=> .inl ⟨y,us,(hget i).symm.trans h⟩⟩
        rw[show l++s5 []=l from by simp [s5]]
        exact hs1
       refine pC.value (v:=v0) (w':=w) ?_ hkeep
       rw[hx,hv,hvr,hvl]
       have:=aAM (P:=P) w t u o.type e' ei h2 hu hei (by rw[hz.1];rfl) adl (List.length l) capl hlel
       simp only[builtin,Sem.run_bind]
       rw[this]
       simp only[Result.andThen_ok,Sem.run_pure]
      ·have hxs:qR (Rd g w (.int .u8)) 1 l xs:=by
        by_cases h0:List.length l=0
        ·obtain rfl:l=[]:=List.eq_nil_of_length_eq_zero h0
         have:xs=[]:=List.eq_nil_of_length_eq_zero (by rw[hown.1,←hln];simp)
         exact this
        ·rcases hll with rfl|⟨b0,off0,rfl,hL0⟩
         ·exact absurd rfl h0
         ·obtain⟨ls,hF0,hra0,_⟩:=GA hL0
          rcases hown.2 with⟨e1,e2⟩ |⟨q,cap,cur,e1,e2⟩
          ·exact absurd (hln.trans e2) h0
          ·rw[hvl] at e1
           simp only[Value.slice.injEq,Option.some.injEq,Addr.mk.injEq] at e1
           obtain⟨⟨rfl,rfl,_⟩,_,rfl⟩:=e1
           have hvn:v0= .slice (some ⟨b0,0,none⟩) n capl:=by rw[hvl,hln]
           have hrx:=SR (hvn▸hown)
           have:ls=xs:=by
            have hl1:=CS hF0
            have hl2:=hown.1
            have hc1:Ty.cells (.int .u8)=1:=rfl
            rw[hc1] at hl1
            apply List.ext_getElem?
            intro j
            by_cases hj:j<ls.length
            ·have h1:=hra0 j ls[j] (List.getElem?_eq_getElem hj)
             have hj':j<xs.length:=by rw[hl2,←hln,←hl1];exact hj
             have h2:=hrx j xs[j] (List.getElem?_eq_getElem hj')
             rw[h1] at h2
             rw[List.getElem?_eq_getElem hj,List.getElem?_eq_getElem hj',Option.some.inj h2]
            ·rw[List.getElem?_eq_none (by omega),List.getElem?_eq_none (by rw[hl2,←hln,←hl1];omega)]
           rw[←this]
           exact hF0
       obtain⟨q,cap,w',hrun,hown',hq,hg,hcap,hcell⟩:=aAL (P:=P) w t u o.type e' ei h2 hu hei hz.2.2 hz.1 hz.2.1 v0 n xs hown ⟨List.toArray s⟩ (by rw[hsz];omega) (by rw[hsz];unfold maxLen;omega) (by rw[hsz];omega)
       rw[hsz] at hrun hown' hcap
       rw[aAK] at hown'
       refine pC.value (v:= .slice (some ⟨q,0,none⟩) (n+List.length s) cap) (w':=w') ?_ (by
        have:=EffOk.append (side:=[List.length l=n,List.length l+List.length s≤140737488355328]) (rds:=[k]) (u:= .int .u8) (r:=s5 s) hH hk (show (1:Nat)=Ty.cells (.int .u8) from rfl) hln hv0 hown hnone hseal hxs (a3G g w s) (by rw[hsl];omega) (by rw[hsl];exact hown') hq hg (by rw[hsl];exact hcap) hcell
        rw[hsl] at this
        rw[hln]
        rw[hln] at this
        exact this)
       rw[hx,hv,hvr]
       simp only[builtin,Sem.run_bind,hrun,Result.andThen_ok,Sem.run_pure]
     ·cases hr
    ·cases hr
   ·cases hr
 ·cases hr
end
end Go.Proofs.YtfchbnahjcdiiaaGreatDoor.Vc
namespace Go.Proofs.YtfchbnahjcdiiaaGreatDoor.Vc
open Go.RowKit
set_option linter.unusedSectionVars false
theorem aAP {g g':Gh}{w:World}{f:Slot→Slot}(hf: ∀s u,RdS g w s u→RdS g' w (f s) u): ∀{l:List Slot}{v:Value}{s:Slot},RetVals g w l v→FU (l.map f)=some s→RdS g' w s v:=by
  have un: ∀{l:List Slot}{vs:List Value}{q},ArgsOk g w l vs→E3 (l.map f)=some q→G7 g' w q vs:=by
    intro l
    induction l with
    | nil=>
      intro vs q h hq
      simp only[List.map_nil,E3,Option.some.injEq] at hq
      subst hq
      exact h
    | cons s l ih=>
      rintro vs q ⟨v,vs',rfl,h1,h2⟩ hq
      have h1':=hf s v h1
      simp only[List.map_cons] at hq
      generalize f s=fs at hq h1'
      obtain⟨d,k⟩:=fs
      cases d with
      | val t x=>
        simp only[E3] at hq
        obtain⟨q',hq',rfl⟩:=Option.map_eq_some_iff.1 hq
        refine⟨v,vs',rfl,h1'.1,?_,ih h2 hq'⟩
        cases k with
        |none=>trivial
        |some k=>exact h1'.2
      |_=>simp [E3] at hq
  intro l v s h hs
  match l,h,hs with
  | [],⟨vs,e,h⟩,hs=>
    simp only[List.map_nil,FU,Option.some.injEq] at hs
    subst hs
    rw[show vs=[] from h] at e
    exact⟨⟨[],e,rfl⟩,trivial⟩
  | [x],h,hs=>
    simp only[List.map_cons,List.map_nil,FU,Option.some.injEq] at hs
    subst hs
    exact hf x v h
  | x::y::l,⟨vs,e,h⟩,hs=>
    simp only[List.map_cons,FU,Option.some.injEq] at hs
    subst hs
    cases hq:E3 (f x::f y::l.map f) with
    |none=>exact⟨trivial,trivial⟩
    |some q=>exact⟨⟨vs,e,un (l:=x::y::l) h (by simpa using hq)⟩,trivial⟩
theorem a3H {base n:Nat}{W:List Whence}: ∀l:List Slot,II base n W l=l.map (LV base n W)
  |[]=>rfl
  |s::l=>by simp [II,a3H l]
theorem a3I {P:Program}{f:FuncId}{sg:Sig}(hcon:yK P f sg.C) {g:Gh}{w:World}{H:Heap}(hH:HeapOk g w H) {args:List Slot}{vals:List Value}(hargs:ArgsOk g w args vals) {base:Nat}{e:Eff}
    (hr:BD H base args (some sg)=some e) (hs: ∀p∈e.side,p) (hfr:w9 g base e):Calls P f vals.toArray w (fun en w'=> ∃v g',en= .returned v∧EffOk g w H e g' w' v):=by
  simp only[BD] at hr
  cases hp0:u1 H sg.ps args (some ⟨[],[],[],0⟩) with
  |none=>rw[hp0] at hr;cases hgs:sg.gs<;>(rw[hgs] at hr;simp [IJ,xP] at hr)
  |some q0=>
   rw[hp0] at hr
   cases hp:xP H sg.gs (some q0) with
   |none=>rw[hp] at hr;simp [IJ] at hr
   |some q=>
    rw[hp] at hr
    simp only[IJ,a3x,List.append_nil] at hr
    have hpo0:=a3s hH (PassOk.nil g w H) hargs hp0
    rw[List.nil_append] at hpo0
    have hpo:=a3u hH hpo0 hp
    cases hcl:CM q.ws.reverse q.H.reverse with
    |none=>rw[hcl] at hr;simp [LY] at hr
    |some L=>
    rw[hcl] at hr
    simp only[LY] at hr
    have hm:=hpo.m.ren hcl
    cases hc:sg.C q.args.reverse L with
    |none=>rw[hc] at hr;simp [LX] at hr
    | some r=>
      rw[hc] at hr
      simp only[LX,a3w] at hr
      cases hbh:xQ base r.H.length q.ws.reverse 0 q.ws.reverse r.H with
      |none=>rw[hbh] at hr;simp [IH] at hr
      | some upd=>
        rw[hbh] at hr
        cases hrs:FU (II base r.H.length q.ws.reverse r.ret) with
        |none=>rw[hrs] at hr;simp [IH] at hr
        | some s=>
          rw[hrs] at hr
          simp only[IH,Option.some.injEq] at hr
          subst hr
          refine(hcon.2 (canGh g q.ws.reverse) w q.args.reverse _ L r (aAq hH hm) hpo.args hc hs).mono ?_
          rintro en w' ⟨v,g',rfl,hret⟩
          refine⟨v,_,rfl,aAG hH hm hret hbh hfr ?_⟩
          rw[a3H] at hrs
          exact aAP (fun s u h=>aAE hH hm hret hbh hfr h) hret.ret hrs
theorem JE {g g':Gh}{w w':World}: ∀{t:Ty}{x:t.den}{cs:List Value},CN t=true→Rd g w t x cs→Rd g' w' t x cs
  | .bool,_,_,_,r=>r
  | .int _,_,_,_,r=>r
  | .str,_,_,_,r=>r
  | .unit,_,_,_,r=>r
  | .fn,_,_,_,r=>r
  | .pair a b,_,_,h,⟨c1,c2,e,r1,r2⟩=>by
    simp only[CN,Bool.and_eq_true] at h
    exact⟨c1,c2,e,JE h.1 r1,JE h.2 r2⟩
  | .list _,_,_,h,_=>by cases h
  | .ref,_,_,h,_=>by cases h
  | .clo,_,_,h,_=>by cases h
  | .mp,_,_,h,_=>by cases h
  | .rl _ _,_,_,h,_=>by cases h
  | .mref,_,_,h,_=>by cases h
theorem a3J {g g':Gh}{w:World}{k n:Nat}{t:Ty}{l:List t.den}(le:Le g w g' w) (hk: ∀u,g.cur k n=some u→((u= .slice none 0 0∧n=0)∨∃b cap,u= .slice (some ⟨b,0,none⟩) n cap∧n≤cap)→qQ g' w (.list t) l u):
    ∀{args:List Slot}{vals:List Value},ArgsOk g w args vals→(∀p∈E4 k n args,p)→ArgsOk g' w (IL k t l args) vals
  |[],_,h,_=>h
  | s::ss,_,⟨v,vs,rfl,h1,h2⟩,hp=>by
    refine⟨v,vs,rfl,?_,a3J le hk h2 (fun p hp'=>hp p ?_)⟩
    · obtain⟨d,x⟩:=s
      cases d with
      | own j m=>
        simp only[a1Q]
        split
        · rename_i e
          subst e
          have hm:m=n:=hp (j=j→m=n) (by simp only[E4];exact List.mem_cons_self) rfl
          subst hm
          exact⟨hk _ h1.1.1 h1.1.2,trivial⟩
        ·exact xT le h1
      |_=>exact xT le h1
    · obtain⟨d,x⟩:=s
      cases d with
      |own j m=>simp only[E4];exact List.mem_cons_of_mem _ hp'
      |_=>exact hp'
theorem aAQ {P:Program}{f:FuncId}{sg:Sig}(hcon:yK P f sg.C) {g:Gh}{w:World}{H:Heap}(hH:HeapOk g w H) {args:List Slot}{vals:List Value}(hargs:ArgsOk g w args vals) {base:Nat}{e:Eff}{k:Nat}
    (hr:IM H base args sg k (getH H k)=some e) (hs: ∀p∈e.side,p) (hfr:w9 g base e):Calls P f vals.toArray w (fun en w'=> ∃v g',en= .returned v∧EffOk g w H e g' w' v):=by
  cases hk:getH H k with
  |none=>rw[hk] at hr;cases hr
  | some b=>
    rw[hk] at hr
    cases b with
    | row e0 t l m=>
      simp only[IM] at hr
      cases hi:BD ((k,.dead)::H) base (IL k t l args) (some sg) with
      |none=>rw[hi] at hr;cases hr
      | some e1=>
        rw[hi] at hr
        unfold R9 at hr
        split at hr
        · rename_i side t' x kk U rds heq
          simp only[Option.some.injEq] at heq
          subst heq
          split at hr
          · rename_i hnl
            simp only[Bool.and_eq_true,Bool.not_eq_true'] at hnl
            obtain⟨⟨hnl,hU⟩,hkU⟩:=hnl
            have hkU':k∉idsOf U:=fun h=>by rw[EI.2 h] at hkU;cases hkU
            cases hr
            obtain⟨hl,v,xs,hv,hown,hF,hnone,hseal⟩:=hH.blk k _ hk
            let g':Gh:={g with S:=fun b o=>g.S b o∨(v.ownBlock=some b∧o<m*t.cells)}
            have le:Le g w g' w:=⟨fun _ _ h=> .inl h,fun _ _ _=>rfl,fun _ _ h=>h,fun _ _ _ h=>h⟩
            have hown2: ∀b,v.ownBlock=some b→∀o,owns g k (.row e0 t l m) b o:=fun b hb o=>⟨v,hv,hb⟩
            have hlist: ∀u,g.cur k m=some u→((u= .slice none 0 0∧m=0)∨∃b cap,u= .slice (some ⟨b,0,none⟩) m cap∧m≤cap)→qQ g' w (.list t) l u:=by
              intro u hu hshape
              rw[hv] at hu
              obtain rfl:=Option.some.inj hu
              rcases hshape with⟨rfl,h0⟩ |⟨b,cap,rfl,hcap⟩
              · have:l=[]:=List.eq_nil_of_length_eq_zero (by rw[hl,h0])
                subst this
                exact .inr ⟨rfl,none,0,rfl,Nat.le_refl _,.inl rfl⟩
              · refine .inr ⟨rfl,some ⟨b,0,none⟩,cap,by rw[hl],by rw[hl];exact hcap,.inr ⟨b,0,rfl,GB (yX (fun _ _ h=>uC le h) hF) (fun j u hu=> ?_) (fun j hj=> ?_)⟩⟩
                · have:=hown.cells (g:=b) rfl j u hu
                  rwa [Addr.add_mid] at this
                · right
                  exact⟨rfl,by rw[hl] at hj;omega⟩
            have hget: ∀i b,getH ((k,Blk.dead)::H) i=some b→(i=k∧b= .dead)∨(i≠k∧getH H i=some b):=by
              intro i b hb
              simp only[getH] at hb
              split at hb
              ·rename_i e1;exact .inl ⟨e1.symm,(Option.some.inj hb).symm⟩
              ·rename_i e1;exact .inr ⟨Ne.symm e1,hb⟩
            have hH':HeapOk g' w ((k,Blk.dead)::H):=by
              refine⟨fun i b hb=> ?_,fun i j bi bj b o hij h1 h2 o1 o2=> ?_,fun b o hS=> ?_,hH.tab.1,fun i b bb oo hb ho=> ?_⟩
              · rcases hget i b hb with⟨rfl,rfl⟩ |⟨hne,h1⟩
                ·trivial
                ·exact G8 (hH.blk i b h1) le rfl rfl (fun _ _ _=>⟨rfl,rfl⟩) (fun _ _=>rfl) (fun bb o ho hS=>by
                    rcases hS with hS|hS
                    ·exact hS
                    ·exact absurd (hown2 bb hS.1 o) (fun h5=>hH.dis i k b _ bb o hne h1 hk ho h5)) (fun _ _ _ _ h=>h)
              · rcases hget i bi h1 with⟨_,rfl⟩ |⟨_,h1⟩
                ·exact o1.elim
                · rcases hget j bj h2 with⟨_,rfl⟩ |⟨_,h2⟩
                  ·exact o2.elim
                  ·exact hH.dis i j bi bj b o hij h1 h2 ((vT (g':=g') (g:=g) rfl rfl).1 o1) ((vT (g':=g') (g:=g) rfl rfl).1 o2)
              · rcases hS with hS|hS
                ·exact hH.sl b o hS
                ·exact J3 hown hS.1
              · rcases hget i b hb with⟨_,rfl⟩ |⟨_,h1⟩
                ·exact ho.elim
                ·exact hH.tab.2 i b bb oo h1 ((vT (g':=g') (g:=g) rfl rfl).1 ho)
            have hsp: ∀p,p∈E4 k m args∨p∈side→p:=fun p hp=>hs p (JC.2 hp)
            have hget2: ∀i,i≠k→getH ((k,Blk.dead)::H) i=getH H i:=fun i hi=>by
              simp only[getH];rw[if_neg (Ne.symm hi)]
            have hin: ∀{i},i∈idsOf U→i≠k:=fun h e=>hkU' (e▸h)
            have hup: ∀{i blk},i∈idsOf U→getH (app U H) i=some blk→getH (app U ((k,Blk.dead)::H)) i=some blk:=by
              intro i blk hi h
              have: ∀{U:List (Nat×Blk)},i∈idsOf U→getH (app U ((k,Blk.dead)::H)) i=getH (app U H) i:=by
                intro U
                induction U with
                |nil=>intro h;cases h
                | cons q U ih=>
                  intro h
                  obtain⟨j,b⟩:=q
                  simp only[app,getH]
                  split
                  ·rfl
                  · rename_i hne
                    simp only[idsOf,List.mem_cons] at h
                    exact ih (h.resolve_left (fun e=>hne e.symm))
              rw[this hi];exact h
            have hcells: ∀{i blk},i∈idsOf U→getH (app U H) i=some blk→∃t y,blk= .cells t y []∧CN t=true:=by
              intro i blk hi h
              have: ∀{U:List (Nat×Blk)},FV U=true→i∈idsOf U→getH (app U H) i=some blk→∃t y,blk= .cells t y []∧CN t=true:=by
                intro U
                induction U with
                |nil=>intro _ h;cases h
                | cons q U ih=>
                  intro hU hi h
                  obtain⟨j,b⟩:=q
                  cases b with
                  | cells t y ts=>
                    cases ts with
                    |cons _ _=>simp [FV] at hU
                    | nil=>
                      simp only[FV,Bool.and_eq_true] at hU
                      simp only[app,getH] at h
                      split at h
                      · obtain rfl:=Option.some.inj h
                        exact⟨t,y,rfl,hU.1⟩
                      · rename_i hne
                        simp only[idsOf,List.mem_cons] at hi
                        exact ih hU.2 (hi.resolve_left (fun e=>hne e.symm)) h
                  |_=>simp [FV] at hU
              exact this hU hi h
            have hownI: ∀b o,ownsIn g' ((k,Blk.dead)::H) (idsOf U) b o→ownsIn g H (idsOf U) b o:=fun b o ⟨i,blk,hi,h1,h2⟩=>⟨i,blk,hi,(hget2 i (hin hi)).symm.trans h1,(vT (g':=g') (g:=g) rfl rfl).1 h2⟩
            refine(a3I hcon hH' (a3J le hlist hargs (fun p hp=>hsp p (.inl hp))) hi (fun p hp=>hsp p (.inr hp)) (fun i hi' hb=>hfr i hi' hb)).mono ?_
            rintro en w' ⟨v1,g1,rfl,hE⟩
            let g2:Gh:={g1 with S:=g.S}
            have hle:Le g w g2 w':=⟨fun _ _ h=>h,fun b o h=>hE.le.cell b o (.inl h),fun i p h=>hE.le.J i p h,fun i n u h=>hE.le.cur i n u h⟩
            have hfr2:Fr (ownsIn g H (idsOf U)) w w' g.S g2.S:=
              ⟨hE.fr.os,hE.fr.tape,hE.fr.output,hE.fr.size,fun b hb hno=>hE.fr.blk b hb (fun o h=>hno o (hownI b o h)),fun b o hb hno=>hE.fr.cell b o hb (fun h=>hno (hownI b o h)),fun _ _ h=> .inl h,fun b s h=>(hE.fr.shape b s h).imp id fun h o=>hownI b o (h o)⟩
            have hgho: ∀i,i∉idsOf U→g2.J i=g.J i∧g2.cur i=g.cur i:=fun i hi=>hE.gho i hi
            have hperm: ∀i blk b o,i∈idsOf U→getH (app U H) i=some blk→owns g2 i blk b o→w.heap.size≤b∨ownsIn g H (idsOf U) b o:=fun i blk b o hi hg ho=>
              (hE.perm i blk b o hi (hup hi hg) ((vT (g':=g2) (g:=g1) rfl rfl).1 ho)).imp id (hownI b o)
            refine⟨v1,g2,rfl,hle,⟨?_,trivial⟩,hH.upd hle hfr2 hperm hgho (fun i blk hi hg=> ?_) (fun i j bi bj b o hi hj hij hgi hgj hoi hoj=> ?_) (fun b o h=>Nat.lt_of_lt_of_le (hH.sl b o h) hE.fr.size),hfr2,hperm,hgho,fun i u y us h=> ?_⟩
            ·exact hE.slot.1.imp (fun⟨a,cs,e,q⟩=>⟨a,cs,e,JE hnl q⟩) (fun⟨a,q⟩=>⟨a,JE hnl q⟩)
            · obtain⟨t2,y2,rfl,hn2⟩:=hcells hi hg
              obtain⟨p,cs,q1,q2,q3,q4,q5,_⟩:=hE.heap.blk i _ (hup hi hg)
              exact⟨p,cs,q1,JE hn2 q2,q3,q4,fun j hj hS=>q5 j hj (hE.le.S _ _ (.inl hS)),fun _ _ hm=>by cases hm⟩
            ·exact hE.heap.dis i j bi bj b o hij (hup hi hgi) (hup hj hgj) ((vT (g':=g2) (g:=g1) rfl rfl).1 hoi) ((vT (g':=g2) (g:=g1) rfl rfl).1 hoj)
            · by_cases hiU:i∈idsOf U
              · rcases hE.ty i u y us (hup hiU h) with⟨x',ts',q⟩ |q
                ·exact .inl ⟨x',ts',(hget2 i (hin hiU)).symm.trans q⟩
                ·exact .inr q
              ·exact .inl ⟨y,us,(yI hiU).symm.trans h⟩
          ·cases hr
        ·cases hr
    |_=>cases hr
theorem aAR {P:Program}{f:FuncId}{F:(t:Ty)→List t.den→Option (List t.den)}(hF:NB P f F) {g:Gh}{w:World}{H:Heap}(hH:HeapOk g w H) {args:List Slot}{vals:List Value}(hargs:ArgsOk g w args vals) {e:Eff}
    (hr:LZ H F args=some e) (hs: ∀p∈e.side,p):Calls P f vals.toArray w (fun en w'=> ∃v g',en= .returned v∧EffOk g w H e g' w' v):=by
  unfold LZ at hr
  split at hr
  · rename_i k n x
    obtain⟨v,vs,rfl,ha,hv⟩:=hargs
    rw[show vs=[] from hv]
    cases hk:getH H k with
    |none=>rw[hk] at hr;cases hr
    | some b=>
      rw[hk] at hr
      cases b with
      | row e0 t l m=>
        simp only[RA] at hr
        cases hf:F t l with
        |none=>rw[hf] at hr;cases hr
        | some l'=>
          rw[hf] at hr
          cases hr
          have hnm:n=m:=hs _ List.mem_cons_self
          subst hnm
          obtain⟨hl,v0,xs,hv0,hown,hFx,hnone,hseal⟩:=hH.blk k _ hk
          have h1:=ha.1.1
          rw[hv0] at h1
          obtain rfl:=Option.some.inj h1
          refine(hF g w e0 t l l' v0 n xs hH.tab.1 hown hFx hl (hs _ (by simp)) hf).mono ?_
          rintro en w' ⟨rfl,hl',xs',k1,k2,k3⟩
          have hownk: ∀b,v0.ownBlock=some b→∀o,ownsIn g H [k] b o:=fun b hb o=>⟨k,_,by simp,hk,v0,hv0,hb⟩
          refine⟨_,_,rfl,EffOk.row (v:=v0) (xs:=xs') hH hl' k1 k2 hnone (fun u hu=>by rw[hv0] at hu;exact(Option.some.inj hu).symm) (.inr ⟨v0.ownBlock,k3,hownk⟩) (fun b o hS=> ?_) hseal (fun b hb=> .inr (hownk b hb)) ⟨⟨[],rfl,rfl⟩,trivial⟩⟩
          have hne:v0.ownBlock≠some b:=fun e=>hseal b e o hS
          exact World.cell?_of_block (a:=⟨b,o,none⟩) (k3.block b (hH.sl b o hS) (fun e=>hne e.symm))
      |_=>cases hr
  ·cases hr
section
variable {P:Program}{o:Oper}{a:Act}{g:Gh}{w:World}{H:Heap}{T:Types}{Γ:Ctx}(hT:TypesOk P T) (hΓ:CtxOk P Γ) (hH:HeapOk g w H)
include hT hΓ hH
theorem a3K {f:FuncId}{args:List Slot}{vals:List Value}(hargs:ArgsOk g w args vals) {base:Nat}{e:Eff}(hr:E9 H base args (Γ f)=some e) (hs: ∀p∈e.side,p) (hfr:w9 g base e):
    (∀args w,(callFunc f args).run P w= .ok (.enter f args) w)∧Calls P f vals.toArray w (fun en w'=> ∃v g',en= .returned v∧EffOk g w H e g' w' v):=by
  cases hg:Γ f with
  |none=>rw[hg] at hr;cases hr
  | some sg=>
    rw[hg] at hr
    obtain⟨hcon,hrow⟩:=hΓ f sg hg
    refine⟨hcon.1,?_⟩
    simp only[E9] at hr
    cases hF:sg.row with
    | some F=>
      rw[hF] at hr
      exact aAR (hrow F hF) hH hargs hr hs
    | none=>
      rw[hF] at hr
      simp only[MJ] at hr
      cases hn:IK sg.ps args with
      | some k=>
        rw[hn] at hr
        exact aAQ hcon hH hargs hr hs hfr
      | none=>
        rw[hn] at hr
        exact a3I hcon hH hargs hr hs hfr
theorem aAS {fop:Operand}{args:Array Operand}{tys:Array TypeId}(ho:o.op= .call ⟨.value fop,args,tys⟩) {ρ:Operand→Slot}(hf:RdS g w (ρ fop) (a.eval fop)) (hρ: ∀x∈args.toList,RdS g w (ρ x) (a.eval x)) {base:Nat}{e:Eff}
    (hr:FY Γ H base (BF T ρ args.toList tys.toList) (ρ fop)=some e) (hs: ∀p∈e.side,p) (hfr:w9 g base e) (hlen:args.size=tys.size):pC P o a g w H e:=by
  have hargs:=a3d (a:=a) (ρ:=ρ) hT hΓ hH (xs:=args.toList) (ts:=tys.toList) (by simpa using hlen) hρ
  unfold FY at hr
  split at hr
  · rename_i f caps k heq
    rw[heq] at hf
    obtain⟨vs,hcv,hfv⟩: ∃vs,uJ g caps vs∧a.eval fop= .func (.func f) #[] vs.toArray:=by
      rcases hf.1 with⟨h1,_⟩ |⟨_,vs,h2,h3⟩
      ·cases h1
      · simp only[List.cons.injEq,and_true] at h3
        exact⟨vs,h2,h3⟩
    obtain⟨hen,hc⟩:=a3K hT hΓ hH (aAj hT hΓ hH hargs (a3e hT hΓ hH hcv)) hr hs hfr
    intro K Q hK
    refine a3f ho hfv hen (hc.mono ?_)
    rintro en w' ⟨v,g',rfl,hE⟩
    exact⟨v,rfl,hK _ w' v hE⟩
  · rename_i f k heq
    rw[heq] at hf
    have hfv:a.eval fop= .func (.func f) #[] ([]:List Value).toArray:=by
      rcases hf.1 with⟨h1,_⟩ |⟨_,h2⟩
      ·cases h1
      ·simpa[Rd,a2q] using h2
    obtain⟨hen,hc⟩:=a3K hT hΓ hH hargs hr hs hfr
    intro K Q hK
    refine a3f ho hfv hen ?_
    rw[List.append_nil]
    refine hc.mono ?_
    rintro en w' ⟨v,g',rfl,hE⟩
    exact⟨v,rfl,hK _ w' v hE⟩
  ·cases hr
theorem a3L: ∀{xs:List Operand}{ts:List TypeId},EA xs ts=true→xs.length=ts.length
  |[],[],_=>rfl
  |_::xs,_::ts,h=>by simp only[EA] at h;simp [a3L h]
  |[],_::_,h=>by cases h
  |_::_,[],h=>by cases h
theorem TD {op:Op}(ho:o.op=op) {ρ:Operand→Slot}(hρ: ∀x∈pQ op,RdS g w (ρ x) (a.eval x)) {base:Nat}{e:Eff}(hr:rM T Γ o.type ρ base H op=some e) (hs: ∀p∈e.side,p) (hf:w9 g base e):pC P o a g w H e:=by
  unfold rM at hr
  split at hr
  · rename_i x
    exact a2O hT hH (.inl ho) (hρ x (by simp [pQ])) hr hf
  · rename_i x
    exact a2O hT hH (.inr ho) (hρ x (by simp [pQ])) hr hf
  ·exact a94 hT hH ho hr hf
  · rename_i t x
    exact a93 hT hH ho (T1 hT hΓ hH (hρ x (by simp [pQ]))) hr hf
  · rename_i t ps
    exact a9M hT hH ho (ρ:=ρ) (fun q hq=>hρ q.2 (by
      simp only[pQ]
      generalize ps.toList=l at hq
      induction l with
      |nil=>cases hq
      |cons p l ih=>rcases List.mem_cons.1 hq with rfl|h<;>simp_all [pQ.parts])) hr
  · rename_i t n ps
    exact a99 hT hH ho (ρ:=ρ) (fun q hq=>hρ q.2 (by
      simp only[pQ]
      generalize ps.toList=l at hq
      induction l with
      |nil=>cases hq
      |cons p l ih=>rcases List.mem_cons.1 hq with rfl|h<;>simp_all [pQ.parts])) hr hf
  · rename_i t x
    exact a9W hT hH ho (hρ x (by simp [pQ])) hr hs
  · rename_i t x y
    exact a98 hT hH ho (hρ x (by simp [pQ])) (T1 hT hΓ hH (hρ y (by simp [pQ]))) hr hs hf
  · rename_i x
    exact a9G hT hH ho (hρ x (by simp [pQ])) hr
  · rename_i op t x y t'
    cases hb:LL op (ρ x) (ρ y) with
    | some r=>
      rw[hb] at hr
      exact a9x hH ho (hρ x (by simp [pQ])) (hρ y (by simp [pQ])) (by rw[hb];exact hr) hs
    | none=>
      rw[hb] at hr
      exact aAJ hT hH ho (hρ x (by simp [pQ])) (hρ y (by simp [pQ])) hr
  · rename_i op t x
    exact a9y hH ho (hρ x (by simp [pQ])) hr hs
  · rename_i t t' x
    cases hb:LO (pE T t) (pE T t') (ρ x) with
    | some r=>
      rw[hb] at hr
      exact a9z hT hH ho (hρ x (by simp [pQ])) (by rw[hb];exact hr)
    | none=>
      rw[hb] at hr
      exact aAN hT hH ho (hρ x (by simp [pQ])) hr
  · rename_i f first caps
    have hfi:first= #[]:=by
      cases hl:first.toList with
      |nil=>apply Array.toList_inj.1;simpa using hl
      |cons x l=>rw[hl] at hr;cases hr
    subst hfi
    exact a9Q hT hH ho (ρ:=ρ) (fun x hx=>hρ x (by simpa[pQ] using hx)) hr
  · rename_i t x lo hi
    refine a9X hT hH ho (ρ:=ρ) (hρ x (by simp [pQ])) (fun y hy=>hρ y ?_) (fun y hy=>hρ y ?_) hr hs
    · cases lo with
      |none=>simp at hy
      |some l=>simp at hy;subst hy;simp [pQ,pQ.opt,app]
    · cases hi with
      |none=>simp at hy
      |some l=>simp at hy;subst hy;cases lo<;>simp [pQ,pQ.opt,app]
  · rename_i t x f
    exact a9E hT hH ho (hρ x (by simp [pQ])) hr
  · rename_i t x f
    exact a9D hT hH ho (hρ x (by simp [pQ])) hr
  · rename_i t x ix
    exact a9I hT hH ho (hρ x (by simp [pQ])) (hρ ix (by simp [pQ])) hr hs
  · rename_i t x ix
    exact a9H hT hH ho (hρ x (by simp [pQ])) (hρ ix (by simp [pQ])) hr hs
  · rename_i x i
    exact a9F hT hH ho (hρ x (by simp [pQ])) hr hs
  · rename_i t r
    exact aAc hT hH ho hr hf
  · rename_i t x
    exact aAh hT hH ho (hρ x (by simp [pQ])) hr hf
  · rename_i x b
    exact aAi hT hH ho (hρ x (by simp [pQ])) hr
  · rename_i t x i ok
    exact aAe hT hH ho (hρ x (by simp [pQ])) (hρ i (by simp [pQ])) hr
  · rename_i t m k x
    exact a3a hT hH (.inl ho) (hρ m (by simp [pQ])) (hρ k (by simp [pQ])) (a29 (hρ x (by simp [pQ]))) hr
  · rename_i t m k x
    exact a3a hT hH (.inr ho) (hρ m (by simp [pQ])) (hρ k (by simp [pQ])) (a29 (hρ x (by simp [pQ]))) hr
  · rename_i c
    obtain⟨cal,args,tys⟩:=c
    simp only at hr
    unfold EB at hr
    split at hr
    ·exact a9P hT hH ho (ρ:=ρ) (fun x hx=>hρ x (by simpa[pQ] using hx)) hr
    ·exact aAO hT hH ho (ρ:=ρ) (fun x hx=>hρ x (by simpa[pQ] using hx)) hr hs
    ·exact a2F (mx:=true) hT hH ho (ρ:=ρ) (fun x hx=>hρ x (by simpa[pQ] using hx)) hr
    ·exact a2F (mx:=false) hT hH ho (ρ:=ρ) (fun x hx=>hρ x (by simpa[pQ] using hx)) hr
    · rename_i f
      cases hsl:EA args.toList tys.toList with
      |false=>rw[hsl] at hr;cases hr
      | true=>
        rw[hsl] at hr
        simp only[RY] at hr
        exact aAS hT hΓ hH ho (hρ f (by simp [pQ])) (fun x hx=>hρ x (by simp [pQ];right;simpa using hx)) hr hs hf (by simpa using a3L hT hΓ hH hsl)
    ·cases hr
  ·cases hr
end
end Go.Proofs.YtfchbnahjcdiiaaGreatDoor.Vc
namespace Go.Proofs.YtfchbnahjcdiiaaGreatDoor.Vc
open Go.RowKit
set_option linter.unusedSectionVars false
def EnvOk (g:Gh) (w:World) (env:List (Nat×Slot)) (tmps:Array Value):Prop:= ∀t,RdS g w (lk env t) (tmps.getD t undef)
def DefsOk (B:Nat) (w:World) (ds:List Deferred):Prop:=ds.Nodup∧∀d∈ds,∃D,d={target:= .collected D,args:= #[]}∧B≤D∧NG≤D∧w.heap[D]? =some (.deferred (some []))
theorem a3M (B:Nat) (w:World):DefsOk B w []:=⟨List.nodup_nil,fun d hd=>by cases hd⟩
theorem DefsOk.same {B:Nat}{w w':World}{ds:List Deferred}(h:DefsOk B w ds) (hb: ∀D:Nat,w.heap[D]? =some (Obj.deferred (some []))→w'.heap[D]? =some (Obj.deferred (some []))):DefsOk B w' ds:=
 ⟨h.1,fun d hd=>by obtain⟨D,h1,h2,h0,h3⟩:=h.2 d hd;exact⟨D,h1,h2,h0,hb D h3⟩⟩
def markObj:Obj→Bool
 | .deferred _=>true
 | .loop _=>true
 |_=>false
theorem TE {w:World}{b:Nat}{ob:Obj}(hd:w.heap[b]? =some ob) (hm:markObj ob=true) (o:Nat):w.cell? ⟨b,o,none⟩=none:=by
 unfold World.cell?
 simp only[hd]
 cases ob<;>first|rfl|cases hm
theorem NN {g:Gh}{w:World}{i:Nat}{blk:Blk}(h:BlkOk g w i blk) {b o:Nat}(ho:owns g i blk b o) {ob:Obj}(hd:w.heap[b]? =some ob) (hm:markObj ob=true):False:=by
 have hrow: ∀{e:TypeId}{c n:Nat}{v:Value}{xs:List Value},w.ownsRow 0 e c v n xs→v.ownBlock=some b→False:=by
  intro e c n v xs hr hb
  rcases hr.2 with⟨rfl,_⟩ |⟨g',cap,cur,rfl,_,h3,_⟩
  ·cases hb
  ·simp only[Value.ownBlock,Option.some.injEq] at hb
   subst hb
   rw[hd] at h3
   cases h3;cases hm
 cases blk with
 |cells t x toks=>
  obtain⟨p,cs,hp,_,_,ht,_⟩:=h
  obtain⟨q,hq,rfl,h1,h2⟩:=ho
  rw[hp] at hq
  obtain rfl:=Option.some.inj hq
  have:=(ht.1 (o-p.2) (by omega)).1
  rw[TE hd hm] at this;cases this
 |grow e c n=>
  obtain⟨v,xs,hv,hr,_⟩:=h
  obtain⟨v',hv',hb⟩:=ho
  rw[hv] at hv'
  obtain rfl:=Option.some.inj hv'
  exact hrow hr hb
 |row e t l n=>
  obtain⟨_,v,xs,hv,hr,_⟩:=h
  obtain⟨v',hv',hb⟩:=ho
  rw[hv] at hv'
  obtain rfl:=Option.some.inj hv'
  exact hrow hr hb
 |map k v l=>
  obtain⟨p,es,cl,hp,h0,h2,_⟩:=h
  obtain⟨q,hq,h1⟩:=ho
  rw[hp] at hq
  obtain rfl:=Option.some.inj hq
  rw[show b=p.1 from h1] at hd
  rw[h2] at hd;cases hd;cases hm
 |iter s n=>
  obtain⟨p,hp,h0,h2,_⟩:=h
  obtain⟨q,hq,h1⟩:=ho
  rw[hp] at hq
  obtain rfl:=Option.some.inj hq
  rw[show b=p.1 from h1] at hd
  rw[h2] at hd;cases hd;cases hm
 |dead=>exact ho.elim
theorem DefsOk.eff {B:Nat}{g g':Gh}{w w':World}{H:Heap}{e:Eff}{v:Value}{ds:List Deferred}(h:DefsOk B w ds) (hH:HeapOk g w H) (k:EffOk g w H e g' w' v):DefsOk B w' ds:=
 h.same fun D hD=>by
  rw[k.fr.blk D (Array.getElem?_eq_some_iff.1 hD).1 (fun o ⟨i,blk,_,h1,h2⟩=>NN (hH.blk i blk h1) h2 hD rfl)]
  exact hD
structure Rel (B:Nat) (g:Gh) (w:World) (s:St) (a:Act):Prop where
 env:EnvOk g w s.env a.tmps
 heap:HeapOk g w s.H
 size:a.tmps.size=s.N
 nb: ∀i,s.nb≤i→g.J i=none∧∀n,g.cur i n=none
 def_:DefsOk B w a.defers
 np:s.np≤s.nb
theorem aAT (g:Gh) (w:World) (v:Value):w8 g w (QX v) v:=by
 unfold QX
 split
 ·exact sZ _ _ _
 ·exact tJ _ _ _ _
 ·rename_i s
  have:=CT g w s.data.toList
  rw[Array.toArray_toList] at this
  exact this
 ·exact rfl
 ·exact .inr ⟨rfl,rfl⟩
 ·exact .inr ⟨rfl,rfl⟩
 ·exact .inr ⟨rfl,rfl⟩
 ·exact trivial
theorem wC {g:Gh}{w:World}{env:List (Nat×Slot)}{a:Act}(h:EnvOk g w env a.tmps) (x:Operand):RdS g w (rC env x) (a.eval x):=by
 cases x with
 |tmp t=>exact h t
 |const v=>exact⟨aAT g w v,trivial⟩
 |func f=>exact⟨.inr ⟨rfl,[],rfl,rfl⟩,trivial⟩
 |global i=>exact⟨trivial,trivial⟩
theorem GI {g:Gh}{w:World}{G:Bool}(hG:G=true): ∀{ss:List Slot}{s:Slot}{v:Value},s∈ss→(∀p∈vD G ss,p)→RdS g w s v→RdS g w (u7 s) v
 |x::ss,s,v,hm,hn,hs=>by
  have hcase: ∀{s:Slot},(∀p∈vD G [s],p)→RdS g w s v→RdS g w (u7 s) v:=by
   intro s hn hs
   obtain⟨d,k⟩:=s
   cases d with
   |cond p d=>
    refine⟨hs.1.1 (hn (G=true→p=true) (by simp [vD]) hG),?_⟩
    simp only[u7]
   |_=>exact hs
  have hsplit: ∀p,p∈vD G [x]→p∈vD G (x::ss):=by
   intro p hp
   unfold vD at hp⊢
   split at hp
   ·cases hp
   ·rename_i heq
    simp only[List.cons.injEq] at heq
    obtain⟨rfl,rfl⟩:=heq
    rcases List.mem_cons.1 hp with h|h
    ·exact h▸List.mem_cons_self
    ·cases h
   ·rename_i h0 heq
    simp only[List.cons.injEq] at heq
    obtain⟨_,rfl⟩:=heq
    cases hp
  have hsplit2: ∀p,p∈vD G ss→p∈vD G (x::ss):=by
   intro p hp
   generalize hL:vD G ss=L at hp
   unfold vD
   split
   ·rename_i h;cases h
   ·rename_i heq
    simp only[List.cons.injEq] at heq
    obtain⟨_,rfl⟩:=heq
    rw[hL]
    exact List.mem_cons_of_mem _ hp
   ·rename_i heq
    simp only[List.cons.injEq] at heq
    obtain⟨_,rfl⟩:=heq
    rw[hL]
    exact hp
  rcases List.mem_cons.1 hm with rfl|hm
  ·exact hcase (fun p hp=>hn p (hsplit p hp)) hs
  ·exact GI hG hm (fun p hp=>hn p (hsplit2 p hp)) hs
theorem NO {env:List (Nat×Slot)}: ∀{xs:List Operand}{x:Operand},x∈xs→rC env x∈yG env xs
 |y::xs,x,h=>by
  simp only[yG]
  rcases List.mem_cons.1 h with rfl|h
  ·exact List.mem_cons_self
  ·exact List.mem_cons_of_mem _ (NO h)
theorem TF: ∀(ops:List Oper) (j:Nat),zM ops j=(ops[j]?).bind (·.dst)
 |[],j=>by simp [zM]
 |o::_,0=>rfl
 |_::r,j+1=>by simpa[zM] using TF r j
section
variable {P:Program}{g:Gh}{w:World}{T:Types}{Γ:Ctx}(hT:TypesOk P T) (hΓ:CtxOk P Γ)
include hT hΓ
theorem aAU {ops:List Oper}{o:Oper}{a:Act}{env:List (Nat×Slot)}(henv:EnvOk g w env a.tmps) {j:Nat}{b:Bool}(hg:o.guard=some (j,b)) {G:Bool}(h:BH env b (zM ops j)=some G):Region.wanted o (yielded ops.toArray a.tmps)=G:=by
 rw[TF] at h
 unfold Region.wanted
 rw[hg]
 simp only
 cases hd:(ops[j]?).bind (·.dst) with
 |none=>rw[hd] at h;cases h
 |some t=>
  rw[hd] at h
  simp only[BH] at h
  have hy:yielded ops.toArray a.tmps j=match a.tmps[t]? with|some (.bool b)=>some b|_=>none:=by
   unfold yielded
   have:(ops.toArray[j]?).bind (·.dst)=some t:=by simpa using hd
   rw[this]
   rfl
  have hv:=henv t
  generalize hl:lk env t=s at h hv
  unfold a2g at h
  have hb: ∀c,a.tmps.getD t undef= .bool c→a.tmps[t]? =some (.bool c):=by
   intro c hc
   rw[Array.getD_eq_getD_getElem?] at hc
   cases hq:a.tmps[t]? with
   |none=>rw[hq] at hc;simp [undef] at hc
   |some v=>rw[hq] at hc;simp at hc;rw[hc]
  split at h
  ·rename_i c k
   simp only[Option.some.injEq] at h
   have:=hb _ (tU hv.1)
   rw[hy,this,←h]
   cases c<;>cases b<;>rfl
  ·rename_i p c k
   simp only[Option.some.injEq] at h
   subst h
   cases p with
   |true=>
    have:=hb _ (tU (hv.1.1 rfl))
    rw[hy,this]
    cases c<;>cases b<;>rfl
   |false=>
    have hu:=hv.1.2 rfl
    have: ∀c,a.tmps[t]? ≠some (.bool c):=by
     intro c hc
     rw[Array.getD_eq_getD_getElem?,hc] at hu
     simp [undef] at hu
    rw[hy]
    cases hq:a.tmps[t]? with
    |none=>cases b<;>rfl
    |some v=>cases v<;>first|(exact absurd hq (this _)) |(cases b<;>rfl)
  ·cases h
theorem JF {G:Bool}{p:Prop}: ∀{l:List Prop},p∈l→(G=true→p)∈IS G l
 |q::l,h=>by
  simp only[IS]
  rcases List.mem_cons.1 h with rfl|h
  ·exact List.mem_cons_self
  ·exact List.mem_cons_of_mem _ (JF h)
theorem TG {o:Oper}{a:Act}{H:Heap}(hH:HeapOk g w H) {c x y:Operand}(hop:o.op= .pick c x y) {sc sx sy:Slot}(hc:RdS g w sc (a.eval c)) (hx:RdS g w sx (a.eval x)) (hy:RdS g w sy (a.eval y)) {e:Eff}(hr:IR sc sx sy=some e) (hs: ∀p∈e.side,p):pC P o a g w H e:=by
 intro K Q hK
 unfold IR at hr
 split at hr
 ·rename_i z k
  have hz:=tU hc.1
  have run:(execOp a.eval o).run P w= .ok (.value (if z then a.eval x else a.eval y)) w:=by
   unfold execOp
   rw[hop]
   simp [hz,asBool]
  have tP: ∀{v:Bool}{side:List Prop},(if z then a.eval x else a.eval y)= .bool v→e=⟨side,(.val .bool v,none),[],[]⟩→o.wp P a w K Q:=by
   intro v side hv he
   subst he
   refine pC.value (v:= .bool v) (g':=g) (w':=w) (H:=H) (by rw[run,hv]) (.pure hH (s:=(.val .bool v,none)) ⟨(sZ g w v:w8 g w (.val .bool v) (.bool v)),trivial⟩) K Q hK
  unfold a2h at hr
  split at hr
  ·rename_i m1 _ m2 _
   simp only[Option.some.injEq] at hr
   refine tP (v:=cond z m1 m2) ?_ hr.symm
   cases z
   ·exact tU hy.1
   ·exact tU hx.1
  ·rename_i p m1 _ m2 _
   simp only[Option.some.injEq] at hr
   refine tP (v:=cond z m1 m2) ?_ hr.symm
   cases z
   ·exact tU hy.1
   ·exact tU (hx.1.1 (hs (true=true→p=true) (by rw[←hr];simp) rfl))
  ·rename_i m1 _ p m2 _
   simp only[Option.some.injEq] at hr
   refine tP (v:=cond z m1 m2) ?_ hr.symm
   cases z
   ·exact tU (hy.1.1 (hs (false=false→p=true) (by rw[←hr];simp) rfl))
   ·exact tU hx.1
  ·rename_i q m1 _ p m2 _
   simp only[Option.some.injEq] at hr
   refine tP (v:=cond z m1 m2) ?_ hr.symm
   cases z
   ·exact tU (hy.1.1 (hs (false=false→p=true) (by rw[←hr];simp) rfl))
   ·exact tU (hx.1.1 (hs (true=true→q=true) (by rw[←hr];simp) rfl))
  ·cases hr
 ·cases hr
theorem a3N {ops:List Oper}{o:Oper}{a:Act}{s:St}{e:Eff}(henv:EnvOk g w s.env a.tmps) (hH:HeapOk g w s.H) (hr:evOp T Γ ops o s=some e) (hs: ∀p∈e.side,p) (hf:w9 g s.nb e) {K:Act→World→Prop}{Q:Exit→Act→World→Prop}
  (hK: ∀g' w' v,EffOk g w s.H e g' w' v→K (a.put o.dst v) w'):
  if Region.wanted o (yielded ops.toArray a.tmps) then o.wp P a w K Q else K (a.put o.dst undef) w:=by
 unfold evOp at hr
 cases hgd:o.guard with
 |none=>
  rw[hgd] at hr
  simp only at hr
  have hw:Region.wanted o (yielded ops.toArray a.tmps)=true:=by unfold Region.wanted;rw[hgd]
  rw[if_pos hw]
  cases hop:o.op with
  |pick c x y=>
   rw[hop] at hr
   simp only[G3] at hr
   exact TG hT hΓ hH hop (wC henv c) (wC henv x) (wC henv y) hr hs K Q hK
  |_=>
   rw[hop] at hr
   simp only[G3] at hr
   rw[←hop] at hr
   generalize hpl:rM T Γ o.type (fun x=>u7 (rC s.env x)) s.nb s.H o.op=op at hr
   cases op with
   |none=>cases hr
   |some e0=>
    simp only[G1,Option.some.injEq] at hr
    subst hr
    refine TD hT hΓ hH rfl (ρ:=fun x=>u7 (rC s.env x)) (fun x hx=> ?_) hpl (fun p hp=>hs p (tK.2 (.inr hp))) hf K Q (fun g' w' v h=>hK g' w' v ⟨h.le,h.slot,h.heap,h.fr,h.perm,h.gho,h.ty⟩)
    exact GI rfl (NO hx) (fun p hp=>hs p (tK.2 (.inl hp))) (wC henv x)
 |some jb=>
  obtain⟨j,b⟩:=jb
  rw[hgd] at hr
  simp only at hr
  generalize hG:BH s.env b (zM ops j)=oG at hr
  cases oG with
  |none=>cases hr
  |some G=>
   have hw:=aAU hT hΓ henv hgd hG
   rw[hw]
   by_cases hpk: ∃c x y,o.op= .pick c x y
   ·obtain⟨c,x,y,hop⟩:=hpk
    rw[hop] at hr
    simp only[G2] at hr
    generalize hpl:IR (u7 (rC s.env c)) (rC s.env x) (rC s.env y)=op at hr
    cases op with
    |none=>cases hr
    |some e0=>
     unfold CP at hr
     split at hr
     ·rename_i side d k rds heq
      simp only[Option.some.injEq] at hr heq
      subst hr
      subst heq
      by_cases hGt:G=true
      ·rw[if_pos hGt]
       refine TG hT hΓ hH hop (GI hGt (ss:=[rC s.env c]) (by simp) (fun p hp=>hs p (tK.2 (.inl hp))) (wC henv c)) (wC henv x) (wC henv y) hpl (fun p hp=>hs (G=true→p) (tK.2 (.inr (JF hT hΓ hp))) hGt) K Q (fun g' w' v h=>hK g' w' v ⟨h.le,⟨⟨fun _=>h.slot.1,fun hc=>by rw[hGt] at hc;cases hc⟩,trivial⟩,h.heap,h.fr,h.perm,h.gho,h.ty⟩)
      ·rw[if_neg hGt]
       exact hK g w undef (.pure hH ⟨⟨fun hc=>absurd hc hGt,fun _=>rfl⟩,trivial⟩)
     ·rename_i side sl u us rds heq
      simp only[Option.some.injEq] at hr heq
      subst hr
      subst heq
      have hGt:G=true:=hs _ List.mem_cons_self
      rw[if_pos hGt]
      exact TG hT hΓ hH hop (GI hGt (ss:=[rC s.env c]) (by simp) (fun p hp=>hs p (List.mem_cons_of_mem _ (tK.2 (.inl hp)))) (wC henv c)) (wC henv x) (wC henv y) hpl (fun p hp=>hs (G=true→p) (List.mem_cons_of_mem _ (tK.2 (.inr (JF hT hΓ hp)))) hGt) K Q (fun g' w' v h=>hK g' w' v ⟨h.le,h.slot,h.heap,h.fr,h.perm,h.gho,h.ty⟩)
     ·cases hr
   ·have e1:G2 T Γ o s (some G) o.op=CP G (vD G (yG s.env (pQ o.op))) (rM T Γ o.type (fun x=>u7 (rC s.env x)) s.nb s.H o.op):=by
     cases ho:o.op<;>first|rfl|(exact absurd ⟨_,_,_,ho⟩ hpk)
    rw[e1] at hr
    generalize hpl:rM T Γ o.type (fun x=>u7 (rC s.env x)) s.nb s.H o.op=op at hr
    cases op with
    |none=>cases hr
    |some e0=>
     unfold CP at hr
     split at hr
     ·rename_i side d k rds heq
      simp only[Option.some.injEq] at hr heq
      subst hr
      subst heq
      by_cases hGt:G=true
      ·rw[if_pos hGt]
       refine TD hT hΓ hH rfl (ρ:=fun x=>u7 (rC s.env x)) (fun x hx=> ?_) hpl (fun p hp=>hs (G=true→p) (tK.2 (.inr (JF hT hΓ hp))) hGt) (fun i hi=>by cases hi) K Q (fun g' w' v h=>hK g' w' v ⟨h.le,⟨⟨fun _=>h.slot.1,fun hc=>by rw[hGt] at hc;cases hc⟩,trivial⟩,h.heap,h.fr,h.perm,h.gho,h.ty⟩)
       exact GI hGt (NO hx) (fun p hp=>hs p (tK.2 (.inl hp))) (wC henv x)
      ·rw[if_neg hGt]
       exact hK g w undef (.pure hH ⟨⟨fun hc=>absurd hc hGt,fun _=>rfl⟩,trivial⟩)
     ·rename_i side sl u us rds heq
      simp only[Option.some.injEq] at hr heq
      subst hr
      subst heq
      have hGt:G=true:=hs _ List.mem_cons_self
      rw[if_pos hGt]
      refine TD hT hΓ hH rfl (ρ:=fun x=>u7 (rC s.env x)) (fun x hx=> ?_) hpl (fun p hp=>hs (G=true→p) (List.mem_cons_of_mem _ (tK.2 (.inr (JF hT hΓ hp)))) hGt) hf K Q (fun g' w' v h=>hK g' w' v ⟨h.le,h.slot,h.heap,h.fr,h.perm,h.gho,h.ty⟩)
      exact GI hGt (NO hx) (fun p hp=>hs p (List.mem_cons_of_mem _ (tK.2 (.inl hp)))) (wC henv x)
     ·cases hr
end
end Go.Proofs.YtfchbnahjcdiiaaGreatDoor.Vc
namespace Go.Proofs.YtfchbnahjcdiiaaGreatDoor.Vc
open Go.RowKit
set_option linter.unusedSectionVars false
structure Good (A:Nat→Nat→Prop) (L:List Blk) (g0:Gh) (w0:World) (g:Gh) (w:World) (H:Heap):Prop where
 shut: ∀b o,g0.S b o→g.S b o∧w.cell? ⟨b,o,none⟩=w0.cell? ⟨b,o,none⟩
 fr:Fr A w0 w g0.S g.S
 perm: ∀i blk b o,getH H i=some blk→owns g i blk b o→w0.heap.size≤b∨A b o
 J: ∀i p,i<L.length→g0.J i=some p→g.J i=some p
 live: ∀i,i<L.length→(∃p,g.J i=some p)∨(∃n v,g.cur i n=some v)
 ty: ∀i u y us,i<L.length→getH H i=some (.cells u y us)→∃x ts,L[i]? =some (.cells u x ts)
 cur: ∀i n v,i<L.length→g0.cur i n=some v→g.cur i n=some v
theorem Good.eff {A:Nat→Nat→Prop}{L:List Blk}{g0 g g':Gh}{w0 w w':World}{H:Heap}{e:Eff}{v:Value}(h:Good A L g0 w0 g w H) (k:EffOk g w H e g' w' v):Good A L g0 w0 g' w' (app e.upd H):=by
 have hown: ∀b o,ownsIn g H (idsOf e.upd) b o→w0.heap.size≤b∨A b o:=fun b o ⟨i,blk,_,h2,h3⟩=>h.perm i blk b o h2 h3
 refine⟨fun b o hs=> ?_,h.fr.trans k.fr hown,fun i blk b o hg ho=> ?_,fun i p hi hp=>k.le.J _ _ (h.J i p hi hp),fun i hi=> ?_,fun i u y us hi hg=> ?_,fun i n u hi hu=>k.le.cur _ _ _ (h.cur i n u hi hu)⟩
 ·obtain⟨h1,h2⟩:=h.shut b o hs
  exact⟨k.le.S b o h1,(k.le.cell b o h1).trans h2⟩
 ·by_cases hi:i∈idsOf e.upd
  ·rcases k.perm i blk b o hi hg ho with h1|h1
   ·exact .inl (Nat.le_trans h.fr.size h1)
   ·exact hown b o h1
  ·exact h.perm i blk b o ((yI hi).symm.trans hg) ((vT (k.gho i hi).1 (k.gho i hi).2).1 ho)
 ·rcases h.live i hi with⟨p,hp⟩ |⟨n,u,hu⟩
  ·exact .inl ⟨p,k.le.J _ _ hp⟩
  ·exact .inr ⟨n,u,k.le.cur _ _ _ hu⟩
 ·rcases k.ty i u y us hg with⟨x,ts,h1⟩ |⟨h1,h2⟩
  ·exact h.ty i u x ts hi h1
  ·rcases h.live i hi with⟨p,hp⟩ |⟨n,u,hu⟩
   ·rw[h1] at hp;cases hp
   ·rw[h2] at hu;cases hu
def vV:List (Nat×Nat)→Nat→Option Nat
 |[],_=>none
 |(n,o)::r,k=>if n=k then some o else vV r k
def rP (g:Gh) (np:Nat) (m:List (Nat×Nat)):Gh:=
 ⟨g.S,fun i=>if i<np then g.J i else(vV m i).bind g.J,fun i n=>if i<np then g.cur i n else(vV m i).bind fun o=>g.cur o n⟩
theorem NP {n o:Nat}: ∀{m:List (Nat×Nat)},G5 n o m=false→∀n' o',(n',o')∈m→n'≠n∧o'≠o
 |[],_,_,_,h=>by cases h
 |(a,b)::m,h,n',o',hm=>by
  simp only[G5,Bool.or_eq_false_iff,decide_eq_false_iff_not] at h
  rcases List.mem_cons.1 hm with h1|h1
  ·cases h1;exact h.1
  ·exact NP h.2 n' o' h1
theorem TH {np:Nat}: ∀{m:List (Nat×Nat)},uA np m=true→∀{n o:Nat},(n,o)∈m→vV m n=some o∧(n<np→o=n)
 |[],_,_,_,h=>by cases h
 |(a,b)::m,hk,n,o,h=>by
  simp only[uA,Bool.and_eq_true,Bool.not_eq_true',Bool.or_eq_true,decide_eq_true_eq] at hk
  obtain⟨⟨h1,h2⟩,h3⟩:=hk
  simp only[vV]
  rcases List.mem_cons.1 h with h4|h4
  ·cases h4
   rw[if_pos rfl]
   exact⟨rfl,fun h5=>by rcases h1 with h1|h1<;>omega⟩
  ·have h5:=NP h2 n o h4
   rw[if_neg (Ne.symm h5.1)]
   exact TH h3 h4
theorem yY: ∀{m:List (Nat×Nat)}{k j:Nat},tH m k=some j→(j,k)∈m
 |[],_,_,h=>by cases h
 |(a,b)::m,k,j,h=>by
  simp only[tH] at h
  split at h
  ·rename_i e;subst e;simp only[Option.some.injEq] at h;subst h;exact List.mem_cons_self
  ·exact List.mem_cons_of_mem _ (yY h)
theorem wW {g:Gh}{np:Nat}{m:List (Nat×Nat)}(hk:uA np m=true) {n o:Nat}(h:(n,o)∈m):(rP g np m).J n=g.J o∧(rP g np m).cur n=g.cur o:=by
 obtain⟨h1,h2⟩:=TH hk h
 refine⟨?_,?_⟩
 ·show (if n<np then g.J n else(vV m n).bind g.J)=_
  by_cases hn:n<np
  ·rw[if_pos hn,h2 hn]
  ·rw[if_neg hn,h1];rfl
 ·funext q
  show (if n<np then g.cur n q else(vV m n).bind fun o=>g.cur o q)=_
  by_cases hn:n<np
  ·rw[if_pos hn,h2 hn]
  ·rw[if_neg hn,h1];rfl
theorem TJ {g:Gh}{np:Nat}{m:List (Nat×Nat)}(hk:uA np m=true): ∀(l l':List (Nat×Nat)) (vs:List Value),uJ g l vs→yH m l=some l'→uJ (rP g np m) l' vs
 |[],l',vs,h,hr=>by simp only[yH,Option.some.injEq] at hr;subst hr;exact h
 |(i,o)::l,l',vs,⟨p,vs',h1,h2,h3⟩,hr=>by
  simp only[yH] at hr
  cases hi:tH m i with
  |none=>rw[hi] at hr;cases hr2:yH m l<;>rw[hr2] at hr<;>cases hr
  |some j=>
   rw[hi] at hr
   cases hr2:yH m l with
   |none=>rw[hr2] at hr;cases hr
   |some l2=>
    rw[hr2] at hr
    simp only[yH.renCons,Option.some.injEq] at hr
    subst hr
    exact⟨p,vs',by rw[(wW hk (yY hi)).1];exact h1,h2,TJ hk l l2 vs' h3 hr2⟩
theorem aAV {m:List (Nat×Nat)}{u t:Ty}{x y:t.den}{o:Nat}{l:List u.den}(h:vS m t x=some y) (hg:pA (.list u) t x o=some l):pA (.list u) t y o=some l:=
 T4 (vS m) (fun _ _ _=>rfl) (fun _ _=>rfl) h hg
theorem JG {g:Gh}{w:World}{np:Nat}{m:List (Nat×Nat)}(hk:uA np m=true): ∀{t:Ty}{x y:t.den}{cs:List Value},Rd g w t x cs→vS m t x=some y→Rd (rP g np m) w t y cs
 | .bool,_,_,_,r,h=>by cases h;exact r
 | .int _,_,_,_,r,h=>by cases h;exact r
 | .str,_,_,_,r,h=>by cases h;exact r
 | .unit,_,_,_,r,h=>by cases h;exact r
 | .list t,x,y,_,r,h=>by
  simp only[vS] at h
  split at h
  ·rename_i hp
   cases h
   exact sN (g:=g) (g':=rP g np m) rfl (t:= .list t) (by simpa[Ty.pure] using hp) r
  ·cases h
 | .ref,none,y,_,r,h=>by cases h;exact r
 | .ref,some (i,o),y,_,⟨p,h1,h2⟩,h=>by
  simp only[vS,MV] at h
  cases hi:tH m i with
  |none=>rw[hi] at h;cases h
  |some j=>
   rw[hi] at h
   cases h
   exact⟨p,by rw[(wW hk (yY hi)).1];exact h1,h2⟩
 | .clo,none,y,_,r,h=>by cases h;exact r
 | .clo,some (f,l),y,_,⟨vs,h1,h2⟩,h=>by
  simp only[vS,a2l] at h
  cases hi:yH m l with
  |none=>rw[hi] at h;cases h
  |some l'=>
   rw[hi] at h
   cases h
   exact⟨vs,TJ hk l l' vs h1 hi,h2⟩
 | .fn,_,_,_,r,h=>by cases h;exact r
 | .rl _ _,none,y,_,r,h=>by cases h;exact r
 | .rl _ _,some (k,n),y,_,⟨v,h1,h2⟩,h=>by
  simp only[vS,a2n] at h
  cases hi:tH m k with
  |none=>rw[hi] at h;cases h
  |some j=>
   rw[hi] at h
   cases h
   exact⟨v,by rw[(wW hk (yY hi)).2];exact h1,h2⟩
 | .mref,none,y,_,r,h=>by cases h;exact r
 | .mref,some (i,o),y,_,⟨p,h1,h2⟩,h=>by
  simp only[vS,MV] at h
  cases hi:tH m i with
  |none=>rw[hi] at h;cases h
  |some j=>
   rw[hi] at h
   cases h
   exact⟨p,by rw[(wW hk (yY hi)).1];exact h1,h2⟩
 | .mp,none,y,_,r,h=>by cases h;exact r
 | .mp,some i,y,_,⟨p,h1,h2⟩,h=>by
  simp only[vS,a2m] at h
  cases hi:tH m i with
  |none=>rw[hi] at h;cases h
  |some j=>
   rw[hi] at h
   cases h
   exact⟨p,by rw[(wW hk (yY hi)).1];exact h1,h2⟩
 | .pair a b,x,y,_,⟨c1,c2,e,r1,r2⟩,h=>by
  simp only[vS] at h
  obtain⟨h1,h2⟩:=T3 h
  refine⟨c1,c2,e,?_,?_⟩
  ·split at h1
   ·rename_i hp;exact(Option.some.inj h1)▸sN (g:=g) (g':=rP g np m) rfl hp r1
   ·exact JG hk r1 h1
  ·split at h2
   ·rename_i hp;exact(Option.some.inj h2)▸sN (g:=g) (g':=rP g np m) rfl hp r2
   ·exact JG hk r2 h2
theorem NQ {g:Gh}{w:World}{np:Nat}{m:List (Nat×Nat)}(hk:uA np m=true) {s:Slot}{v:Value}(h:RdS g w s v):RdS (rP g np m) w (w7 m s) v:=by
 have caps: ∀(l l':List (Nat×Nat)) (vs:List Value),uJ g l vs→yH m l=some l'→uJ (rP g np m) l' vs:=TJ hk
 unfold w7
 split
 ·rename_i k n k'
  cases hi:tH m k with
  |none=>exact⟨trivial,trivial⟩
  |some j=>
   obtain⟨h1,h2⟩:=h.1
   exact⟨⟨by rw[(wW hk (yY hi)).2];exact h1,h2⟩,trivial⟩
 ·obtain h1:=h.1
  refine⟨?_,trivial⟩
  rcases h1 with⟨h1,_⟩ |⟨_,h2⟩
  ·cases h1
  ·exact .inr ⟨rfl,h2⟩
 ·rename_i p k
  obtain⟨i,o⟩:=p
  simp only[a2j]
  cases hi:tH m i with
  |none=>exact⟨trivial,trivial⟩
  |some j=>
   simp only[Option.map_some,w7.refSlot]
   obtain⟨q,hq,hv⟩:=wV h.1
   exact⟨.inr ⟨rfl,q,by rw[(wW hk (yY hi)).1];exact hq,by rw[hv]⟩,trivial⟩
 ·rename_i f l k
  cases hl:yH m l with
  |none=>exact⟨trivial,trivial⟩
  |some l'=>
   simp only[w7.cloSlot]
   rcases h.1 with⟨h1,_⟩ |⟨_,vs,h2,h3⟩
   ·cases h1
   ·exact⟨.inr ⟨rfl,vs,caps l l' vs h2 hl,h3⟩,trivial⟩
 ·rename_i i k
  cases hi:tH m i with
  |none=>exact⟨trivial,trivial⟩
  |some j=>
   simp only[w7.mpSlot]
   rcases h.1 with⟨h1,_⟩ |⟨_,p,h2,h3⟩
   ·cases h1
   ·exact⟨.inr ⟨rfl,p,by rw[(wW hk (yY hi)).1];exact h2,h3⟩,trivial⟩
 ·rename_i t x k _ _ _ _
  split
  ·rename_i hp
   have hv:qQ (rP g np m) w t x v:=h.1.imp (fun⟨a,cs,e,q⟩=>⟨a,cs,e,sN (g:=g) (g':=rP g np m) rfl hp q⟩) (fun⟨a,q⟩=>⟨a,sN (g:=g) (g':=rP g np m) rfl hp q⟩)
   refine⟨hv,?_⟩
   replace h:=a3c h
   generalize htk:BA t k=k' at h⊢
   cases k' with
   |none=>trivial
   |some k=>
    simp only[a2k]
    cases hj:tH m k with
    |none=>trivial
    |some j=>
     have h2:=h.2
     cases t with
     |list u=>
      show (rP g np m).cur j _=_
      rw[(wW hk (yY hj)).2]
      exact h2
     |pair a b=>exact h2
     |_=>exact h2.elim
  ·cases hy:vS m t x with
   |none=>exact⟨trivial,trivial⟩
   |some y=>
    simp only[w7.valSlot]
    exact⟨h.1.imp (fun⟨a,cs,e,q⟩=>⟨a,cs,e,JG hk q hy⟩) (fun⟨a,q⟩=>⟨a,JG hk q hy⟩),trivial⟩
 ·rename_i t x k
  split
  ·rename_i hp
   obtain⟨b,o,cs,h1,h2,h3,h4⟩:=h.1
   exact⟨⟨b,o,cs,h1,h2,h3,sN (g:=g) (g':=rP g np m) rfl hp h4⟩,trivial⟩
  ·exact⟨trivial,trivial⟩
 ·exact⟨trivial,trivial⟩
theorem a3O {q j:Nat}{x:Nat×Nat}: ∀{r:List (Nat×Nat)},x∈MW q j r→x=(q,j)∨x∈r
 |[],h=> .inl (List.mem_singleton.1 h)
 |(a,b)::r,h=>by
  simp only[MW] at h
  split at h
  ·exact List.mem_cons.1 h
  ·rcases List.mem_cons.1 h with h|h
   ·exact .inr (by rw[h];exact List.mem_cons_self)
   ·exact(a3O h).imp id (List.mem_cons_of_mem _)
theorem NR {m:List (Nat×Nat)}: ∀{ts:List (Nat×Nat)}{q j:Nat},(q,j)∈EE m ts→∃k,(q,k)∈ts∧tH m k=some j
 |[],_,_,h=>by cases h
 |(a,b)::ts,q,j,h=>by
  simp only[EE] at h
  cases hb:tH m b with
  |none=>
   rw[hb] at h
   obtain⟨k,h1,h2⟩:=NR h
   exact⟨k,List.mem_cons_of_mem _ h1,h2⟩
  |some j'=>
   rw[hb] at h
   simp only[EE.renTok1] at h
   rcases a3O h with h1|h1
   ·cases h1;exact⟨b,List.mem_cons_self,hb⟩
   ·obtain⟨k,h1,h2⟩:=NR h1
    exact⟨k,List.mem_cons_of_mem _ h1,h2⟩
theorem EK {g:Gh}{w:World}{np:Nat}{m:List (Nat×Nat)}(hk:uA np m=true) {n o:Nat}(hm:(n,o)∈m) {b:Option Blk}(h: ∀c,b=some c→BlkOk g w o c):
  BlkOk (rP g np m) w n (CQ m b)∧∀bb oo,owns (rP g np m) n (CQ m b) bb oo→∃c,b=some c∧owns g o c bb oo:=by
 obtain⟨hJ,hcur⟩:=wW (g:=g) hk hm
 unfold CQ
 split
 ·rename_i t x toks
  split
  ·rename_i hp
   obtain⟨p,cs,h1,h2,h3,h4,h5,h6⟩:=h _ rfl
   refine⟨⟨p,cs,by rw[hJ];exact h1,sN (g:=g) (g':=rP g np m) rfl hp h2,h3,h4,h5,fun q j hmem=> ?_⟩,fun bb oo ⟨pp,e1,e2⟩=>⟨_,rfl,pp,by rw[hJ] at e1;exact e1,e2⟩⟩
   obtain⟨k,k1,k2⟩:=NR hmem
   obtain⟨u,l,v,g1,g2,g3⟩:=h6 q k k1
   exact⟨u,l,v,g1,g2,by rw[(wW hk (yY k2)).2];exact g3⟩
  ·cases hy:vS m t x with
   |none=>exact⟨trivial,fun _ _ h=>h.elim⟩
   |some y=>
    obtain⟨p,cs,h1,h2,h3,h4,h5,h6⟩:=h _ rfl
    simp only[S5]
    refine⟨⟨p,cs,by rw[hJ];exact h1,JG hk h2 hy,h3,h4,h5,fun q j hmem=> ?_⟩,fun bb oo ⟨pp,e1,e2⟩=>⟨_,rfl,pp,by rw[hJ] at e1;exact e1,e2⟩⟩
    obtain⟨k,k1,k2⟩:=NR hmem
    obtain⟨u,l,v,g1,g2,g3⟩:=h6 q k k1
    exact⟨u,l,v,aAV hy g1,g2,by rw[(wW hk (yY k2)).2];exact g3⟩
 ·rename_i e c k
  obtain⟨v,xs,h1,h2,h3,h4⟩:=h _ rfl
  exact⟨⟨v,xs,by rw[hcur];exact h1,h2,fun q hq=>by rw[hcur];exact h3 q hq,h4⟩,fun bb oo ⟨v',e1,e2⟩=>⟨_,rfl,v',by rw[hcur] at e1;exact e1,e2⟩⟩
 ·rename_i e t l n
  split
  ·rename_i hp
   obtain⟨h0,v,xs,h1,h2,h5,h3,h4⟩:=h _ rfl
   exact⟨⟨h0,v,xs,by rw[hcur];exact h1,h2,yX (fun _ _ h=>sN (g:=g) (g':=rP g np m) rfl hp h) h5,fun q hq=>by rw[hcur];exact h3 q hq,h4⟩,fun bb oo ⟨v',e1,e2⟩=>⟨_,rfl,v',by rw[hcur] at e1;exact e1,e2⟩⟩
  ·exact⟨trivial,fun _ _ h=>h.elim⟩
 ·rename_i k v l
  split
  ·rename_i hp
   rw[Bool.and_eq_true] at hp
   obtain⟨p,es,cl,h1,h0,h2,h3,h4⟩:=h _ rfl
   exact⟨⟨p,es,cl,by rw[hJ];exact h1,h0,h2,J1 (g:=g) (g':=rP g np m) rfl hp.1 hp.2 h3,h4⟩,fun bb oo ⟨pp,e1,e2⟩=>⟨_,rfl,pp,by rw[hJ] at e1;exact e1,e2⟩⟩
  ·exact⟨trivial,fun _ _ h=>h.elim⟩
 ·obtain⟨p,h1,h0,h2,h4⟩:=h _ rfl
  exact⟨⟨p,by rw[hJ];exact h1,h0,h2,h4⟩,fun bb oo ⟨pp,e1,e2⟩=>⟨_,rfl,pp,by rw[hJ] at e1;exact e1,e2⟩⟩
 ·exact⟨trivial,fun _ _ h=>h.elim⟩
theorem CX {m:List (Nat×Nat)}{H:Heap}: ∀{l:List (Nat×Nat)}{n:Nat}{b:Blk},getH (MX m H l) n=some b→∃o,(n,o)∈l∧b=CQ m (getH H o)
 |[],_,_,h=>by cases h
 |(a,c)::l,n,b,h=>by
  simp only[MX,getH] at h
  split at h
  ·rename_i e
   subst e
   exact⟨c,List.mem_cons_self,(Option.some.inj h).symm⟩
  ·obtain⟨o,h1,h2⟩:=CX h
   exact⟨o,List.mem_cons_of_mem _ h1,h2⟩
theorem a3P {m:List (Nat×Nat)}{env:List (Nat×Slot)}: ∀(l:List Nat) (t:Nat),lk (IV m env l) t=(.any,none)∨lk (IV m env l) t=w7 m (lk env t)
 |[],_=> .inl rfl
 |a::l,t=>by
  simp only[IV,lk]
  split
  ·rename_i e;subst e;exact .inr rfl
  ·exact a3P l t
theorem a3Q: ∀{m:List (Nat×Nat)}{n o:Nat},(n,o)∈m→n<MY m
 |(a,b)::m,n,o,h=>by
  simp only[MY]
  rcases List.mem_cons.1 h with h1|h1
  ·cases h1;omega
  ·have:=a3Q h1;omega
theorem TK: ∀{m:List (Nat×Nat)}{n o:Nat},vV m n=some o→(n,o)∈m
 |[],_,_,h=>by cases h
 |(a,b)::m,n,o,h=>by
  simp only[vV] at h
  split at h
  ·rename_i e;subst e;simp only[Option.some.injEq] at h;subst h;exact List.mem_cons_self
  ·exact List.mem_cons_of_mem _ (TK h)
theorem TL {B:Nat}{A:Nat→Nat→Prop}{L:List Blk}{g0 g:Gh}{w0 w:World}{s:St}{a:Act}(h:Rel B g w s a) (hg:Good A L g0 w0 g w s.H) (hnp:s.np=L.length) (k:Keep) (hk:uA s.np k.ids=true):
  Rel B (rP g s.np k.ids) w (s.keep k) a∧Good A L g0 w0 (rP g s.np k.ids) w (s.keep k).H∧(s.keep k).np=L.length∧(s.keep k).N=s.N:=by
 unfold St.keep
 rw[hk]
 refine⟨⟨fun t=> ?_,⟨fun i b hb=> ?_,fun i j bi bj b o hij h1 h2 o1 o2=> ?_,h.heap.sl,h.heap.tab.1,fun i b bb oo hb ho=>by
   obtain⟨o,h1,rfl⟩:=CX hb
   obtain⟨c1,e1,o1'⟩:=(EK hk h1 fun c hc=>h.heap.blk o c hc).2 bb oo ho
   exact h.heap.tab.2 o c1 bb oo e1 o1'⟩,h.size,fun i hi=> ?_,h.def_,Nat.le_max_left _ _⟩,⟨hg.shut,hg.fr,fun i blk b o hb ho=> ?_,fun i p hi hp=> ?_,fun i hi=> ?_,fun i u y us hi hb=> ?_,fun i n u hi hu=>(by
   show (if i<s.np then g.cur i n else _)=_
   rw[if_pos (by omega)]
   exact hg.cur i n u hi hu)⟩,hnp,rfl⟩
 ·rcases a3P (m:=k.ids) (env:=s.env) k.slots t with e|e
  ·exact⟨by rw[show lk (IW s k true).env t=_ from e];trivial,by rw[show lk (IW s k true).env t=_ from e];trivial⟩
  ·have:=NQ hk (h.env t)
   rw[show lk (IW s k true).env t=_ from e]
   exact this
 ·obtain⟨o,h1,rfl⟩:=CX hb
  exact(EK hk h1 fun c hc=>h.heap.blk o c hc).1
 ·obtain⟨p,k1,rfl⟩:=CX h1
  obtain⟨q,k2,rfl⟩:=CX h2
  obtain⟨c1,e1,o1'⟩:=(EK hk k1 fun c hc=>h.heap.blk p c hc).2 b o o1
  obtain⟨c2,e2,o2'⟩:=(EK hk k2 fun c hc=>h.heap.blk q c hc).2 b o o2
  refine h.heap.dis p q c1 c2 b o (fun e=> ?_) e1 e2 o1' o2'
  subst e
  have inj: ∀{m:List (Nat×Nat)},uA s.np m=true→∀{i j o:Nat},(i,o)∈m→(j,o)∈m→i=j:=by
   intro m
   induction m with
   |nil=>intro _ _ _ _ h;cases h
   |cons z m ih=>
    obtain⟨z1,z2⟩:=z
    intro hk i j o h1 h2
    simp only[uA,Bool.and_eq_true,Bool.not_eq_true'] at hk
    rcases List.mem_cons.1 h1 with h1|h1<;>rcases List.mem_cons.1 h2 with h2|h2
    ·cases h1;cases h2;rfl
    ·cases h1;exact absurd rfl (NP hk.1.2 _ _ h2).2
    ·cases h2;exact absurd rfl (NP hk.1.2 _ _ h1).2
    ·exact ih hk.2 h1 h2
  exact hij (inj hk k1 k2)
 ·have hi': ¬i<s.np:=by have:=Nat.le_trans (Nat.le_max_left _ _) hi;omega
  have hold:vV k.ids i=none:=by
   cases ho:vV k.ids i with
   |none=>rfl
   |some o=>
    have:=a3Q (TK ho)
    have:=Nat.le_trans (Nat.le_max_right _ _) hi
    omega
  refine⟨?_,fun n=> ?_⟩
  ·show (if i<s.np then g.J i else(vV k.ids i).bind g.J)=none
   rw[if_neg hi',hold];rfl
  ·show (if i<s.np then g.cur i n else(vV k.ids i).bind fun o=>g.cur o n)=none
   rw[if_neg hi',hold];rfl
 ·obtain⟨p,h1,rfl⟩:=CX hb
  obtain⟨c,e1,e2⟩:=(EK hk h1 fun c hc=>h.heap.blk p c hc).2 b o ho
  exact hg.perm p c b o e1 e2
 ·show (if i<s.np then g.J i else _)=_
  rw[if_pos (by omega)]
  exact hg.J i p hi hp
 ·rcases hg.live i hi with⟨p,hp⟩ |⟨n,v,hv⟩
  ·left;refine⟨p,?_⟩
   show (if i<s.np then g.J i else _)=_
   rw[if_pos (by omega)];exact hp
  ·right;refine⟨n,v,?_⟩
   show (if i<s.np then g.cur i n else _)=_
   rw[if_pos (by omega)];exact hv
 ·obtain⟨o,h1,h2⟩:=CX hb
  have ho:=(TH hk h1).2 (by omega)
  subst ho
  unfold CQ at h2
  split at h2
  ·rename_i t x toks heq
   split at h2
   ·simp only[Blk.cells.injEq] at h2
    obtain⟨rfl,_⟩:=h2
    exact hg.ty o u x toks hi heq
   ·cases hy:vS k.ids t x with
    |none=>rw[hy] at h2;cases h2
    |some y=>
     rw[hy] at h2
     simp only[S5,Blk.cells.injEq] at h2
     obtain⟨rfl,_⟩:=h2
     exact hg.ty o u x toks hi heq
  ·cases h2
  ·split at h2<;>cases h2
  ·split at h2<;>cases h2
  ·cases h2
  ·cases h2
theorem BN {B:Nat}{A:Nat→Nat→Prop}{L:List Blk}{g0 g:Gh}{w0 w:World}{s:St}{a:Act}(h:Rel B g w s a) (hg:Good A L g0 w0 g w s.H) (hnp:s.np=L.length) (k:Keep):
  ∃g',Rel B g' w (s.keep k) a∧Good A L g0 w0 g' w (s.keep k).H∧(s.keep k).np=L.length∧(s.keep k).N=s.N:=by
 unfold St.keep
 cases hk:uA s.np k.ids with
 |false=>
  refine⟨g,⟨fun t=>⟨trivial,trivial⟩,⟨(fun i b h=>by cases h),(fun i j bi bj b o _ h=>by cases h),h.heap.sl,h.heap.tab.1,(fun i b bb oo h=>by cases h)⟩,h.size,h.nb,h.def_,h.np⟩,⟨hg.shut,hg.fr,(fun i blk b o h=>by cases h),hg.J,hg.live,(fun i u y us _ h=>by cases h),hg.cur⟩,hnp,rfl⟩
 |true=>
  have:=TL h hg hnp k hk
  unfold St.keep at this
  rw[hk] at this
  exact⟨_,this⟩
end Go.Proofs.YtfchbnahjcdiiaaGreatDoor.Vc
namespace Go.Proofs.YtfchbnahjcdiiaaGreatDoor.Vc
open Go.RowKit
set_option linter.unusedSectionVars false
theorem TM {g g':Gh}{w w':World}{env:List (Nat×Slot)}{a:Act}{o:Oper}{sl:Slot}{v:Value}(h:EnvOk g w env a.tmps) (le:Le g w g' w') (hs:RdS g' w' sl v) {N:Nat}(hN:a.tmps.size=N) (hd:dstOk N o.dst=true):EnvOk g' w' (rE o.dst sl env) (a.put o.dst v).tmps:=by
  intro t
  cases ho:o.dst with
  |none=>exact xT le (h t)
  | some d=>
    rw[ho] at hd
    simp only[dstOk,decide_eq_true_eq] at hd
    simp only[rE,lk,Act.put]
    by_cases hdt:d=t
    · subst hdt
      rw[if_pos rfl]
      have hlt:d<a.tmps.size:=by rw[hN];exact hd
      have:(a.tmps.setIfInBounds d v).getD d undef=v:=by
        rw[Array.getD_eq_getD_getElem?,Array.getElem?_setIfInBounds_self_of_lt hlt]
        rfl
      rw[this];exact hs
    · rw[if_neg hdt]
      have:(a.tmps.setIfInBounds d v).getD t undef=a.tmps.getD t undef:=by
        rw[Array.getD_eq_getD_getElem?,Array.getElem?_setIfInBounds_ne hdt,←Array.getD_eq_getD_getElem?]
      rw[this];exact xT le (h t)
theorem JH {n:Nat}: ∀{u:List (Nat×Blk)},idsLt n u=true→∀{i:Nat},i∈idsOf u→i<n
  | (k,b)::u,h,i,hi=>by
    simp only[idsLt,Bool.and_eq_true,decide_eq_true_eq] at h
    simp only[idsOf,List.mem_cons] at hi
    rcases hi with rfl|hi
    ·exact h.1
    ·exact JH h.2 hi
theorem a3R (a:Act) (d:Option Tmp) (v:Value):(a.put d v).tmps.size=a.tmps.size:=by
  cases d<;>simp [Act.put]
theorem a3S (a:Act) (d:Option Tmp) (v:Value):(a.put d v).defers=a.defers:=by
  cases d<;>simp [Act.put]
theorem Rel.step {B:Nat}{g g':Gh}{w w':World}{s:St}{a:Act}{o:Oper}{e:Eff}{v:Value}(h:Rel B g w s a) (k:EffOk g w s.H e g' w' v) (hd:dstOk s.N o.dst=true) (hi:idsLt (s.nb+32) e.upd=true):
    Rel B g' w' ⟨rE o.dst e.slot s.env,app e.upd s.H,s.nb+32,s.N,s.np⟩ (a.put o.dst v):=by
  refine⟨TM h.env k.le k.slot h.size hd,k.heap,(a3R _ _ _).trans h.size,fun i hn=> ?_,by rw[a3S];exact h.def_.eff h.heap k,Nat.le_trans h.np (Nat.le_add_right _ _)⟩
  have:i∉idsOf e.upd:=fun hm=>by have:=JH hi hm;simp only at hn;omega
  have hk:=k.gho i this
  have hb:=h.nb i (by simp only at hn;omega)
  exact⟨hk.1.trans hb.1,fun n=>by rw[hk.2];exact hb.2 n⟩
theorem a3T {T:Types}{Γ:Ctx}{ops:List Oper}: ∀(l:List Oper),sW T Γ ops l none=none
  |[]=>rfl
  |_::_=>rfl
theorem TN {T:Types}{Γ:Ctx}{ops:List Oper}{o:Oper}{l:List Oper}{x y:Acc}(h:sW T Γ ops (o::l) (some x)=some y):
    ∃ e,evOp T Γ ops o x.s=some e∧dstOk x.s.N o.dst=true∧idsLt (x.s.nb+32) e.upd=true∧
      sW T Γ ops l (some ⟨⟨rE o.dst e.slot x.s.env,app e.upd x.s.H,x.s.nb+32,x.s.N,x.s.np⟩,app x.side (app (EC x.s.H e.upd e.rds e.upd) e.side),e::x.es⟩)=some y:=by
  simp only[sW] at h
  cases he:evOp T Γ ops o x.s with
  |none=>rw[he] at h;simp only[S4] at h;rw[a3T] at h;cases h
  | some e=>
    rw[he] at h
    simp only[S4] at h
    by_cases hc:(dstOk x.s.N o.dst&&idsLt (x.s.nb+32) e.upd)=true
    · rw[if_pos hc] at h
      simp only[Bool.and_eq_true] at hc
      exact⟨e,rfl,hc.1,hc.2,h⟩
    ·rw[if_neg hc,a3T] at h;cases h
theorem EL {T:Types}{Γ:Ctx}{ops:List Oper}: ∀{l:List Oper}{x y:Acc},sW T Γ ops l (some x)=some y→(∀p∈x.side,p∈y.side)∧y.s.N=x.s.N∧y.s.np=x.s.np
  | [],x,y,h=>by
    simp only[sW,Option.some.injEq] at h
    subst h
    exact⟨fun _ h=>h,rfl,rfl⟩
  | o::l,x,y,h=>by
    obtain⟨e,_,_,_,h4⟩:=TN h
    obtain⟨h5,h6,h7⟩:=EL h4
    exact⟨fun p hp=>h5 p (tK.2 (.inl hp)),h6,h7⟩
def AG (ro:Option Nat):Fence:={Fence.wide with round:=ro}
theorem a3U {ro:Option Nat}{n:Nat}{P:Program}{f:FuncId}{args:Array Value}{w:World}{R:Ending→World→Prop}(h:Calls P f args w R):CallsIn (AG ro) n P f args w R:=callsIn_wide.2 h
section
variable {B:Nat}{P:Program}{T:Types}{Γ:Ctx}(hT:TypesOk P T) (hΓ:CtxOk P Γ) {A:Nat→Nat→Prop}{L:List Blk}{g0:Gh}{w0:World}{Q:Exit→Act→World→Prop}
include hT hΓ
theorem aAW {g:Gh}{w:World}{s:St}{a:Act}(h:Rel B g w s a) (e:Eff):w9 g s.nb e:=fun i _ hb=>h.nb i hb
omit hT hΓ in
theorem a3V {ops:List Oper}{o:Oper}{s:St}{e:Eff}(h:evOp T Γ ops o s=some e): ∀c,o.op≠.defer c:=by
  intro c hc
  unfold evOp at h
  cases hg:o.guard with
  |none=>rw[hg,hc] at h;simp [G3,rM,G1] at h
  |some jb=>rw[hg,hc] at h;simp only at h;cases hG:BH s.env jb.2 (zM ops jb.1)<;>rw[hG] at h<;>simp [G2,rM,CP] at h
omit hT hΓ in
theorem a3W {ro:Option Nat}{o:Oper}{a:Act}{w:World}{K:Act→World→Prop}(hd: ∀c,o.op≠.defer c) (h:o.wp P a w K Q):o.wpIn (AG ro) 0 P a w K Q:=by
  refine⟨fun _ _=>trivial,?_⟩
  rw[Oper.semAt_eq _ _ _ hd]
  unfold Oper.wp at h
  generalize (execOp a.eval o).run P w=r at h⊢
  unfold Oper.upon at h
  unfold Oper.uponIn
  split at h
  ·exact h
  ·exact h
  ·exact h
  ·exact⟨fun h0=>(by cases h0),a3U h⟩
  ·exact⟨fun h0=>(by cases h0),fun c cs _=>let ⟨v,w',r,s⟩:=h c cs;⟨v,w',r,stepsIn_wide.2 s⟩⟩
  ·exact h
  ·exact h.elim
theorem a3X {ro:Option Nat}{ops:Array Oper}: ∀{l:List Oper}{x y:Acc}{a:Act}{w:World}{g:Gh},sW T Γ ops.toList l (some x)=some y→(∀p∈y.side,p)→Rel B g w x.s a→Good A L g0 w0 g w x.s.H→
    (∀g' a' w',Rel B g' w' y.s a'→Good A L g0 w0 g' w' y.s.H→Q .normal a' w')→wpListIn (AG ro) 0 P ops Q l a w
  | [],x,y,a,w,g,h,hs,hr,hg,hQ=>by
    simp only[sW,Option.some.injEq] at h
    subst h
    exact hQ g a w hr hg
  | o::l,x,y,a,w,g,h,hs,hr,hg,hQ=>by
    obtain⟨e,h1,h2,h3,h4⟩:=TN h
    have hside: ∀p∈e.side,p:=fun p hp=>hs p ((EL h4).1 p (tK.2 (.inr (tK.2 (.inr hp)))))
    have key:=a3N hT hΓ (ops:=ops.toList) (o:=o) (a:=a) (K:=wpListIn (AG ro) 0 P ops Q l) (Q:=Q) hr.env hr.heap h1 hside (aAW hT hΓ hr e) (fun g' w' v k=>a3X h4 hs (hr.step k h2 h3) (hg.eff k) hQ)
    simp only[Array.toArray_toList] at key
    unfold wpListIn
    split at key
    ·rename_i hw;rw[if_pos hw];exact a3W (a3V h1) key
    ·rename_i hw;rw[if_neg hw];exact⟨fun _ _=>trivial,key⟩
theorem aAX {ro:Option Nat}{id:Nat}{ops:Array Oper}{s:St}{y:Acc}{a:Act}{w:World}{g:Gh}(h:sW T Γ ops.toList ops.toList (some ⟨s,[],[]⟩)=some y) (hs: ∀p∈y.side,p) (hr:Rel B g w s a) (hg:Good A L g0 w0 g w s.H)
    (hQ: ∀g' a' w',Rel B g' w' y.s a'→Good A L g0 w0 g' w' y.s.H→Q .normal a' w'):(Code.region id ops false).wpIn (AG ro) 0 P Q a w:=
  wpIn_region_list (a3X hT hΓ h hs hr hg hQ)
end
theorem TO {ρ ρ':Operand→Slot}: ∀{xs:List Operand},(∀x∈xs,ρ' x=ρ x)→sH ρ' xs=sH ρ xs
  |[],_=>rfl
  |x::xs,h=>by simp only[sH,h x (by simp),TO (fun y hy=>h y (List.mem_cons_of_mem _ hy))]
theorem TP {ρ ρ':Operand→Slot}: ∀{xs:List (Nat×Operand)},(∀x∈xs,ρ' x.2=ρ x.2)→rO ρ' xs=rO ρ xs
  |[],_=>rfl
  |(i,x)::xs,h=>by simp only[rO,h (i,x) (by simp),TP (fun y hy=>h y (List.mem_cons_of_mem _ hy))]
theorem a3Y {T:Types}{ρ ρ':Operand→Slot}: ∀{xs:List Operand}{ts:List TypeId},(∀x∈xs,ρ' x=ρ x)→BF T ρ' xs ts=BF T ρ xs ts
  |[],_,_=>by simp [BF]
  |_::_,[],_=>by simp [BF]
  |x::xs,t::ts,h=>by simp only[BF,h x (by simp),a3Y (fun y hy=>h y (List.mem_cons_of_mem _ hy))]
theorem aAY {T:Types}{Γ:Ctx}{ty:TypeId}{ρ ρ':Operand→Slot}{base:Nat}{H:List (Nat×Blk)}(op:Op) (h: ∀x∈op.operands,ρ' x=ρ x):rM T Γ ty ρ' base H op=rM T Γ ty ρ base H op:=by
  cases op
  case slice t x lo hi mx=>
    cases mx with
    |some m=>rfl
    | none=>
      have h1:=h x (by simp [Op.operands])
      have h2:vR ρ' lo=vR ρ lo:=by
        cases lo with
        |none=>rfl
        |some l=>simp only[vR,h l (by simp [Op.operands])]
      have h3:vR ρ' hi=vR ρ hi:=by
        cases hi with
        |none=>rfl
        |some l=>simp only[vR,h l (by simp [Op.operands])]
      simp only[rM,h1,h2,h3]
  case call c=>
    obtain⟨callee,args,tys⟩:=c
    have ha: ∀x∈args.toList,ρ' x=ρ x:=fun x hx=>h x (by
      have:x∈args:=by simpa using hx
      simp only[Op.operands,Call.operands]
      split<;>simp [this])
    cases callee with
    |builtin b=>cases b<;>simp only[rM,EB,TO ha]
    | value f=>
      have hf:=h f (by simp [Op.operands,Call.operands])
      simp only[rM,EB,hf]
      cases EA args.toList tys.toList with
      |false=>rfl
      |true=>simp only[RY,a3Y ha]
    |_=>rfl
  case build t ps=>simp only[rM,TP (fun x hx=>h x.2 (by simp only[Op.operands,List.mem_toArray];exact List.mem_map_of_mem hx))]
  case buildSlice t n ps=>simp only[rM,TP (fun x hx=>h x.2 (by simp only[Op.operands,List.mem_toArray];exact List.mem_map_of_mem hx))]
  case makeFunc f first caps=>
    cases f with
    | func f=>
      have hc: ∀x∈caps.toList,ρ' x=ρ x:=fun x hx=>h x (by
        have:x∈caps:=by simpa using hx
        simp [Op.operands,this])
      simp only[rM,TO hc]
    |_=>rfl
  all_goals first
    |rfl
    |(simp only[Op.operands,List.mem_toArray,List.mem_cons,List.not_mem_nil,or_false,forall_eq,forall_eq_or_imp] at h;simp only[rM,h])
    |(simp [Op.operands] at h;simp only[rM,h])
theorem TQ: ∀{l acc:List Whence}{i:Nat},i∈wsIds (vP l acc)↔i∈wsIds l∨i∈wsIds acc
  |[],_,_=>by simp [vP,wsIds]
  | w::l,acc,i=>by
    simp only[vP,TQ,wsIds,List.mem_cons]
    constructor
    · rintro(h|h|h)
      ·exact .inl (.inr h)
      ·exact .inl (.inl h)
      ·exact .inr h
    · rintro((h|h) |h)
      ·exact .inr (.inl h)
      ·exact .inl h
      ·exact .inr (.inr h)
section
variable {H H':List (Nat×Blk)}
theorem aAZ {k:Option Nat}{a b:Pass}(h:vQ H k (some a)=some b):(∀i,i∈wsIds a.ws→i∈wsIds b.ws)∧((∀i,i∈wsIds b.ws→getH H' i=getH H i)→vQ H' k (some a)=some b):=by
  cases k with
  | none=>
    have h:none=some b:=h
    cases h
  | some k=>
    simp only[vQ] at h⊢
    have:(∃e c m,getH H k=some (.grow e c m)):=by
      cases hg:getH H k with
      |none=>rw[hg] at h;cases h
      | some bl=>cases bl with
        |grow e c m=>exact⟨_,_,_,rfl⟩
        |_=>rw[hg] at h;cases h
    obtain⟨e,c,m,hg⟩:=this
    rw[hg] at h
    simp only[yA] at h
    split at h
    ·cases h
    · rename_i hm
      simp only[Option.some.injEq] at h
      subst h
      refine⟨fun i hi=>by simp only[wsIds,List.mem_cons];exact .inr hi,fun hl=> ?_⟩
      rw[hl k (by simp [wsIds,Whence.id]),hg]
      simp only[yA]
      rw[if_neg hm]
theorem aA0 (H:List (Nat×Blk)) (k:Option Nat):vQ H k none=none:=by
  cases k with
  |none=>rfl
  | some k=>
    simp only[vQ]
    cases getH H k with
    |none=>rfl
    |some bl=>cases bl<;>rfl
theorem a3Z (H:List (Nat×Blk)) (toks:List (Nat×Nat)) (o:Nat): ∀(qs:List Nat),uW H toks o qs none=none
  |[]=>rfl
  |q::qs=>by simp only[uW,aA0,a3Z H toks o qs]
theorem a30 {H H':List (Nat×Blk)}{toks:List (Nat×Nat)}{o:Nat}: ∀{qs:List Nat}{a b:Pass},uW H toks o qs (some a)=some b→(∀i,i∈wsIds a.ws→i∈wsIds b.ws)∧((∀i,i∈wsIds b.ws→getH H' i=getH H i)→uW H' toks o qs (some a)=some b)
  |[],a,b,h=>by simp only[uW,Option.some.injEq] at h;subst h;exact⟨fun _ h=>h,fun _=>rfl⟩
  | q::qs,a,b,h=>by
    simp only[uW] at h⊢
    cases hm:vQ H (tQ toks (o+q)) (some a) with
    |none=>rw[hm,a3Z] at h;cases h
    | some m=>
      rw[hm] at h
      obtain⟨h1,h2⟩:=aAZ (H':=H') hm
      obtain⟨h3,h4⟩:=a30 (H':=H') h
      exact⟨fun i hi=>h3 i (h1 i hi),fun hl=>by rw[h2 (fun i hi=>hl i (h3 i hi))];exact h4 hl⟩
theorem aA1 (H H':List (Nat×Blk)) (a:Pass) (s:Slot):uH H' a .v s=uH H a .v s:=by
  obtain⟨d,k⟩:=s
  cases d with
  | val t x=>
    cases t with
    | clo=>
      cases x with
      |none=>rfl
      |some q=>obtain⟨f,l⟩:=q;cases l<;>rfl
    |_=>rfl
  |_=>rfl
theorem a32 {H H':List (Nat×Blk)}{t:Ty}{os:List Nat}{i o:Nat}{a b:Pass}(h:sM H t os i o a (getH H i)=some b):(∀i,i∈wsIds a.ws→i∈wsIds b.ws)∧((∀i,i∈wsIds b.ws→getH H' i=getH H i)→sM H' t os i o a (getH H' i)=some b):=by
  cases hg:getH H i with
  |none=>rw[hg] at h;simp [sM] at h
  | some bl=>
    rw[hg] at h
    cases bl with
    | cells u x toks=>
      simp only[sM] at h
      cases hy:pA t u x o with
      |none=>rw[hy] at h;simp [A7] at h
      | some y=>
        rw[hy] at h
        simp only[A7] at h
        split at h
        · rename_i hc
          obtain⟨h3,h4⟩:=a30 (H':=H') h
          refine⟨fun j hj=>h3 j (by simp only[wsIds,List.mem_cons];exact .inr hj),fun hl=> ?_⟩
          rw[hl i (h3 i (by simp [wsIds,Whence.id])),hg]
          simp only[sM,hy,A7]
          rw[if_pos hc]
          exact h4 hl
        ·cases h
    |_=>simp [sM] at h
theorem aA2 (H:List (Nat×Blk)) (f:FuncId) (args:List Slot) (ks:List (Ty×List Nat)) (cs ids:List (Nat×Nat)):tZ H f args ks cs ids none=none:=by cases ks<;>cases cs<;>rfl
theorem a33 {H H':List (Nat×Blk)}{f:FuncId}{args:List Slot}: ∀{ks:List (Ty×List Nat)}{cs ids:List (Nat×Nat)}{a b:Pass},tZ H f args ks cs ids (some a)=some b→(∀i,i∈wsIds a.ws→i∈wsIds b.ws)∧((∀i,i∈wsIds b.ws→getH H' i=getH H i)→tZ H' f args ks cs ids (some a)=some b)
  | [],[],ids,a,b,h=>by
    simp only[tZ,Option.some.injEq] at h⊢
    subst h
    exact⟨fun _ h=>h,fun _=>rfl⟩
  |[],_::_,_,_,_,h=>by simp [tZ] at h
  |_::_,[],_,_,_,h=>by simp [tZ] at h
  | (t,os)::ks,(i,o)::cs,ids,a,b,h=>by
    simp only[tZ] at h⊢
    cases hb:sM H t os i o a (getH H i) with
    |none=>rw[hb,aA2] at h;cases h
    | some m=>
      rw[hb] at h
      obtain⟨h1,h2⟩:=a32 (H':=H') hb
      obtain⟨h3,h4⟩:=a33 (H':=H') h
      exact⟨fun i hi=>h3 i (h1 i hi),fun hl=>by rw[h2 (fun i hi=>hl i (h3 i hi))];exact h4 hl⟩
theorem a34 {p:PK}{s:Slot}{a b:Pass}(h:uH H a p s=some b):(∀i,i∈wsIds a.ws→i∈wsIds b.ws)∧((∀i,i∈wsIds b.ws→getH H' i=getH H i)→uH H' a p s=some b):=by
  by_cases hpv:p= .v
  · subst hpv
    refine⟨?_,fun _=>by rw[aA1 H H'];exact h⟩
    unfold uH at h
    split at h
    ·simp only[LS,Option.some.injEq] at h;subst h;exact fun _ h=>h
    · simp only[LR] at h
      split at h
      ·simp only[Option.some.injEq] at h;subst h;exact fun _ h=>h
      ·cases h
    ·rename_i h1;cases h1
    ·rename_i h1;cases h1
    ·rename_i h1;cases h1
    ·rename_i h1;cases h1
    ·rename_i h1;cases h1
    ·cases h
  unfold uH at h
  split at h
  ·exact absurd rfl hpv
  ·exact absurd rfl hpv
  · rename_i t x k
    simp only[uH]
    cases hg:getH H k with
    |none=>rw[hg] at h;simp [yB] at h
    | some bl=>
      rw[hg] at h
      cases bl with
      | grow e c m=>
        simp only[yB] at h
        split at h
        · rename_i hc
          simp only[Option.some.injEq] at h
          subst h
          refine⟨fun i hi=>by simp only[wsIds,List.mem_cons];exact .inr hi,fun hl=> ?_⟩
          rw[hl k (by simp [wsIds,Whence.id]),hg]
          simp only[yB]
          rw[if_pos hc]
        ·cases h
      |_=>simp [yB] at h
  · rename_i t os i o k
    simp only[uH]
    exact a32 h
  · rename_i i k
    simp only[uH]
    cases hg:getH H i with
    |none=>rw[hg] at h;simp [yC] at h
    | some bl=>
      rw[hg] at h
      cases bl with
      | map s t l=>
        simp only[yC] at h
        split at h
        · rename_i hc
          simp only[Option.some.injEq] at h
          subst h
          refine⟨fun j hj=>by simp only[wsIds,List.mem_cons];exact .inr hj,fun hl=> ?_⟩
          rw[hl i (by simp [wsIds,Whence.id]),hg]
          simp only[yC]
          rw[if_pos hc]
        ·cases h
      |_=>simp [yC] at h
  · rename_i k n k'
    simp only[uH]
    cases hg:getH H k with
    |none=>rw[hg] at h;simp [yD] at h
    | some bl=>
      rw[hg] at h
      cases bl with
      | row e t l m=>
        simp only[yD] at h
        split at h
        · rename_i hc
          simp only[Option.some.injEq] at h
          subst h
          refine⟨fun j hj=>by simp only[wsIds,List.mem_cons];exact .inr hj,fun hl=> ?_⟩
          rw[hl k (by simp [wsIds,Whence.id]),hg]
          simp only[yD]
          rw[if_pos hc]
        ·cases h
      |_=>simp [yD] at h
  · simp only[uH]
    exact a33 h
  ·cases h
theorem a35 (H:List (Nat×Blk)) (gs:List (Nat×Nat×PK)):xP H gs none=none:=by cases gs<;>rfl
theorem a36 {H H':List (Nat×Blk)}: ∀{gs:List (Nat×Nat×PK)}{a b:Pass},xP H gs (some a)=some b→(∀i,i∈wsIds a.ws→i∈wsIds b.ws)∧((∀i,i∈wsIds b.ws→getH H' i=getH H i)→xP H' gs (some a)=some b)
  |[],a,b,h=>by simp only[xP,Option.some.injEq] at h;subst h;exact⟨fun _ h=>h,fun _=>rfl⟩
  | (c,q,pk)::gs,a,b,h=>by
    simp only[xP] at h⊢
    cases hm:uH H a pk (DX q pk (CL a.H (a.n-1-c))) with
    |none=>rw[hm] at h;simp only[FQ,a35] at h;cases h
    | some m=>
      rw[hm] at h
      simp only[FQ] at h
      obtain⟨h1,h2⟩:=a34 (H':=H') hm
      obtain⟨h3,h4⟩:=a36 (H':=H') h
      exact⟨fun i hi=>h3 i (h1 i hi),fun hl=>by rw[h2 (fun i hi=>hl i (h3 i hi))];simp only[FQ];exact h4 hl⟩
theorem aA3 (H:List (Nat×Blk)): ∀(ps:List PK) (ss:List Slot),u1 H ps ss none=none
  |[],[]=>rfl
  |[],_::_=>rfl
  |_::_,[]=>rfl
  |_::_,_::_=>rfl
theorem a38 {H H':List (Nat×Blk)}: ∀{ps:List PK}{ss:List Slot}{a b:Pass},u1 H ps ss (some a)=some b→(∀i,i∈wsIds a.ws→i∈wsIds b.ws)∧((∀i,i∈wsIds b.ws→getH H' i=getH H i)→u1 H' ps ss (some a)=some b)
  |[],[],a,b,h=>by simp only[u1,Option.some.injEq] at h;subst h;exact⟨fun _ h=>h,fun _=>rfl⟩
  |[],_::_,a,b,h=>by simp [u1] at h
  |_::_,[],a,b,h=>by simp [u1] at h
  | p::ps,s::ss,a,b,h=>by
    simp only[u1] at h⊢
    cases hm:uH H a p s with
    |none=>rw[hm,aA3] at h;cases h
    | some m=>
      rw[hm] at h
      obtain⟨h1,h2⟩:=a34 (H':=H') hm
      obtain⟨h3,h4⟩:=a38 (H':=H') h
      exact⟨fun i hi=>h3 i (h1 i hi),fun hl=>by rw[h2 (fun i hi=>hl i (h3 i hi))];exact h4 hl⟩
theorem a39 {H H':List (Nat×Blk)}{base:Nat}{args:List Slot}{s:Sig}{e:Eff}(h:BD H base args (some s)=some e) (hl: ∀i∈e.rds,getH H' i=getH H i):BD H' base args (some s)=some e:=by
  simp only[BD] at h⊢
  cases hp0:u1 H s.ps args (some ⟨[],[],[],0⟩) with
  |none=>rw[hp0,a35] at h;cases h
  |some a0=>
   rw[hp0] at h
   cases hp:xP H s.gs (some a0) with
   |none=>rw[hp] at h;cases h
   |some a=>
    rw[hp] at h
    have hrd: ∀i,i∈wsIds (vP a.ws [])→i∈e.rds:=by
      simp only[IJ] at h
      cases hcl:CM (vP a.ws []) (vP a.H []) with
      |none=>rw[hcl] at h;cases h
      |some L=>
      rw[hcl] at h
      simp only[LY] at h
      cases hc:s.C (vP a.args []) L with
      |none=>rw[hc] at h;cases h
      | some r=>
        rw[hc] at h
        simp only[LX] at h
        unfold IH at h
        split at h
        · simp only[Option.some.injEq] at h
          rw[←h]
          exact fun i hi=>tK.2 (.inl hi)
        ·cases h
    obtain⟨g1,g2⟩:=a36 (H':=H') hp
    rw[(a38 (H':=H') hp0).2 (fun i hi=>hl i (hrd i (TQ.2 (.inl (g1 i hi))))),g2 (fun i hi=>hl i (hrd i (TQ.2 (.inl hi))))]
    exact h
theorem a4a {H H':List (Nat×Blk)}{base:Nat}{args:List Slot}{s:Option Sig}{e:Eff}(h:E9 H base args s=some e) (hl: ∀i∈e.rds,getH H' i=getH H i):E9 H' base args s=some e:=by
  cases s with
  |none=>cases h
  | some s=>
    simp only[E9] at h⊢
    cases hr:s.row with
    | some F=>
      rw[hr] at h
      simp only[MJ] at h⊢
      unfold LZ at h⊢
      split at h
      · rename_i k n x
        cases hg:getH H k with
        |none=>rw[hg] at h;cases h
        | some b=>
          have hk:k∈e.rds:=by
            rw[hg] at h
            cases b with
            | row e0 t l m=>
              simp only[RA] at h
              unfold a1S at h
              split at h
              ·simp only[Option.some.injEq] at h;rw[←h];simp
              ·cases h
            |_=>cases h
          rw[hl k hk]
          exact h
      ·cases h
    | none=>
      rw[hr] at h
      simp only[MJ] at h⊢
      cases hn:IK s.ps args with
      |none=>rw[hn] at h;exact a39 h hl
      | some k=>
        rw[hn] at h
        simp only[a1R] at h⊢
        cases hg:getH H k with
        |none=>rw[hg] at h;cases h
        | some b=>
          rw[hg] at h
          cases b with
          | row e0 t l m=>
            simp only[IM] at h
            cases hi:BD ((k,.dead)::H) base (IL k t l args) (some s) with
            |none=>rw[hi] at h;cases h
            | some e1=>
              rw[hi] at h
              have hk:k∈e.rds∧∀i∈e1.rds,i∈e.rds:=by
                unfold R9 at h
                split at h
                · rename_i heq
                  simp only[Option.some.injEq] at heq
                  subst heq
                  split at h
                  · simp only[Option.some.injEq] at h
                    rw[←h]
                    exact⟨by simp,fun i hi=>List.mem_cons_of_mem _ hi⟩
                  ·cases h
                ·cases h
              rw[hl k hk.1,hg]
              simp only[IM]
              rw[a39 hi (fun i hi'=>by
                simp only[getH]
                split
                ·rfl
                ·exact hl i (hk.2 i hi'))]
              exact h
          |_=>cases h
theorem aA4 {Γ:Ctx}{base:Nat}{args:List Slot}{f:Slot}{e:Eff}(h:FY Γ H base args f=some e) (hl: ∀i∈e.rds,getH H' i=getH H i):FY Γ H' base args f=some e:=by
  unfold FY at h⊢
  split at h
  ·exact a4a h hl
  ·exact a4a h hl
  ·cases h
theorem aA5 {T:Types}{Γ:Ctx}{ty:TypeId}{ρ:Operand→Slot}{base:Nat}{op:Op}{e:Eff}(h:rM T Γ ty ρ base H op=some e) (hl: ∀i∈e.rds,getH H' i=getH H i):rM T Γ ty ρ base H' op=some e:=by
  cases op
  case load t x=>
    simp only[rM] at h⊢
    unfold M4 at h⊢
    split at h
    · rename_i ti k n c i o' _ e1 e2
      unfold IQ at h
      split at h
      · rename_i e' t' l m hg
        split at h
        · rename_i hc
          have:e.rds=[k]:=by
            unfold a1Y at h;split at h
            ·simp only[Option.some.injEq] at h;rw[←h]
            ·cases h
          rw[hl k (by rw[this];simp),hg]
          simp only[IQ]
          rw[if_pos hc]
          exact h
        ·cases h
      ·cases h
    ·exact h
    · rename_i ti i off k e1 e2
      have hi:i∈e.rds:=by
        rcases a2J h with h|h
        · unfold IP at h
          split at h
          · unfold a1X at h;split at h
            ·simp only[Option.some.injEq] at h;rw[←h];simp
            ·cases h
          ·cases h
        · unfold M3 at h
          split at h
          · unfold RK at h;split at h
            ·simp only[Option.some.injEq] at h;rw[←h];simp
            ·cases h
          ·cases h
      rw[hl i hi]
      exact h
    ·cases h
  case store t x y=>
    simp only[rM] at h⊢
    unfold MA at h⊢
    split at h
    · rename_i ti i off k kk n k' e1 e2 e3
      have hi:i∈e.rds:=by
        unfold RL at h
        split at h
        · unfold M5 at h;split at h
          ·simp only[Option.some.injEq] at h;rw[←h];simp
          ·cases h
        ·cases h
      rw[hl i hi]
      exact h
    · rename_i ti k n c i o' _ t y k' e1 e2 e3
      split at h
      · rename_i ht
        rw[if_pos ht]
        unfold M9 at h
        split at h
        · rename_i e' t' l m hg
          split at h
          · rename_i hc
            have:e.rds=[k]:=by
              unfold a2a at h;split at h
              ·simp only[Option.some.injEq] at h;rw[←h]
              ·cases h
            rw[hl k (by rw[this];simp),hg]
            simp only[M9]
            rw[if_pos hc]
            exact h
          ·cases h
        ·cases h
      ·cases h
    · rename_i ti i off k t y k' e1 e2 e3
      split at h
      · rename_i ht
        have hi:e.rds=[i]:=by
          unfold M8 at h
          split at h
          · unfold M7 at h
            split at h
            · unfold a1Z at h;split at h
              ·simp only[Option.some.injEq] at h;rw[←h]
              ·cases h
            ·cases h
          · unfold M6 at h
            split at h
            · unfold M5 at h;split at h
              ·simp only[Option.some.injEq] at h;rw[←h]
              ·cases h
            ·cases h
        rw[hl i (by rw[hi];simp)]
        simp only[if_pos ht]
        exact h
      ·cases h
    ·cases h
  case call c=>
    obtain⟨callee,args,tys⟩:=c
    cases callee with
    | builtin b=>
      cases b
      case append=>
        simp only[rM,EB] at h⊢
        unfold MM at h⊢
        split at h
        · split at h
          · rename_i hu
            rw[if_pos hu]
            unfold MH at h⊢
            split at h
            · split at h
              · rename_i hbu
                rw[if_pos hbu]
                unfold MG at h
                split at h
                · rename_i hg
                  split at h
                  · rename_i hbt
                    split at h
                    · rename_i hc
                      simp only[Option.some.injEq] at h
                      subst h
                      rw[hl _ (List.mem_cons_self),hg]
                      simp only[MG]
                      rw[dif_pos hbt,if_pos hc]
                    ·cases h
                  ·cases h
                ·cases h
              ·cases h
            · split at h
              · rename_i hba
                rw[dif_pos hba]
                unfold MF at h
                split at h
                · rename_i hg
                  split at h
                  · rename_i hc
                    simp only[Option.some.injEq] at h
                    subst h
                    rw[hl _ (List.mem_cons_self),hg]
                    simp only[MF]
                    rw[if_pos hc]
                  ·cases h
                ·cases h
              ·cases h
            ·cases h
          · rename_i hu
            rw[if_neg hu]
            unfold RX at h⊢
            split at h
            · unfold ML at h
              split at h
              · rename_i hg
                split at h
                · rename_i hc
                  simp only[Option.some.injEq] at h
                  subst h
                  rw[hl _ (List.mem_cons_self),hg]
                  simp only[ML]
                  rw[if_pos hc]
                ·cases h
              ·cases h
            ·cases h
        ·cases h
      case len=>
        simp only[rM,EB] at h⊢
        unfold MK at h⊢
        split at h
        · unfold RV at h⊢
          split at h
          · unfold ME at h
            split at h
            · rename_i hg
              simp only[Option.some.injEq] at h
              subst h
              rw[hl _ (List.mem_cons_self),hg]
              simp only[ME]
            ·cases h
          all_goals exact h
        ·cases h
      all_goals exact h
    | value f=>
      simp only[rM,EB] at h⊢
      cases hsl:EA args.toList tys.toList with
      |false=>rw[hsl] at h;cases h
      |true=>rw[hsl] at h;exact aA4 h hl
    |_=>exact h
  case makeFunc f first caps=>
    cases f with
    |func f=>exact h
    |_=>exact h
  case slice t x lo hi mx=>
    cases mx with
    |none=>exact h
    |some m=>exact h
  case next x b=>
    simp only[rM] at h⊢
    unfold MR at h⊢
    split at h
    · rename_i i k e1
      unfold S3 at h
      split at h
      · rename_i hg
        have:e.rds=[i]:=by
          simp only[Option.some.injEq] at h;rw[←h]
        rw[hl i (by rw[this];simp),hg]
        exact h
      ·cases h
    ·cases h
  case lookup xt x ix ok=>
    simp only[rM] at h⊢
    unfold MO at h⊢
    split at h
    · rename_i el fl ar ls_ i kk e1 e2
      unfold S0 at h⊢
      split at h
      · rename_i kt vt k a _
        split at h
        · rename_i hk
          rw[if_pos hk]
          unfold MN at h
          split at h
          · rename_i hg
            split at h
            · rename_i hkv
              split at h
              · rename_i hkey
                have:e.rds=[i]:=by
                  cases ok<;>(simp only[Option.some.injEq] at h;rw[←h])
                rw[hl i (by rw[this];simp),hg]
                simp only[MN]
                rw[dif_pos hkv,if_pos hkey]
                exact h
              ·cases h
            ·cases h
          ·cases h
        ·cases h
      ·cases h
    ·cases h
  case mapUpdate mt m x y=>
    simp only[rM] at h⊢
    unfold G0 at h⊢
    split at h
    · rename_i el fl ar ls_ i kk e1 e2
      unfold MP at h⊢
      split at h
      · rename_i kt k a _ u b _
        split at h
        · rename_i hk
          rw[if_pos hk]
          unfold FZ at h
          split at h
          · rename_i hg
            split at h
            · rename_i hkv
              split at h
              · rename_i hkey
                have:e.rds=[i]:=by
                  simp only[Option.some.injEq] at h;rw[←h]
                rw[hl i (by rw[this];simp),hg]
                simp only[FZ]
                rw[dif_pos hkv,if_pos hkey]
                exact h
              ·cases h
            ·cases h
          ·cases h
        ·cases h
      ·cases h
    ·cases h
  case insert mt m x y=>
    simp only[rM] at h⊢
    unfold G0 at h⊢
    split at h
    · rename_i el fl ar ls_ i kk e1 e2
      unfold MP at h⊢
      split at h
      · rename_i kt k a _ u b _
        split at h
        · rename_i hk
          rw[if_pos hk]
          unfold FZ at h
          split at h
          · rename_i hg
            split at h
            · rename_i hkv
              split at h
              · rename_i hkey
                have:e.rds=[i]:=by
                  simp only[Option.some.injEq] at h;rw[←h]
                rw[hl i (by rw[this];simp),hg]
                simp only[FZ]
                rw[dif_pos hkv,if_pos hkey]
                exact h
              ·cases h
            ·cases h
          ·cases h
        ·cases h
      ·cases h
    ·cases h
  all_goals exact h
end
end Go.Proofs.YtfchbnahjcdiiaaGreatDoor.Vc
namespace Go.Proofs.YtfchbnahjcdiiaaGreatDoor.Vc
open Go.RowKit
set_option linter.unusedSectionVars false
theorem aA6 {T:Types}{Γ:Ctx}{ops:Array Oper}{o:Oper}{s s':St}{e:Eff}(h:evOp T Γ ops.toList o s=some e) (ht: ∀t∈o.looksAt ops,lk s'.env t=lk s.env t) (hH: ∀i∈e.rds,getH s'.H i=getH s.H i) (hn:s'.nb=s.nb):evOp T Γ ops.toList o s'=some e:=by
 have hop: ∀x∈o.op.operands,rC s'.env x=rC s.env x:=fun x hx=>by
  cases x with
  |tmp t=>exact ht t (by simp only[Oper.looksAt,List.mem_append,List.mem_filterMap];exact .inl ⟨.tmp t,by simpa using hx,rfl⟩)
  |_=>rfl
 have hops:yG s'.env (pQ o.op)=yG s.env (pQ o.op):=by
  have hsub: ∀x∈pQ o.op,x∈o.op.operands:=by
   have hp: ∀(l:List (Nat×Operand)) x,x∈pQ.parts l→x∈l.map (·.2):=by
    intro l
    induction l with
    |nil=>intro x h;exact h
    |cons q l ih=>
     intro x h
     obtain⟨i,y⟩:=q
     simp only[pQ.parts,List.mem_cons] at h
     rcases h with rfl|h
     ·simp
     ·simp only[List.map_cons,List.mem_cons];exact .inr (ih x h)
   have ho: ∀(y:Option Operand) x,x∈pQ.opt y→y=some x:=by
    intro y x h;cases y with
    |none=>cases h
    |some y=>simp only[pQ.opt,List.mem_singleton] at h;rw[h]
   intro x hx
   cases hop:o.op
   case call c=>
    rw[hop] at hx
    obtain⟨callee,args,tys⟩:=c
    cases callee<;>simp_all [pQ,Op.operands,Call.operands]
   case slice t y lo hi mx=>
    rw[hop] at hx
    simp only[pQ,List.mem_cons,tK] at hx
    simp only[Op.operands,Array.mem_append]
    rcases hx with rfl|hx|hx
    ·simp
    ·have:=ho _ _ hx;subst this;simp
    ·have:=ho _ _ hx;subst this;simp
   case build t ps=>rw[hop] at hx;simp only[Op.operands,List.mem_toArray];exact hp _ _ hx
   case buildSlice t n ps=>rw[hop] at hx;simp only[Op.operands,List.mem_toArray];exact hp _ _ hx
   all_goals (rw[hop] at hx;simp_all [pQ,Op.operands])
  have: ∀(l:List Operand),(∀x∈l,x∈o.op.operands)→yG s'.env l=yG s.env l:=by
   intro l
   induction l with
   |nil=>intro _;rfl
   |cons x l ih=>intro h;simp only[yG,hop x (h x (by simp)),ih (fun y hy=>h y (List.mem_cons_of_mem _ hy))]
  exact this _ hsub
 have hpl: ∀{e0:Eff},rM T Γ o.type (fun x=>u7 (rC s.env x)) s.nb s.H o.op=some e0→e0.rds=e.rds→rM T Γ o.type (fun x=>u7 (rC s'.env x)) s'.nb s'.H o.op=some e0:=by
  intro e0 h1 h2
  rw[aAY (ρ:=fun x=>u7 (rC s.env x)) (ρ':=fun x=>u7 (rC s'.env x)) o.op (fun x hx=>by simp only[hop x hx]),hn]
  exact aA5 h1 (by rw[h2];exact hH)
 unfold evOp at h⊢
 cases hg:o.guard with
 |none=>
  rw[hg] at h
  simp only at h⊢
  by_cases hpk: ∃c x y,o.op= .pick c x y
  ·obtain⟨c,x,y,hp⟩:=hpk
   rw[hp] at h⊢
   simp only[G3] at h⊢
   rw[hop c (by rw[hp];simp [Op.operands]),hop x (by rw[hp];simp [Op.operands]),hop y (by rw[hp];simp [Op.operands])]
   exact h
  ·have e1: ∀s,G3 T Γ o s o.op=G1 (vD true (yG s.env (pQ o.op))) (rM T Γ o.type (fun x=>u7 (rC s.env x)) s.nb s.H o.op):=by
    intro s
    cases ho:o.op<;>first|rfl|(exact absurd ⟨_,_,_,ho⟩ hpk)
   rw[e1] at h⊢
   rw[hops]
   cases hp0:rM T Γ o.type (fun x=>u7 (rC s.env x)) s.nb s.H o.op with
   |none=>rw[hp0] at h;cases h
   |some e0=>
    rw[hp0] at h
    simp only[G1,Option.some.injEq] at h
    rw[hpl hp0 (by rw[←h])]
    simp only[G1,h]
 |some jb=>
  obtain⟨j,b⟩:=jb
  rw[hg] at h
  simp only at h⊢
  have hgu:BH s'.env b (zM ops.toList j)=BH s.env b (zM ops.toList j):=by
   rw[TF]
   cases hd:(ops.toList[j]?).bind (·.dst) with
   |none=>rfl
   |some t=>
    simp only[BH]
    rw[ht t (by
     simp only[Oper.looksAt,hg,List.mem_append]
     right
     have:(ops[j]?).bind (·.dst)=some t:=by simpa using hd
     rw[this];simp)]
  rw[hgu]
  cases hG:BH s.env b (zM ops.toList j) with
  |none=>rw[hG] at h;cases h
  |some G=>
   rw[hG] at h
   by_cases hpk: ∃c x y,o.op= .pick c x y
   ·obtain⟨c,x,y,hp⟩:=hpk
    rw[hp] at h⊢
    simp only[G2] at h⊢
    rw[hop c (by rw[hp];simp [Op.operands]),hop x (by rw[hp];simp [Op.operands]),hop y (by rw[hp];simp [Op.operands])]
    exact h
   have e1: ∀s,G2 T Γ o s (some G) o.op=CP G (vD G (yG s.env (pQ o.op))) (rM T Γ o.type (fun x=>u7 (rC s.env x)) s.nb s.H o.op):=by
    intro s
    cases ho:o.op<;>first|rfl|(exact absurd ⟨_,_,_,ho⟩ hpk)
   rw[e1] at h⊢
   rw[hops]
   cases hp0:rM T Γ o.type (fun x=>u7 (rC s.env x)) s.nb s.H o.op with
   |none=>rw[hp0] at h;cases h
   |some e0=>
    rw[hp0] at h
    have hrd:e0.rds=e.rds:=by
     unfold CP at h
     split at h
     ·rename_i heq
      simp only[Option.some.injEq] at h heq
      subst heq
      rw[←h]
     ·rename_i heq
      simp only[Option.some.injEq] at h heq
      subst heq
      rw[←h]
     ·cases h
    rw[hpl hp0 hrd]
    exact h
def lastW {α:Type}(p:Nat→Bool) (wr:Nat→Option α) (b:α):Nat→α
 |0=>b
 |k+1=>if p k=true then(wr k).getD (lastW p wr b k) else lastW p wr b k
theorem GJ {α:Type}{p q:Nat→Bool}{wr:Nat→Option α}{b:α}: ∀{n:Nat},(∀j,j<n→wr j≠none→p j=q j)→lastW p wr b n=lastW q wr b n
 |0,_=>rfl
 |n+1,h=>by
  simp only[lastW]
  have ih:=GJ (p:=p) (q:=q) (wr:=wr) (b:=b) (n:=n) (fun j hj=>h j (by omega))
  cases hw:wr n with
  |none=>simp [ih]
  |some v=>rw[h n (by omega) (by rw[hw];simp),ih]
theorem a4b {α:Type}{wr:Nat→Option α}{b:α}{i:Nat}: ∀{n:Nat},i≤n→lastW (fun j=>decide (j<i)) wr b n=lastW (fun _=>true) wr b i
 |0,h=>by
  have:i=0:=by omega
  subst this
  rfl
 |n+1,h=>by
  by_cases hi:i=n+1
  ·subst hi
   exact GJ (fun j hj _=>by simp [hj])
  ·have: ¬n<i:=by omega
   simp only[lastW]
   rw[if_neg (by simp [this])]
   exact a4b (by omega)
theorem TR {α:Type}{p q:Nat→Bool}{wr:Nat→Option α}{b:α}{i:Nat}(hi:p i=false) (hq: ∀j,q j=if j=i then true else p j): ∀{n:Nat},i<n→(∀j,i<j→j<n→p j=true→wr j=none∨wr i=none)→lastW q wr b n=(wr i).getD (lastW p wr b n)
 |0,h,_=>by omega
 |n+1,h,hd=>by
  simp only[lastW]
  by_cases hn:n=i
  ·subst hn
   rw[if_pos (by rw[hq];simp),if_neg (by simp [hi])]
   rw[GJ (p:=q) (q:=p) (fun j hj _=>by rw[hq,if_neg (by omega)])]
  ·have ih:=TR (b:=b) hi hq (n:=n) (by omega) (fun j h1 h2=>hd j h1 (by omega))
   rw[hq,if_neg hn,ih]
   by_cases hp:p n=true
   ·rw[if_pos hp,if_pos hp]
    rcases hd n (by omega) (by omega) hp with h1|h1
    ·rw[h1];rfl
    ·rw[h1];rfl
   ·rw[if_neg hp,if_neg hp]
theorem TS {α:Type}{p:Nat→Bool}{wr:Nat→Option α}{b:α}: ∀(k:Nat),lastW p wr b (k+1)=lastW (fun j=>p (j+1)) (fun j=>wr (j+1)) (if p 0=true then(wr 0).getD b else b) k
 |0=>rfl
 |k+1=>by
  rw[lastW,TS k]
  rfl
theorem TT {rds:List Nat}{i:Nat}: ∀{u:List (Nat×Blk)},i∈idsOf (G4 rds u)↔i∈idsOf u∧zN i rds=false
 |[]=>by simp [G4,idsOf]
 |(j,b)::u=>by
  simp only[G4]
  cases h:zN j rds with
  |true=>
   rw[if_pos rfl,TT (u:=u)]
   simp only[idsOf,List.mem_cons]
   constructor
   ·rintro⟨h1,h2⟩;exact⟨.inr h1,h2⟩
   ·rintro⟨rfl|h1,h2⟩
    ·rw[h] at h2;cases h2
    ·exact⟨h1,h2⟩
  |false=>
   rw[if_neg (by simp)]
   simp only[idsOf,List.mem_cons,TT (u:=u)]
   constructor
   ·rintro(rfl|⟨h1,h2⟩)
    ·exact⟨.inl rfl,h⟩
    ·exact⟨.inr h1,h2⟩
   ·rintro⟨rfl|h1,h2⟩
    ·exact .inl rfl
    ·exact .inr ⟨h1,h2⟩
theorem NS {e:Eff}{i:Nat}:i∈idsOf (wrOf e)↔i∈idsOf e.upd∧zN i e.rds=false:=TT
theorem a4c {i:Nat}: ∀{l:List Nat},zN i l=true→i∈l
 |[],h=>by cases h
 |j::l,h=>by
  simp only[zN] at h
  split at h
  ·rename_i e;subst e;exact List.mem_cons_self
  ·exact List.mem_cons_of_mem _ (a4c h)
theorem a4d {H U:List (Nat×Blk)}{rds:List Nat}{i:Nat}(h:zN i rds=true): ∀{u:List (Nat×Blk)},i∈idsOf u→(getH U i=getH H i)∈EC H U rds u
 |[],hi=>by cases hi
 |(j,b)::u,hi=>by
  simp only[EC]
  simp only[idsOf,List.mem_cons] at hi
  rcases hi with rfl|hi
  ·rw[if_pos h];exact List.mem_cons_self
  ·have:=a4d (H:=H) (U:=U) h hi
   split
   ·exact List.mem_cons_of_mem _ this
   ·exact this
theorem aA7 {H:List (Nat×Blk)}{e:Eff}(hs: ∀p∈EC H e.upd e.rds e.upd,p) {i:Nat}(h1:i∈idsOf e.upd) (h2:i∉idsOf (wrOf e)):getH e.upd i=getH H i∧i∈e.rds:=by
 have h:zN i e.rds=true:=by
  cases h3:zN i e.rds with
  |true=>rfl
  |false=>exact absurd (NS.2 ⟨h1,h3⟩) h2
 exact⟨hs _ (a4d h h1),a4c h⟩
def wrS (os:List Oper) (es:List Eff) (t j:Nat):Option Slot:=
 match os[j]?,es[j]? with
 |some o,some e=>if o.dst=some t then some e.slot else none
 |_,_=>none
def wrH (es:List Eff) (id j:Nat):Option (Option Blk):=
 match es[j]? with
 |some e=>if id∈idsOf (wrOf e) then some (getH e.upd id) else none
 |none=>none
theorem TU {id:Nat}{H:Heap}: ∀{u:List (Nat×Blk)},getH (app u H) id=if id∈idsOf u then getH u id else getH H id
 |[]=>by simp [app,idsOf]
 |(k,b)::u=>by
  simp only[app,getH,idsOf,List.mem_cons]
  by_cases h:k=id
  ·subst h;simp
  ·rw[if_neg h,if_neg h,TU (u:=u)]
   have:(id=k∨id∈idsOf u)↔id∈idsOf u:=⟨fun h'=>h'.resolve_left (Ne.symm h),.inr⟩
   simp only[this]
theorem a4e {d:Option Tmp}{s:Slot}{env:List (Nat×Slot)}{t:Nat}:lk (rE d s env) t=if d=some t then s else lk env t:=by
 cases d with
 |none=>simp [rE]
 |some d=>simp only[rE,lk,Option.some.injEq]
structure StepOk (T:Types) (Γ:Ctx) (ops:List Oper) (os:List Oper) (es:List Eff) (s:St) (y:Acc) (k:Nat) (o:Oper) (e:Eff) (sk:St):Prop where
 ev:evOp T Γ ops o sk=some e
 nb:sk.nb=s.nb+32*k
 dst:dstOk s.N o.dst=true
 ids:idsLt (s.nb+32*k+32) e.upd=true
 side: ∀p∈e.side,p∈y.side
 env: ∀t,lk sk.env t=lastW (fun _=>true) (wrS os es t) (lk s.env t) k
 heap: ∀id,getH sk.H id=lastW (fun _=>true) (wrH es id) (getH s.H id) k
 same: ∀id,id∈idsOf e.upd→id∉idsOf (wrOf e)→getH e.upd id=getH sk.H id∧id∈e.rds
structure RunOk (T:Types) (Γ:Ctx) (ops:List Oper) (os:List Oper) (es:List Eff) (s:St) (y:Acc):Prop where
 len:es.length=os.length
 nb:y.s.nb=s.nb+32*os.length
 step: ∀k o e,os[k]? =some o→es[k]? =some e→∃sk,StepOk T Γ ops os es s y k o e sk
 env: ∀t,lk y.s.env t=lastW (fun _=>true) (wrS os es t) (lk s.env t) os.length
 heap: ∀id,getH y.s.H id=lastW (fun _=>true) (wrH es id) (getH s.H id) os.length
theorem a4f {T:Types}{Γ:Ctx}{ops:List Oper}: ∀{l:List Oper}{x y:Acc},sW T Γ ops l (some x)=some y→(∀p∈y.side,p)→∃es:List Eff,y.es=es.reverse++x.es∧RunOk T Γ ops l es x.s y
 |[],x,y,h,_=>by
  simp only[sW,Option.some.injEq] at h
  subst h
  exact⟨[],rfl,rfl,rfl,fun k o e h=>by simp at h,fun _=>rfl,fun _=>rfl⟩
 |o::l,x,y,h,hsy=>by
  obtain⟨e,h1,h2,h3,h4⟩:=TN h
  obtain⟨es,h5,h6⟩:=a4f h4 hsy
  have hsame: ∀{i:Nat},i∈idsOf e.upd→i∉idsOf (wrOf e)→getH e.upd i=getH x.s.H i∧i∈e.rds:=fun h1 h2=>aA7 (fun p hp=>hsy p ((EL h4).1 p (tK.2 (.inr (tK.2 (.inl hp)))))) h1 h2
  have envs: ∀t k,lastW (fun _=>true) (wrS (o::l) (e::es) t) (lk x.s.env t) (k+1)=lastW (fun _=>true) (wrS l es t) (lk (rE o.dst e.slot x.s.env) t) k:=fun t k=>by
   rw[TS,if_pos rfl,a4e]
   have:(wrS (o::l) (e::es) t 0).getD (lk x.s.env t)=if o.dst=some t then e.slot else lk x.s.env t:=by
    simp only[wrS,List.getElem?_cons_zero]
    split<;>rfl
   rw[this]
   rfl
  have heaps: ∀id k,lastW (fun _=>true) (wrH (e::es) id) (getH x.s.H id) (k+1)=lastW (fun _=>true) (wrH es id) (getH (app e.upd x.s.H) id) k:=fun id k=>by
   rw[TS,if_pos rfl,TU]
   have:(wrH (e::es) id 0).getD (getH x.s.H id)=if id∈idsOf e.upd then getH e.upd id else getH x.s.H id:=by
    simp only[wrH,List.getElem?_cons_zero]
    by_cases h7:id∈idsOf (wrOf e)
    ·rw[if_pos h7,if_pos (NS.1 h7).1];rfl
    ·rw[if_neg h7]
     by_cases h8:id∈idsOf e.upd
     ·rw[if_pos h8,(hsame h8 h7).1];rfl
     ·rw[if_neg h8];rfl
   rw[this]
   rfl
  refine⟨e::es,by rw[h5];simp,by simp [h6.len],?_,?_,fun t=> ?_,fun id=> ?_⟩
  ·have:=h6.nb;simp only at this;rw[this];simp only[List.length_cons];omega
  ·intro k o' e' ho he
   cases k with
   |zero=>
    simp only[List.getElem?_cons_zero,Option.some.injEq] at ho he
    subst ho;subst he
    exact⟨x.s,h1,rfl,h2,h3,fun p hp=>(EL h4).1 p (tK.2 (.inr (tK.2 (.inr hp)))),fun _=>rfl,fun _=>rfl,fun id=>hsame⟩
   |succ k=>
    simp only[List.getElem?_cons_succ] at ho he
    obtain⟨sk,q⟩:=h6.step k o' e' ho he
    refine⟨sk,q.ev,by rw[q.nb];simp only;omega,q.dst,?_,q.side,fun t=>by rw[q.env t,envs],fun id=>by rw[q.heap id,heaps],q.same⟩
    have:=q.ids
    simp only at this
    rw[show x.s.nb+32*(k+1)+32=x.s.nb+32+32*k+32 by omega]
    exact this
  ·rw[List.length_cons,envs];exact h6.env t
  ·rw[List.length_cons,heaps];exact h6.heap id
theorem a4g {ops:Array Oper}{bs:List Nat}{nb i:Nat}{o:Oper}{e:Eff}: ∀{ps:List Oper}{fs:List Eff}{j:Nat},MS ops bs nb i o e ps fs j=true→∀k p f,ps[k]? =some p→fs[k]? =some f→
  (bs.getD (j+k) 0).testBit i=true∨(o.apart ops p=true∧BJ e f=true∧ED (nb+32*i) f.upd=true)
 |p::ps,f::fs,j,h,k,p',f',hp,hf=>by
  simp only[MS,Bool.and_eq_true,Bool.or_eq_true] at h
  cases k with
  |zero=>
   simp only[List.getElem?_cons_zero,Option.some.injEq] at hp hf
   subst hp;subst hf
   exact h.1.imp id (fun h=>⟨h.1.1,h.1.2,h.2⟩)
  |succ k=>
   simp only[List.getElem?_cons_succ] at hp hf
   have:=a4g h.2 k p' f' hp hf
   rw[show j+(k+1)=j+1+k by omega]
   exact this
 |[],_,_,_,_,_,_,hp,_=>by simp at hp
 |_::_,[],_,_,_,_,_,_,hf=>by simp at hf
theorem TV {ops:Array Oper}{bs:List Nat}{nb:Nat}: ∀{os:List Oper}{es:List Eff}{m:Nat},MT ops bs nb os es m=true→∀i j o e p f,i<j→os[i]? =some o→es[i]? =some e→os[j]? =some p→es[j]? =some f→
  (bs.getD (m+j) 0).testBit (m+i)=true∨(o.apart ops p=true∧BJ e f=true∧ED (nb+32*(m+i)) f.upd=true)
 |o'::os,e'::es,m,h,i,j,o,e,p,f,hij,ho,he,hp,hf=>by
  simp only[MT,Bool.and_eq_true] at h
  obtain⟨j,rfl⟩: ∃k,j=k+1:=⟨j-1,by omega⟩
  simp only[List.getElem?_cons_succ] at hp hf
  cases i with
  |zero=>
   simp only[List.getElem?_cons_zero,Option.some.injEq] at ho he
   subst ho;subst he
   have:=a4g h.1 j p f hp hf
   rw[show m+(j+1)=m+1+j by omega]
   exact this
  |succ i=>
   simp only[List.getElem?_cons_succ] at ho he
   have:=TV h.2 i j o e p f (by omega) ho he hp hf
   rw[show m+(j+1)=m+1+j by omega,show m+(i+1)=m+1+i by omega]
   exact this
 |[],_,_,_,_,_,_,_,_,_,_,ho,_,_,_=>by simp at ho
 |_::_,[],_,_,_,_,_,_,_,_,_,_,he,_,_=>by simp at he
theorem a4h: ∀{os:List Oper}{m:Nat},MU os m=true→∀i o,os[i]? =some o→∀e∈o.after,Region.binds .any e=true→e.on<m+i
 |o'::os,m,h,i,o,ho,e,he,hb=>by
  simp only[MU,Bool.and_eq_true] at h
  cases i with
  |zero=>
   simp only[List.getElem?_cons_zero,Option.some.injEq] at ho
   subst ho
   have:=List.all_eq_true.1 h.1 e (by simpa using he)
   simpa[hb] using this
  |succ i=>
   simp only[List.getElem?_cons_succ] at ho
   have:=a4h h.2 i o ho e he hb
   omega
 |[],_,_,_,_,ho,_,_,_=>by simp at ho
theorem NT {l:List Nat}: ∀{u:List (Nat×Blk)},IT u l=false→∀i,i∈idsOf u→i∉l
 |(k,b)::u,h,i,hi=>by
  simp only[IT,Bool.or_eq_false_iff] at h
  simp only[idsOf,List.mem_cons] at hi
  rcases hi with rfl|hi
  ·simpa using h.1
  ·exact NT h.2 i hi
theorem TW {a b:Eff}(h:BJ a b=true):(∀i∈idsOf (wrOf a),i∉b.rds∧i∉idsOf b.upd)∧(∀i∈idsOf (wrOf b),i∉a.rds):=by
 simp only[BJ,Bool.and_eq_true,Bool.not_eq_true'] at h
 exact⟨fun i hi=>⟨fun h1=>NT h.1 i hi (tK.2 (.inl h1)),fun h1=>NT h.1 i hi (tK.2 (.inr h1))⟩,fun i hi=>NT h.2 i hi⟩
theorem a4i {lo:Nat}: ∀{u:List (Nat×Blk)},ED lo u=true→∀i∈idsOf u,i<lo∨lo+32≤i
 |(k,b)::u,h,i,hi=>by
  simp only[ED,Bool.and_eq_true,Bool.or_eq_true,decide_eq_true_eq] at h
  simp only[idsOf,List.mem_cons] at hi
  rcases hi with rfl|hi
  ·exact h.1
  ·exact a4i h.2 i hi
def Closed (os:List Oper) (p:Nat→Bool):Prop:= ∀j o,os[j]? =some o→p j=true→∀e∈o.after,Region.binds .any e=true→p e.on=true
theorem a4j {p:Nat→Bool}{acc:Array Nat}(hacc: ∀i j,(acc.getD i 0).testBit j=true→p i=true→p j=true) {i:Nat}: ∀{es:List Edge}{s:Nat},(s.testBit i=true→p i=true)→(∀e∈es,Region.binds .any e=true→p e.on=true)→
  (es.foldl (fun s e=>if Region.binds .any e then s|||2^e.on|||acc.getD e.on 0 else s) s).testBit i=true→p i=true
 |[],s,hs,_,h=>hs h
 |e::es,s,hs,he,h=>by
  simp only[List.foldl_cons] at h
  refine a4j hacc (es:=es) (fun h1=> ?_) (fun e' h'=>he e' (List.mem_cons_of_mem _ h')) h
  split at h1
  ·rename_i hb
   simp only[Nat.testBit_or,Bool.or_eq_true,Nat.testBit_two_pow,decide_eq_true_eq] at h1
   rcases h1 with(h1|h1) |h1
   ·exact hs h1
   ·rw[←h1];exact he e (by simp) hb
   ·exact hacc _ _ h1 (he e (by simp) hb)
  ·exact hs h1
theorem a4k {p:Nat→Bool}: ∀{os:List Oper}{acc:Array Nat},(∀i j,(acc.getD i 0).testBit j=true→p i=true→p j=true)→(∀j o,os[j]? =some o→p (acc.size+j)=true→∀e∈o.after,Region.binds .any e=true→p e.on=true)→
  ∀i j,((os.foldl (fun acc o=>acc.push (o.after.foldl (fun s e=>if Region.binds .any e then s|||2^e.on|||acc.getD e.on 0 else s) 0)) acc).getD i 0).testBit j=true→p i=true→p j=true
 |[],acc,hacc,_,i,j,h,hp=>hacc i j h hp
 |o::os,acc,hacc,hos,i,j,h,hp=>by
  simp only[List.foldl_cons] at h
  refine a4k (os:=os) (fun i j h hp=> ?_) (fun k o' ho hk=> ?_) i j h hp
  ·rw[Array.getD_eq_getD_getElem?,Array.getElem?_push] at h
   split at h
   ·rename_i hi
    simp only[Option.getD_some] at h
    rw[←Array.foldl_toList] at h
    refine a4j hacc (es:=o.after.toList) (s:=0) (fun h=>by simp at h) (fun e he hb=>hos 0 o rfl (by rw[hi] at hp;exact hp) e (by simpa using he) hb) h
   ·rw[←Array.getD_eq_getD_getElem?] at h
    exact hacc i j h hp
  ·refine hos (k+1) o' ho ?_
   rw[Array.size_push] at hk
   rw[show acc.size+(k+1)=acc.size+1+k by omega]
   exact hk
theorem a4l {ops:Array Oper}{p:Nat→Bool}(hp:Closed ops.toList p) {i j:Nat}(h:((Region.before ops).toList.getD i 0).testBit j=true) (hi:p i=true):p j=true:=by
 refine a4k (os:=ops.toList) (acc:= #[]) (p:=p) (fun i j h=>by simp at h) (fun j o ho hj=>hp j o ho (by simpa using hj)) i j ?_ hi
 unfold Region.before at h
 rw[←Array.foldl_toList] at h
 rw[Array.getD_eq_getD_getElem?,←Array.getElem?_toList,←List.getD_eq_getElem?_getD]
 exact h
end Go.Proofs.YtfchbnahjcdiiaaGreatDoor.Vc
namespace Go.Proofs.YtfchbnahjcdiiaaGreatDoor.Vc
open Go.RowKit
set_option linter.unusedSectionVars false
def yZ (l:Array Bool):Nat→Nat
 |0=>0
 |k+1=>yZ l k+if l.getD k false=true then 0 else 1
theorem a4m {l l':Array Bool}: ∀{n:Nat},(∀j,j<n→l'.getD j false=l.getD j false)→yZ l' n=yZ l n
 |0,_=>rfl
 |n+1,h=>by simp only[yZ];rw[a4m (fun j hj=>h j (by omega)),h n (by omega)]
theorem a4n {l:Array Bool}: ∀{n:Nat},yZ l n=0→∀j,j<n→l.getD j false=true
 |n+1,h,j,hj=>by
  simp only[yZ] at h
  by_cases hn:l.getD n false=true
  ·by_cases hjn:j=n
   ·subst hjn;exact hn
   ·exact a4n (n:=n) (by omega) j (by omega)
  ·rw[if_neg hn] at h;omega
theorem BO {l:Array Bool}{i j:Nat}(hi:i<l.size):(l.setIfInBounds i true).getD j false=if j=i then true else l.getD j false:=by
 by_cases h:j=i
 ·subst h
  rw[if_pos rfl,Array.getD_eq_getD_getElem?,Array.getElem?_setIfInBounds_self_of_lt hi]
  rfl
 ·rw[if_neg h,Array.getD_eq_getD_getElem?,Array.getElem?_setIfInBounds_ne (Ne.symm h),←Array.getD_eq_getD_getElem?]
theorem a4o {l:Array Bool}{i:Nat}(hi:i<l.size) (hf:l.getD i false=false): ∀{n:Nat},i<n→yZ (l.setIfInBounds i true) n+1=yZ l n
 |n+1,h=>by
  simp only[yZ]
  by_cases hn:n=i
  ·subst hn
   rw[BO hi,if_pos rfl,if_pos rfl,hf,a4m (l:=l) (fun j hj=>by rw[BO hi,if_neg (by omega)])]
   simp
  ·rw[BO hi,if_neg hn]
   have:=a4o hi hf (n:=n) (by omega)
   omega
theorem a4p {p:Nat→Bool}: ∀{n:Nat},(∃j,j<n∧p j=false)→∃j,j<n∧p j=false∧∀k,k<j→p k=true
 |0,⟨j,h,_⟩=>by omega
 |n+1,⟨j,h,hj⟩=>by
  by_cases hs: ∃j,j<n∧p j=false
  ·obtain⟨k,h1,h2,h3⟩:=a4p hs
   exact⟨k,by omega,h2,h3⟩
  ·refine⟨j,h,hj,fun k hk=> ?_⟩
   cases hp:p k with
   |true=>rfl
   |false=>exact absurd ⟨k,by omega,hp⟩ hs
theorem HeapOk.ext {g:Gh}{w:World}{H H':Heap}(h:HeapOk g w H) (e: ∀i,getH H' i=getH H i):HeapOk g w H':=
 ⟨fun i b hb=>h.blk i b (by rw[←e];exact hb),fun i j bi bj b o hij h1 h2=>h.dis i j bi bj b o hij (by rw[←e];exact h1) (by rw[←e];exact h2),h.sl,h.tab.1,fun i b bb oo hb ho=>h.tab.2 i b bb oo (by rw[←e];exact hb) ho⟩
theorem Good.ext {A:Nat→Nat→Prop}{L:List Blk}{g0 g:Gh}{w0 w:World}{H H':Heap}(h:Good A L g0 w0 g w H) (e: ∀i,getH H' i=getH H i):Good A L g0 w0 g w H':=
 ⟨h.shut,h.fr,fun i blk b o hb=>h.perm i blk b o (by rw[←e];exact hb),h.J,h.live,fun i u y us hi hb=>h.ty i u y us hi (by rw[←e];exact hb),h.cur⟩
theorem a4q (g:Gh) (w:World) (d:Nat):Le g w g {w with drawn:=d}:=⟨fun _ _ h=>h,fun _ _ _=>rfl,fun _ _ h=>h,fun _ _ _ h=>h⟩
theorem HeapOk.drawn {g:Gh}{w:World}{H:Heap}(h:HeapOk g w H) (d:Nat):HeapOk g {w with drawn:=d} H:=
 ⟨fun i b hb=>G8 (h.blk i b hb) (a4q g w d) rfl rfl (fun _ _ _=>⟨rfl,rfl⟩) (fun _ _=>rfl) (fun _ _ _ h=>h) (fun _ _ _ _ h=>h),h.dis,h.sl,ID h.tab.1 (Nat.le_refl _) (fun _ _=>rfl),h.tab.2⟩
theorem Good.drawn {A:Nat→Nat→Prop}{L:List Blk}{g0 g:Gh}{w0 w:World}{H:Heap}(h:Good A L g0 w0 g w H) (d:Nat):Good A L g0 w0 g {w with drawn:=d} H:=
 ⟨h.shut,⟨h.fr.os,h.fr.tape,h.fr.output,h.fr.size,h.fr.blk,h.fr.cell,h.fr.new,h.fr.shape⟩,h.perm,h.J,h.live,h.ty,h.cur⟩
section
variable {B:Nat}{P:Program}{T:Types}{Γ:Ctx}(hT:TypesOk P T) (hΓ:CtxOk P Γ) {A:Nat→Nat→Prop}{L:List Blk}{g0:Gh}{w0:World}{Q:Exit→Act→World→Prop}
structure Mid (B:Nat) (A:Nat→Nat→Prop) (L:List Blk) (g0:Gh) (w0:World) (ops:Array Oper) (es:List Eff) (s:St) (listed:Array Bool) (g:Gh) (w:World) (a:Act) (env:List (Nat×Slot)) (H:Heap):Prop where
 size:listed.size=ops.size
 closed:Closed ops.toList (fun j=>listed.getD j false)
 eok:EnvOk g w env a.tmps
 look: ∀t,lk env t=lastW (fun j=>listed.getD j false) (wrS ops.toList es t) (lk s.env t) ops.size
 heap:HeapOk g w H
 get: ∀id,getH H id=lastW (fun j=>listed.getD j false) (wrH es id) (getH s.H id) ops.size
 tmps:a.tmps.size=s.N
 def_:DefsOk B w a.defers
 good:Good A L g0 w0 g w H
 free: ∀j,j<ops.size→listed.getD j false=false→∀id,s.nb+32*j≤id→id<s.nb+32*j+32→g.J id=none∧∀n,g.cur id n=none
 top: ∀id,s.nb+32*ops.size≤id→g.J id=none∧∀n,g.cur id n=none
include hT hΓ
theorem aA8 {ro:Option Nat}{ops:Array Oper}{es:List Eff}{s:St}{y:Acc}(run:RunOk T Γ ops.toList ops.toList es s y) (hs: ∀p∈y.side,p) (hchk:AC ops s.nb es=true)
  (hQ: ∀g a w env H,EnvOk g w env a.tmps→(∀t,lk env t=lk y.s.env t)→HeapOk g w H→(∀id,getH H id=getH y.s.H id)→a.tmps.size=s.N→DefsOk B w a.defers→Good A L g0 w0 g w H→(∀id,s.nb+32*ops.size≤id→g.J id=none∧∀n,g.cur id n=none)→Q .normal a w):
  ∀(fuel:Nat) (listed:Array Bool) (g:Gh) (w:World) (a:Act) (env:List (Nat×Slot)) (H:Heap),yZ listed ops.size≤fuel→Mid B A L g0 w0 ops es s listed g w a env H→wpAnyIn (AG ro) 0 P .any ops Q fuel listed a w:=by
 simp only[AC,Bool.and_eq_true] at hchk
 obtain⟨haf,hfr⟩:=hchk
 have hsz:ops.toList.length=ops.size:=Array.length_toList
 have done: ∀(listed:Array Bool) (g:Gh) (w:World) (a:Act) (env:List (Nat×Slot)) (H:Heap),Mid B A L g0 w0 ops es s listed g w a env H→(∀j,j<ops.size→listed.getD j false=true)→Q .normal a w:=by
  intro listed g w a env H m hall
  refine hQ g a w env H m.eok (fun t=> ?_) m.heap (fun id=> ?_) m.tmps m.def_ m.good m.top
  ·rw[m.look t,run.env t,hsz];exact GJ (fun j hj _=>hall j hj)
  ·rw[m.get id,run.heap id,hsz];exact GJ (fun j hj _=>hall j hj)
 have stuck: ∀(listed:Array Bool),listed.size=ops.size→Region.ready .any ops listed=[]→∀j,j<ops.size→listed.getD j false=true:=by
  intro listed hls hr j hj
  cases hp:listed.getD j false with
  |true=>rfl
  |false=>
   obtain⟨k,h1,h2,h3⟩:=a4p (p:=fun j=>listed.getD j false) ⟨j,hj,hp⟩
   have:k∈Region.ready .any ops listed:=by
    rw[mem_ready]
    refine⟨?_,ops[k],by simp [h1],fun e he hb=> ?_⟩
    ·have h2:listed.getD k false=false:=h2
     rw[Array.getD_eq_getD_getElem?] at h2⊢
     rw[Array.getElem?_eq_getElem (by omega)] at h2⊢
     exact h2
    ·have:=a4h haf k ops[k] (by simp [h1]) e he hb
     exact h3 e.on (by omega)
   rw[hr] at this;cases this
 intro fuel
 induction fuel with
 |zero=>
  intro listed g w a env H hu m
  have hall:=a4n (l:=listed) (n:=ops.size) (by omega)
  refine⟨?_,done listed g w a env H m hall⟩
  cases hr:Region.ready .any ops listed with
  |nil=>rfl
  |cons i r=>
   have:i∈Region.ready .any ops listed:=by rw[hr];simp
   obtain⟨h0,o,ho,_⟩:=mem_ready.1 this
   have hi:i<ops.size:=(Array.getElem?_eq_some_iff.1 ho).1
   have:=hall i hi
   rw[Array.getD_eq_getD_getElem?] at this h0
   rw[Array.getElem?_eq_getElem (by rw[m.size];exact hi)] at this h0
   simp at this h0
   rw[this] at h0;cases h0
 |succ fuel ih=>
  intro listed g w a env H hu m
  refine⟨fun hr=>done listed g w a env H m (stuck listed m.size hr),fun i hi=> ?_⟩
  obtain⟨h0,o,ho,hall⟩:=mem_ready.1 hi
  have hin:i<ops.size:=(Array.getElem?_eq_some_iff.1 ho).1
  have hil:i<listed.size:=by rw[m.size];exact hin
  have hpi:listed.getD i false=false:=by
   rw[Array.getD_eq_getD_getElem?] at h0⊢
   rw[Array.getElem?_eq_getElem hil] at h0⊢
   exact h0
  have hoL:ops.toList[i]? =some o:=by simpa using ho
  obtain⟨e,he⟩: ∃e,es[i]? =some e:=⟨es[i]'(by rw[run.len,hsz];exact hin),by simp⟩
  obtain⟨sk,st⟩:=run.step i o e hoL he
  have hcl':Closed ops.toList (fun j=>(listed.setIfInBounds i true).getD j false):=by
   intro j o' ho' hj ed hed hb
   simp only[BO hil] at hj⊢
   by_cases hji:j=i
   ·subst hji
    rw[hoL] at ho'
    obtain rfl:=Option.some.inj ho'
    have:=hall ed hed hb
    split
    ·rfl
    ·exact this
   ·rw[if_neg hji] at hj
    have:=m.closed j o' ho' hj ed hed hb
    split
    ·rfl
    ·exact this
  have hbef: ∀j,((Region.before ops).toList.getD i 0).testBit j=true→j≠i→listed.getD j false=true:=by
   intro j hj hne
   have:=a4l hcl' hj (by simp only[BO hil];simp)
   simp only[BO hil,if_neg hne] at this
   exact this
  have haft: ∀j,((Region.before ops).toList.getD j 0).testBit i=true→listed.getD j false=true→False:=by
   intro j hj hl
   have:=a4l m.closed hj hl
   rw[hpi] at this;cases this
  have pairLt: ∀j p f,j<i→ops.toList[j]? =some p→es[j]? =some f→listed.getD j false=true∨(p.apart ops o=true∧BJ f e=true∧ED (s.nb+32*j) e.upd=true):=by
   intro j p f hji hp hf
   rcases TV hfr j i p f o e hji hp hf hoL he with h1|h1
   ·rw[Nat.zero_add,Nat.zero_add] at h1
    exact .inl (hbef j h1 (by omega))
   ·rw[Nat.zero_add] at h1;exact .inr h1
  have pairGt: ∀j p f,i<j→ops.toList[j]? =some p→es[j]? =some f→listed.getD j false=true→o.apart ops p=true∧BJ e f=true:=by
   intro j p f hij hp hf hl
   rcases TV hfr i j o e p f hij hoL he hp hf with h1|h1
   ·rw[Nat.zero_add,Nat.zero_add] at h1
    exact(haft j h1 hl).elim
   ·exact⟨h1.1,h1.2.1⟩
  have same: ∀{α:Type}(wr:Nat→Option α) (b:α),(∀j p f,j<i→ops.toList[j]? =some p→es[j]? =some f→wr j≠none→p.apart ops o=true→BJ f e=true→False)→
    (∀j p f,i<j→ops.toList[j]? =some p→es[j]? =some f→wr j≠none→o.apart ops p=true→BJ e f=true→False)→(∀j,wr j≠none→∃f,es[j]? =some f)→
    lastW (fun j=>listed.getD j false) wr b ops.size=lastW (fun _=>true) wr b i:=by
   intro α wr b hlt hgt hex
   rw[←a4b (n:=ops.size) (by omega)]
   refine GJ (fun j hj hw=> ?_)
   obtain⟨f,hf⟩:=hex j hw
   have hpj:ops.toList[j]? =some ops[j]:=by simp [hj]
   rcases Nat.lt_trichotomy j i with h1|h1|h1
   ·rw[decide_eq_true h1]
    rcases pairLt j _ f h1 hpj hf with h2|h2
    ·exact h2
    ·exact(hlt j _ f h1 hpj hf hw h2.1 h2.2.1).elim
   ·subst h1;simp [hpi]
   ·have: ¬j<i:=by omega
    rw[decide_eq_false this]
    cases hl:listed.getD j false with
    |false=>rfl
    |true=>
     obtain⟨h2,h3⟩:=pairGt j _ f h1 hpj hf hl
     exact(hgt j _ f h1 hpj hf hw h2 h3).elim
  have exS: ∀t j,wrS ops.toList es t j≠none→∃f,es[j]? =some f:=by
   intro t j h
   unfold wrS at h
   cases hf:es[j]? with
   |none=>rw[hf] at h;exact absurd (by split<;>first|rfl|(rename_i h1;cases h1)) h
   |some f=>exact⟨f,rfl⟩
  have exH: ∀t j,wrH es t j≠none→∃f,es[j]? =some f:=by
   intro t j h
   unfold wrH at h
   cases hf:es[j]? with
   |none=>rw[hf] at h;exact absurd rfl h
   |some f=>exact⟨f,rfl⟩
  have dS: ∀t j p f,ops.toList[j]? =some p→es[j]? =some f→wrS ops.toList es t j≠none→p.dst=some t:=by
   intro t j p f hp hf h
   unfold wrS at h
   rw[hp,hf] at h
   simp only at h
   split at h
   ·assumption
   ·exact absurd rfl h
  have dH: ∀id j f,es[j]? =some f→wrH es id j≠none→id∈idsOf (wrOf f):=by
   intro id j f hf h
   unfold wrH at h
   rw[hf] at h
   simp only at h
   split at h
   ·assumption
   ·exact absurd rfl h
  have hrds: ∀id∈e.rds,getH H id=getH sk.H id:=fun id hid=>by
   rw[m.get id,st.heap id]
   refine same _ _ (fun j p f _ hp hf hw _ ha=> ?_) (fun j p f _ hp hf hw _ ha=> ?_) (exH id)
   ·exact((TW ha).1 id (dH id j f hf hw)).1 hid
   ·exact(TW ha).2 id (dH id j f hf hw) hid
  have hev:evOp T Γ ops.toList o ⟨env,H,s.nb+32*i,s.N,s.np⟩=some e:=by
   refine aA6 st.ev (fun t ht=> ?_) (fun id hid=> ?_) st.nb.symm
   ·show lk env t=_
    rw[m.look t,st.env t]
    refine same _ _ (fun j p f _ hp hf hw ha _=> ?_) (fun j p f _ hp hf hw ha _=> ?_) (exS t)
    ·exact(Oper.apart_spec ha).1 t (dS t j p f hp hf hw) ht
    ·exact(Oper.apart_spec ha).2.2 t (dS t j p f hp hf hw) ht
   ·exact hrds id hid
  have hfresh:w9 g (s.nb+32*i) e:=fun id hid hle=>m.free i hin hpi id hle (JH st.ids hid)
  have key:=a3N hT hΓ (ops:=ops.toList) (o:=o) (a:=a) (s:=⟨env,H,s.nb+32*i,s.N,s.np⟩) (K:=wpAnyIn (AG ro) 0 P .any ops Q fuel (listed.setIfInBounds i true)) (Q:=Q) m.eok m.heap hev (fun p hp=>hs p (st.side p hp)) hfresh (fun g' w' v k=>by
   refine ih (listed.setIfInBounds i true) g' w' (a.put o.dst v) (rE o.dst e.slot env) (app e.upd H) ?_ ⟨by rw[Array.size_setIfInBounds];exact m.size,hcl',TM m.eok k.le k.slot m.tmps st.dst,fun t=> ?_,k.heap,fun id=> ?_,(a3R _ _ _).trans m.tmps,by rw[a3S];exact m.def_.eff m.heap k,m.good.eff k,fun j hj hjp id h1 h2=> ?_,fun id hid=> ?_⟩
   ·have:=a4o hil hpi hin;omega
   ·rw[a4e,TR (p:=fun j=>listed.getD j false) (i:=i) hpi (fun j=>by simp only[BO hil]) hin (fun j hij hj hl=> ?_),←m.look t]
    ·unfold wrS
     rw[hoL,he]
     simp only
     split<;>rfl
    ·have hpj:ops.toList[j]? =some ops[j]:=by simp [hj]
     obtain⟨f,hf⟩: ∃f,es[j]? =some f:=⟨es[j]'(by rw[run.len,hsz];exact hj),by simp⟩
     obtain⟨h3,_⟩:=pairGt j _ f hij hpj hf hl
     by_cases hw:wrS ops.toList es t j=none
     ·exact .inl hw
     ·right
      have hd:=dS t j _ f hpj hf hw
      by_cases hwi:wrS ops.toList es t i=none
      ·exact hwi
      ·have hdi:=dS t i _ e hoL he hwi
       exact absurd hd ((Oper.apart_spec h3).2.1 t hdi)
   ·rw[TU,TR (p:=fun j=>listed.getD j false) (i:=i) hpi (fun j=>by simp only[BO hil]) hin (fun j hij hj hl=> ?_),←m.get id]
    ·unfold wrH
     rw[he]
     simp only
     by_cases h7:id∈idsOf (wrOf e)
     ·rw[if_pos h7,if_pos (NS.1 h7).1];rfl
     ·rw[if_neg h7]
      by_cases h8:id∈idsOf e.upd
      ·obtain⟨q1,q2⟩:=st.same id h8 h7
       rw[if_pos h8,q1,←hrds id q2];rfl
      ·rw[if_neg h8];rfl
    ·have hpj:ops.toList[j]? =some ops[j]:=by simp [hj]
     obtain⟨f,hf⟩: ∃f,es[j]? =some f:=⟨es[j]'(by rw[run.len,hsz];exact hj),by simp⟩
     obtain⟨_,h3⟩:=pairGt j _ f hij hpj hf hl
     by_cases hw:wrH es id j=none
     ·exact .inl hw
     ·right
      have hd:=dH id j f hf hw
      by_cases hwi:wrH es id i=none
      ·exact hwi
      ·have hdi:=dH id i e he hwi
       exact absurd (NS.1 hd).1 ((TW h3).1 id hdi).2
   ·rw[BO hil] at hjp
    have hji:j≠i:=fun h=>by rw[if_pos h] at hjp;cases hjp
    rw[if_neg hji] at hjp
    have hnot:id∉idsOf e.upd:=by
     intro hm
     have hlt:=JH st.ids hm
     rcases Nat.lt_or_gt_of_ne hji with h3|h3
     ·obtain⟨f,hf⟩: ∃f,es[j]? =some f:=⟨es[j]'(by rw[run.len,hsz];exact hj),by simp⟩
      rcases pairLt j ops[j] f h3 (by simp [hj]) hf with h4|h4
      ·rw[hjp] at h4;cases h4
      ·have:=a4i h4.2.2 id hm
       omega
     ·omega
    have hg:=k.gho id hnot
    have hb:=m.free j hj hjp id h1 h2
    exact⟨hg.1.trans hb.1,fun n=>by rw[hg.2];exact hb.2 n⟩
   ·have hnot:id∉idsOf e.upd:=fun hm=>by have:=JH st.ids hm;omega
    have hg:=k.gho id hnot
    have hb:=m.top id hid
    exact⟨hg.1.trans hb.1,fun n=>by rw[hg.2];exact hb.2 n⟩)
  unfold wpOpIn
  rw[ho]
  simp only[Array.toArray_toList] at key⊢
  split at key
  ·rename_i hw;rw[if_pos hw];exact a3W (a3V hev) key
  ·rename_i hw;rw[if_neg hw];exact⟨fun _ _=>trivial,key⟩
theorem aA9 {ro:Option Nat}(hm:P.follows .mixedOrders=true) {id:Nat}{ops:Array Oper}{s:St}{y:Acc}{a:Act}{w:World}{g:Gh}(h:sW T Γ ops.toList ops.toList (some ⟨s,[],[]⟩)=some y) (hchk:AC ops s.nb y.es.reverse=true) (hs: ∀p∈y.side,p) (hr:Rel B g w s a) (hg:Good A L g0 w0 g w s.H)
  (hQ: ∀g' a' w',Rel B g' w' y.s a'→Good A L g0 w0 g' w' y.s.H→Q .normal a' w'):(Code.region id ops true).wpIn (AG ro) 0 P Q a w:=by
 obtain⟨es,h1,run⟩:=a4f h hs
 have hes:y.es.reverse=es:=by rw[h1];simp
 simp only at run
 rw[hes] at hchk
 have hsd:=EL h
 have hrep: ∀j,(Array.replicate ops.size false).getD j false=false:=by
  intro j
  rw[Array.getD_eq_getD_getElem?,Array.getElem?_replicate]
  split<;>rfl
 have none: ∀{α:Type}(wr:Nat→Option α) (b:α) n,lastW (fun j=>(Array.replicate ops.size false).getD j false) wr b n=b:=by
  intro α wr b n
  induction n with
  |zero=>rfl
  |succ n ih=>simp only[lastW];rw[if_neg (by rw[hrep];simp)];exact ih
 have hsz:ops.toList.length=ops.size:=Array.length_toList
 refine wpIn_region_any hm (aA8 hT hΓ run hs hchk (fun g' a' w' env H he hl hh hgt hz hd hgd htop=> ?_) _ _ g _ a s.env s.H ?_ ⟨by simp,fun j o ho hj=> ?_,fun t=>xT (a4q g w _) (hr.env t),fun t=> ?_,hr.heap.drawn _,fun id=> ?_,hr.size,hr.def_.same (fun _ h=>h),hg.drawn _,fun j _ _ id h1 _=>hr.nb id (by omega),fun id h1=>hr.nb id (by omega)⟩)
 ·refine hQ g' a' w' ⟨fun t=>by rw[←hl t];exact he t,hh.ext (fun i=>(hgt i).symm),by rw[hsd.2.1];exact hz,fun i hi=>htop i ?_,hd,?_⟩ (hgd.ext (fun i=>(hgt i).symm))
  ·rw[run.nb,hsz] at hi;exact hi
  ·rw[hsd.2.2,run.nb];exact Nat.le_trans hr.np (Nat.le_add_right _ _)
 ·have: ∀n (l:Array Bool),yZ l n≤n:=by
   intro n l
   induction n with
   |zero=>exact Nat.le_refl _
   |succ n ih=>simp only[yZ];split<;>omega
  exact this _ _
 ·simp only[hrep] at hj;cases hj
 ·rw[none]
 ·exact(none _ _ _).symm
end
end Go.Proofs.YtfchbnahjcdiiaaGreatDoor.Vc
namespace Go.Proofs.YtfchbnahjcdiiaaGreatDoor.Vc
open Go.RowKit
set_option linter.unusedSectionVars false
theorem TX: ∀{l:List Prop},pL l→∀p∈l,p
 |[p],h,q,hq=>by simp only[List.mem_singleton] at hq;subst hq;exact h
 |p::q::r,h,x,hx=>by
  rcases List.mem_cons.1 hx with rfl|hx
  ·exact h.1
  ·exact TX h.2 x hx
theorem a4r {p:Nat→Prop}(h: ∃n,p n): ∃n,p n∧∀m,p m→n≤m:=by
 obtain⟨n,hn⟩:=h
 induction n using Nat.strongRecOn with
 |_ n ih=>
  by_cases hs: ∃m,m<n∧p m
  ·obtain⟨m,hm,hp⟩:=hs;exact ih m hm hp
  ·exact⟨n,hn,fun m hm=>Nat.le_of_not_lt fun hlt=>hs ⟨m,hlt,hm⟩⟩
noncomputable def JI (p:Nat→Prop):Nat:=open Classical in if h: ∃n,p n then(a4r h).choose else 0
theorem NU {p:Nat→Prop}(h: ∃n,p n):p (JI p)∧∀m,p m→JI p≤m:=by
 unfold JI
 rw[dif_pos h]
 exact(a4r h).choose_spec
def AH:Exit→Option Ex
 | .normal=>some .normal
 | .exit id=>some (.exit id)
 | .ret=>some .ret
 |_=>none
def a4s (B:Nat) (A:Nat→Nat→Prop) (L:List Blk) (g0:Gh) (w0:World) (Q:Ex→St→Prop) (x:Exit) (a:Act) (w:World):Prop:=
 ∃e g s,AH x=some e∧Q e s∧Rel B g w s a∧Good A L g0 w0 g w s.H∧s.np=L.length
section
variable {B:Nat}{P:Program}{T:Types}{Γ:Ctx}(hT:TypesOk P T) (hΓ:CtxOk P Γ) (hm:P.follows .mixedOrders=true) {A:Nat→Nat→Prop}{L:List Blk}{g0:Gh}{w0:World}
include hT hΓ hm
theorem BP {ro:Option Nat}: ∀(c:Code) (s:St) (Q:Ex→St→Prop) (g:Gh) (a:Act) (w:World),sX T Γ c s Q→Rel B g w s a→Good A L g0 w0 g w s.H→s.np=L.length→c.wpIn (AG ro) 0 P (a4s B A L g0 w0 Q) a w
 | .skip,s,Q,g,a,w,h,hr,hg,hn=>by
  unfold sX at h
  exact wpIn_skip ⟨.normal,g,s,rfl,h,hr,hg,hn⟩
 | .label l,s,Q,g,a,w,h,hr,hg,hn=>by
  unfold sX at h
  exact wpIn_label ⟨.normal,g,s,rfl,h,hr,hg,hn⟩
 | .exit id,s,Q,g,a,w,h,hr,hg,hn=>by
  unfold sX at h
  exact wpIn_exit ⟨.exit id,g,s,rfl,h,hr,hg,hn⟩
 | .ret,s,Q,g,a,w,h,hr,hg,hn=>by
  unfold sX at h
  exact wpIn_ret ⟨.ret,g,s,rfl,h,hr,hg,hn⟩
 | .region id ops draw,s,Q,g,a,w,h,hr,hg,hn=>by
  unfold sX at h
  cases draw with
  |false=>
   simp only[IU] at h
   cases hy:sW T Γ ops.toList ops.toList (some ⟨s,[],[]⟩) with
   |none=>rw[hy] at h;cases h
   |some y=>
    rw[hy] at h
    refine aAX hT hΓ hy (TX h.1) hr hg (fun g' a' w' hr' hg'=>⟨.normal,g',y.s,rfl,h.2,hr',hg',(EL hy).2.2.trans hn⟩)
  |true=>
   simp only[IU] at h
   cases hy:sW T Γ ops.toList ops.toList (some ⟨s,[],[]⟩) with
   |none=>rw[hy] at h;cases h
   |some y=>
    rw[hy] at h
    simp only[a2i] at h
    by_cases hc:AC ops s.nb y.es.reverse=true
    ·rw[if_pos hc] at h
     refine aA9 hT hΓ hm hy hc (TX h.1) hr hg (fun g' a' w' hr' hg'=>⟨.normal,g',y.s,rfl,h.2,hr',hg',(EL hy).2.2.trans hn⟩)
    ·rw[if_neg hc] at h;cases h
 | .seq x y,s,Q,g,a,w,h,hr,hg,hn=>by
  unfold sX at h
  refine wpIn_seq (wpIn_mono (BP x s _ g a w h hr hg hn) fun e a' w' hp=> ?_)
  obtain⟨e',g',s',h1,h2,h3,h4,h5⟩:=hp
  cases e<;>simp only[AH,Option.some.injEq] at h1
  case normal=>subst h1;exact BP y s' Q g' a' w' h2 h3 h4 h5
  case exit id=>subst h1;exact⟨.exit id,g',s',rfl,h2,h3,h4,h5⟩
  case ret=>subst h1;exact⟨.ret,g',s',rfl,h2,h3,h4,h5⟩
  all_goals cases h1
 | .cond c x y,s,Q,g,a,w,h,hr,hg,hn=>by
  unfold sX at h
  have hc:=wC hr.env c
  generalize rC s.env c=sc at h hc
  unfold a2p at h
  split at h
  ·exact wpIn_cond_split (tU hc.1) (fun ht=>BP x s Q g a w (h.1 ht) hr hg hn) (fun ht=>BP y s Q g a w (h.2 ht) hr hg hn)
  ·obtain⟨b,hb,hp,hq⟩:=hc.1
   exact wpIn_cond_split hb (fun ht=>BP x s Q g a w (h.1 (hp ht)) hr hg hn) (fun ht=>BP y s Q g a w (h.2 (hq ht)) hr hg hn)
  ·cases h
 | .block id c,s,Q,g,a,w,h,hr,hg,hn=>by
  unfold sX at h
  refine wpIn_block (wpIn_mono (BP c s _ g a w h hr hg hn) fun e a' w' hp=> ?_)
  obtain⟨e',g',s',h1,h2,h3,h4,h5⟩:=hp
  cases e<;>simp only[AH,Option.some.injEq] at h1
  case normal=>subst h1;exact⟨.normal,g',s',rfl,h2,h3,h4,h5⟩
  case exit j=>
   subst h1
   simp only[EF] at h2
   simp only[Exit.inBlock]
   split
   ·rename_i hj;rw[if_pos hj] at h2;exact⟨.normal,g',s',rfl,h2,h3,h4,h5⟩
   ·rename_i hj;rw[if_neg hj] at h2;exact⟨.exit j,g',s',rfl,h2,h3,h4,h5⟩
  case ret=>subst h1;exact⟨.ret,g',s',rfl,h2,h3,h4,h5⟩
  all_goals cases h1
 | .loop c,s,Q,g,a,w,h,hr,hg,hn=>by
  unfold sX at h
  obtain⟨k,I,μ,h0,hround⟩:=h
  obtain⟨g1,k1,k2,k3,_⟩:=BN hr hg hn k
  let R:Act→World→Nat→Prop:=fun a w n=> ∃g s,I s∧μ s=n∧Rel B g w s a∧Good A L g0 w0 g w s.H∧s.np=L.length
  refine wpIn_loop (fun a w=> ∃n,R a w n) (fun a w=>JI (R a w)) ⟨_,g1,s.keep k,h0,rfl,k1,k2,k3⟩ (fun a w hI=> ?_)
  obtain⟨⟨g2,s2,i1,i2,i3,i4,i5⟩,_⟩:=NU hI
  refine wpIn_mono (BP c s2 _ g2 a w (hround s2 i1) i3 i4 i5) fun e a' w' hp=> ?_
  obtain⟨e',g',s',h1,h2,h3,h4,h5⟩:=hp
  cases e<;>simp only[AH,Option.some.injEq] at h1
  case normal=>
   subst h1
   obtain⟨k',j1,j2⟩:=h2
   obtain⟨g3,l1,l2,l3,_⟩:=BN h3 h4 h5 k'
   have hR:R a' w' (μ (s'.keep k')):=⟨g3,s'.keep k',j1,rfl,l1,l2,l3⟩
   refine⟨⟨_,hR⟩,Nat.lt_of_le_of_lt ((NU ⟨_,hR⟩).2 _ hR) (by rw[←i2];exact j2)⟩
  case exit id=>subst h1;exact⟨.exit id,g',s',rfl,h2,h3,h4,h5⟩
  case ret=>subst h1;exact⟨.ret,g',s',rfl,h2,h3,h4,h5⟩
  all_goals cases h1
 | .rangeFunc _ _ _ _,_,_,_,_,_,h,_,_,_=>by unfold sX at h;cases h
 | .scope _,_,_,_,_,_,h,_,_,_=>by unfold sX at h;cases h
 | .goto _,_,_,_,_,_,h,_,_,_=>by unfold sX at h;cases h
 | .refuse _,_,_,_,_,_,h,_,_,_=>by unfold sX at h;cases h
end
section
variable {f:St→Prop}{Q:Ex→St→Prop}{s:St}{id j:Nat}{I:St→Prop}{μ:St→Nat}{m:Nat}
theorem p8 (h:f s):IX f Q .normal s:=h
theorem wD (h:Q (.exit j) s):IX f Q (.exit j) s:=h
theorem pG (h:Q .ret s):IX f Q .ret s:=h
theorem q9 (h:Q .normal s):EF id Q .normal s:=h
theorem wE (h:Q .normal s):EF id Q (.exit id) s:=by show (if id=id then Q .normal s else Q (.exit id) s);rw[if_pos rfl];exact h
theorem pJ (h:Q .ret s):EF id Q .ret s:=h
end
@[go_sem] def pR:Nat→List Slot→List (Nat×Slot)
 |_,[]=>[]
 |c,s::r=>(c,s)::pR (c+1) r
@[go_sem] def sI:Nat→List Blk→List (Nat×Nat)
 |_,[]=>[]
 |c,_::L=>(c,c)::sI (c+1) L
@[go_sem] def JJ (m:List (Nat×Nat)):List Slot→Prop
 |[]=>True
 |s::r=>w7 m s=s∧JJ m r
@[go_sem] def JK (m:List (Nat×Nat)):List Blk→Prop
 |[]=>True
 | .dead::_=>False
 |b::r=>CQ m (some b)=b∧JK m r
def pU:List Blk→Prop
 |[]=>True
 | .row _ _ l n::r=>n=List.length l∧pU r
 |_::r=>pU r
theorem a4t {g:Gh}{w:World}: ∀{L:List Blk},(∀(i:Nat) b,L[i]? =some b→∃j,BlkOk g w j b)→pU L
 |[],_=>trivial
 |b::L,h=>by
  have h1:=a4t (L:=L) fun i b' hb=>h (i+1) b' (by simpa using hb)
  obtain⟨j,h0⟩:=h 0 b rfl
  cases b with
  |row e t l n=>exact⟨h0.1.symm,h1⟩
  |_=>exact h1
def TY:List Value→Value
 |[v]=>v
 |l=> .tuple l.toArray
@[go_sem] def a4u (env:List (Nat×Slot)):List Nat→List Slot
 |[]=>[]
 |t::r=>lk env t::a4u env r
attribute [go_sem] enumH
@[go_sem] def aBa:Slot→Int
 |(.val (.int _) n,_)=>n
 |_=>0
@[go_sem] def Fin (ts:List Nat) (r:Ret):Ex→St→Prop
 | .exit _,_=>False
 |_,s=> ∃k:Keep,(s.keep k).H=enumH 0 r.H∧a4u (s.keep k).env ts=r.ret
theorem a4v: ∀(l:List Slot) (c t:Nat),lk (pR c l) t=if c≤t then(l[t-c]?).getD (.any,none) else(.any,none)
 |[],c,t=>by simp [pR,lk]
 |s::l,c,t=>by
  simp only[pR,lk]
  by_cases h:c=t
  ·subst h;simp
  ·rw[if_neg h,a4v l (c+1) t]
   by_cases h2:c≤t
   ·rw[if_pos h2,if_pos (by omega)]
    obtain⟨d,hd⟩: ∃d,t-c=d+1:=⟨t-c-1,by omega⟩
    rw[hd,List.getElem?_cons_succ,show t- (c+1)=d by omega]
   ·rw[if_neg h2,if_neg (by omega)]
theorem GK: ∀{L:List Blk}{c i j:Nat},(i,j)∈sI c L↔i=j∧c≤i∧i<c+L.length
 |[],c,i,j=>by simp only[sI,List.not_mem_nil,List.length_nil,false_iff];omega
 |b::L,c,i,j=>by
  simp only[sI,List.mem_cons,Prod.mk.injEq,GK,List.length_cons]
  omega
theorem NV: ∀{L:List Blk}{c:Nat},uA 0 (sI c L)=true
 |[],_=>rfl
 |b::L,c=>by
  simp only[sI,uA,Bool.and_eq_true]
  refine⟨⟨by simp,?_⟩,NV⟩
  have: ∀{m:List (Nat×Nat)},(∀i j,(i,j)∈m→i≠c∧j≠c)→G5 c c m=false:=by
   intro m
   induction m with
   |nil=>intro _;rfl
   |cons q m ih=>
    intro h
    obtain⟨i,j⟩:=q
    have:=h i j (by simp)
    simp only[G5,ih (fun i j hm=>h i j (List.mem_cons_of_mem _ hm)),decide_eq_false this.1,decide_eq_false this.2]
    rfl
  rw[this]
  ·rfl
  ·intro i j hm
   obtain⟨rfl,h1,_⟩:=GK.1 hm
   omega
theorem a4w {m:List (Nat×Nat)}: ∀{l:List Slot},JJ m l→∀s∈l,w7 m s=s
 |x::l,h,s,hs=>by
  rcases List.mem_cons.1 hs with rfl|hs
  ·exact h.1
  ·exact a4w h.2 s hs
theorem EM {m:List (Nat×Nat)}: ∀{l:List Blk},JK m l→∀b∈l,CQ m (some b)=b∧b≠.dead
 |x::l,h,b,hb=>by
  cases x with
  |dead=>exact h.elim
  |cells t y ts=>
   rcases List.mem_cons.1 hb with rfl|hb
   ·exact⟨h.1,fun h=>by cases h⟩
   ·exact EM h.2 b hb
  |row e t l n=>
   rcases List.mem_cons.1 hb with rfl|hb
   ·exact⟨h.1,fun h=>by cases h⟩
   ·exact EM h.2 b hb
  |map k v l=>
   rcases List.mem_cons.1 hb with rfl|hb
   ·exact⟨h.1,fun h=>by cases h⟩
   ·exact EM h.2 b hb
  |iter s n=>
   rcases List.mem_cons.1 hb with rfl|hb
   ·exact⟨h.1,fun h=>by cases h⟩
   ·exact EM h.2 b hb
  |grow e c n=>
   rcases List.mem_cons.1 hb with rfl|hb
   ·exact⟨h.1,fun h=>by cases h⟩
   ·exact EM h.2 b hb
theorem NW {g:Gh}{w:World}: ∀{ss:List Slot}{vs:List Value},ArgsOk g w ss vs→vs.length=ss.length∧∀(i:Nat) s,ss[i]? =some s→∃v,vs[i]? =some v∧RdS g w s v
 |[],vs,h=>by rw[show vs=[] from h];exact⟨rfl,fun i s h=>by simp at h⟩
 |s::ss,vs,⟨v,vs',e,h1,h2⟩=>by
  subst e
  obtain⟨h3,h4⟩:=NW h2
  refine⟨by simp [h3],fun i s' hi=> ?_⟩
  cases i with
  |zero=>simp only[List.getElem?_cons_zero,Option.some.injEq] at hi;subst hi;exact⟨v,rfl,h1⟩
  |succ i=>simp only[List.getElem?_cons_succ] at hi⊢;exact h4 i s' hi
theorem NX: ∀(L:List Blk),pF L=L.length
 |[]=>rfl
 |_::L=>by simp only[pF,List.length_cons,NX L]
theorem a4x {g:Gh}{w:World}{args:List Slot}{vals:List Value}{L:List Blk}{N:Nat}(hH:HeapOk g w (enumH 0 L)) (ha:ArgsOk g w args vals) (hs:JJ (sI 0 L) args) (hb:JK (sI 0 L) L) (hN:args.length≤N):
  Rel w.heap.size (rP g 0 (sI 0 L)) w ⟨pR 0 args,enumH 0 L,pF L,N,pF L⟩ {tmps:=vals.toArray++Array.replicate (N-vals.toArray.size) undef,defers:=[]}∧
  (∀i blk,L[i]? =some blk→(rP g 0 (sI 0 L)).J i=g.J i∧BlkOk (rP g 0 (sI 0 L)) w i blk∧∀b o,owns (rP g 0 (sI 0 L)) i blk b o→owns g i blk b o):=by
 have hk:uA 0 (sI 0 L)=true:=NV
 have hmem: ∀i blk,L[i]? =some blk→(i,i)∈sI 0 L:=fun i blk h=>GK.2 ⟨rfl,by omega,by have:=(List.getElem?_eq_some_iff.1 h).1;omega⟩
 have hblk: ∀i blk,L[i]? =some blk→BlkOk (rP g 0 (sI 0 L)) w i blk∧∀b o,owns (rP g 0 (sI 0 L)) i blk b o→owns g i blk b o:=by
  intro i blk h
  have hr:=(EM hb blk (List.mem_of_getElem? h)).1
  have:=EK (g:=g) (w:=w) hk (hmem i blk h) (b:=some blk) (fun c hc=>by cases hc;exact hH.blk i blk (by rw[uK];exact h))
  rw[hr] at this
  exact⟨this.1,fun b o ho=>by obtain⟨c,hc,hco⟩:=this.2 b o ho;cases hc;exact hco⟩
 obtain⟨hl,hv⟩:=NW ha
 refine⟨⟨fun t=> ?_,⟨fun i b h=> ?_,fun i j bi bj b o hij h1 h2 o1 o2=> ?_,hH.sl,hH.tab.1,fun i blk b o hg ho=>hH.tab.2 i blk b o hg ((hblk i blk (by rw[←uK];exact hg)).2 b o ho)⟩,?_,fun i hi=> ?_,a3M _ _,Nat.le_refl _⟩,fun i blk h=>⟨(wW hk (hmem i blk h)).1,hblk i blk h⟩⟩
 ·rw[a4v,if_pos (Nat.zero_le _),Nat.sub_zero]
  cases ht:args[t]? with
  |none=>exact⟨trivial,trivial⟩
  |some s=>
   obtain⟨v,hv1,hv2⟩:=hv t s ht
   have hlt:t<vals.length:=(List.getElem?_eq_some_iff.1 hv1).1
   have:(vals.toArray++Array.replicate (N-vals.toArray.size) undef).getD t undef=v:=by
    rw[Array.getD_eq_getD_getElem?,Array.getElem?_append_left (by simpa using hlt)]
    simp [hv1]
   simp only[Option.getD_some]
   rw[this]
   have:=NQ hk hv2
   rw[a4w hs s (List.mem_of_getElem? ht)] at this
   exact this
 ·rw[uK] at h;exact(hblk i b h).1
 ·rw[uK] at h1 h2
  exact hH.dis i j bi bj b o hij (by rw[uK];exact h1) (by rw[uK];exact h2) ((hblk i bi h1).2 b o o1) ((hblk j bj h2).2 b o o2)
 ·simp only[Array.size_append,Array.size_replicate,List.size_toArray]
  omega
 ·have hold:vV (sI 0 L) i=none:=by
   cases ho:vV (sI 0 L) i with
   |none=>rfl
   |some o=>
    obtain⟨rfl,_,h2⟩:=GK.1 (TK ho)
    have hi:pF L≤i:=hi
    rw[NX] at hi;omega
  refine⟨?_,fun n=> ?_⟩
  ·show (if i<0 then g.J i else(vV (sI 0 L) i).bind g.J)=none
   rw[if_neg (by omega),hold];rfl
  ·show (if i<0 then g.cur i n else(vV (sI 0 L) i).bind fun o=>g.cur o n)=none
   rw[if_neg (by omega),hold];rfl
structure Turn (B:Nat) (w w':World):Prop where
 os:w'.os=w.os
 tape:w'.tape=w.tape
 output:w'.output=w.output
 size:w.heap.size≤w'.heap.size
 blk: ∀b,b<w.heap.size→w'.heap[b]? =w.heap[b]? ∨(B≤b∧NG≤b∧∃o o',w.heap[b]? =some o∧w'.heap[b]? =some o'∧markObj o=true∧markObj o'=true)
theorem a4y {w:World}{b:Nat}{ob:Obj}(hd:w.heap[b]? =some ob) (hm:markObj ob=true) (o:Nat):w.frozen? ⟨b,o,none⟩=false:=by
 unfold World.frozen?
 simp only[hd]
 cases ob<;>first|rfl|cases hm
theorem aBb {w:World}{b:Nat}{ob:Obj}(hd:w.heap[b]? =some ob) (hm:markObj ob=true):w.shape? b=none:=by
 unfold World.shape?
 simp only[hd]
 cases ob<;>first|rfl|cases hm
section
variable {B:Nat}{w w' w'':World}
theorem Turn.refl (B:Nat) (w:World):Turn B w w:=⟨rfl,rfl,rfl,Nat.le_refl _,fun _ _=> .inl rfl⟩
theorem Turn.trans (h:Turn B w w') (k:Turn B w' w''):Turn B w w'':=by
 refine⟨k.os.trans h.os,k.tape.trans h.tape,k.output.trans h.output,Nat.le_trans h.size k.size,fun b hb=> ?_⟩
 rcases k.blk b (Nat.lt_of_lt_of_le hb h.size) with k1|⟨k0,k1,o,o',k2,k3,k4,k5⟩
 ·rcases h.blk b hb with h1|⟨h0,h1,o,o',h2,h3,h4,h5⟩
  ·exact .inl (k1.trans h1)
  ·exact .inr ⟨h0,h1,o,o',h2,k1.trans h3,h4,h5⟩
 ·rcases h.blk b hb with h1|⟨h0,h1,p,p',h2,h3,h4,h5⟩
  ·exact .inr ⟨k0,k1,o,o',h1▸k2,k3,k4,k5⟩
  ·exact .inr ⟨h0,h1,p,o',h2,k3,h4,k5⟩
theorem Turn.cell (t:Turn B w w') {b:Nat}(hb:b<w.heap.size) (o:Nat):w'.cell? ⟨b,o,none⟩=w.cell? ⟨b,o,none⟩∧w'.frozen? ⟨b,o,none⟩=w.frozen? ⟨b,o,none⟩:=by
 rcases t.blk b hb with h|⟨_,_,o1,o2,h1,h2,m1,m2⟩
 ·exact⟨World.cell?_of_block h,by unfold World.frozen?;simp only[h]⟩
 ·exact⟨by rw[TE h1 m1,TE h2 m2],by rw[a4y h1 m1,a4y h2 m2]⟩
theorem Turn.shape (t:Turn B w w') {b:Nat}{s:TypeId×Nat}(h:w.shape? b=some s):w'.shape? b=some s:=by
 have hb:b<w.heap.size:=by
  unfold World.shape? at h
  cases hx:w.heap[b]? with
  |none=>rw[hx] at h;cases h
  |some _=>exact(Array.getElem?_eq_some_iff.1 hx).1
 rcases t.blk b hb with k|⟨_,_,o1,o2,h1,h2,m1,m2⟩
 ·unfold World.shape? at h⊢
  rw[k];exact h
 ·rw[aBb h1 m1] at h;cases h
theorem Turn.le (t:Turn B w w') {g:Gh}(hs: ∀b o,g.S b o→b<w.heap.size):Le g w g w':=⟨fun _ _ h=>h,fun b o h=>(t.cell (hs b o h) o).1,fun _ _ h=>h,fun _ _ _ h=>h⟩
theorem Turn.heapOk (t:Turn B w w') {g:Gh}{H:Heap}(h:HeapOk g w H):HeapOk g w' H:=by
 have own: ∀{i blk b o},getH H i=some blk→owns g i blk b o→w'.heap[b]? =w.heap[b]? :=fun hg ho=>by
  rcases t.blk _ (J4 (h.blk _ _ hg) ho) with k|⟨_,_,o1,o2,h1,_,m1,_⟩
  ·exact k
  ·exact(NN (h.blk _ _ hg) ho h1 m1).elim
 refine⟨fun i blk hb=>G8 (h.blk i blk hb) (t.le h.sl) rfl rfl (fun b o ho=>t.cell (J4 (h.blk i blk hb) ho) o) (fun b ho=>own hb (ho 0)) (fun _ _ _ x=>x) (fun b o s _ x=>t.shape x),h.dis,fun b o x=>Nat.lt_of_lt_of_le (h.sl b o x) t.size,ID h.tab.1 t.size (fun b hb=> ?_),h.tab.2⟩
 rcases t.blk b (Nat.lt_of_lt_of_le hb h.tab.1.1) with k|⟨_,k,_⟩
 ·exact k
 ·omega
theorem Rel.turn {g:Gh}{s:St}{a:Act}{ds:List Deferred}(h:Rel B g w s a) (t:Turn B w w') (hd:DefsOk B w' ds):Rel B g w' s {a with defers:=ds}:=
 ⟨fun x=>xT (t.le h.heap.sl) (h.env x),t.heapOk h.heap,h.size,h.nb,hd,h.np⟩
theorem Good.turn {A:Nat→Nat→Prop}{L:List Blk}{g0 g:Gh}{w0:World}{H:Heap}(h:Good A L g0 w0 g w H) (hs: ∀b o,g.S b o→b<w.heap.size) (t:Turn w0.heap.size w w'):Good A L g0 w0 g w' H:=by
 refine⟨fun b o x=>⟨(h.shut b o x).1,(t.cell (hs b o (h.shut b o x).1) o).1.trans (h.shut b o x).2⟩,⟨t.os.trans h.fr.os,t.tape.trans h.fr.tape,t.output.trans h.fr.output,Nat.le_trans h.fr.size t.size,fun b hb hA=> ?_,fun b o hb hA=> ?_,h.fr.new,fun b s x=> ?_⟩,h.perm,h.J,h.live,h.ty,h.cur⟩
 ·rcases t.blk b (Nat.lt_of_lt_of_le hb h.fr.size) with k|⟨k,_⟩
  ·exact k.trans (h.fr.blk b hb hA)
  ·omega
 ·have:=t.cell (Nat.lt_of_lt_of_le hb h.fr.size) o
  have k:=h.fr.cell b o hb hA
  exact⟨this.1.trans k.1,this.2.trans k.2⟩
 ·rcases h.fr.shape b s x with k|k
  ·exact .inl (t.shape k)
  ·exact .inr k
end
theorem a4z {P:Program}{fn:Func}{R:Ending→World→Prop}{A:Nat→Nat→Prop}{L:List Blk}{g0 g:Gh}{w0:World}{s:St}{tmps:Array Value}: ∀(ds:List Deferred) (w:World),Rel w0.heap.size g w s {tmps:=tmps,defers:=ds}→Good A L g0 w0 g w s.H→
  (∀w',Rel w0.heap.size g w' s {tmps:=tmps,defers:=[]}→Good A L g0 w0 g w' s.H→∃v,(results fn tmps).run P w'= .ok v w'∧R (.returned v) w')→LeavesInM Fence.wide 0 P fn tmps R ds .returning w
 |[],w,hr,hg,h=>h w hr hg
 |d::ds,w,hr,hg,h=>by
  obtain⟨hnd,hall⟩:=hr.def_
  obtain⟨D,rfl,h1,h2,h3⟩:=hall d List.mem_cons_self
  have hlt:=(Array.getElem?_eq_some_iff.1 h3).1
  have t:Turn w0.heap.size w (w.putObj D (.deferred none)):=by
   refine⟨rfl,rfl,rfl,by simp [World.putObj],fun b hb=> ?_⟩
   by_cases e:b=D
   ·subst e
    exact .inr ⟨h1,h2,_,_,h3,World.putObj_heap_same hlt,rfl,rfl⟩
   ·exact .inl (World.putObj_heap_other e)
  have hd:DefsOk w0.heap.size (w.putObj D (.deferred none)) ds:=by
   refine⟨(List.nodup_cons.1 hnd).2,fun d' hd'=> ?_⟩
   obtain⟨D',rfl,k1,k2,k3⟩:=hall d' (List.mem_cons_of_mem _ hd')
   refine⟨D',rfl,k1,k2,?_⟩
   rw[World.putObj_heap_other (fun e:D'=D=>(List.nodup_cons.1 hnd).1 (by subst e;exact hd'))]
   exact k3
  exact⟨by simp,.inl ⟨D,_,rfl,run_takeDeferred h3,a4z ds _ (hr.turn t hd) (hg.turn hr.heap.sl t) h⟩⟩
end Go.Proofs.YtfchbnahjcdiiaaGreatDoor.Vc
namespace Go.Proofs.YtfchbnahjcdiiaaGreatDoor.Vc
open Go.RowKit
set_option linter.unusedSectionVars false
def Ev (R:Bool) (P:Program) (c:Code) (s:St) (Q:Ex→St→Prop):Prop:=
 ∀(ro:Option Nat),ro.isSome=R→
 ∀(A:Nat→Nat→Prop) (L:List Blk) (g0:Gh) (w0:World) (g:Gh) (a:Act) (w:World) (B:Nat),B≤w0.heap.size→Rel B g w s a→Good A L g0 w0 g w s.H→s.np=L.length→c.wpIn (AG ro) 0 P (a4s B A L g0 w0 Q) a w
variable {R:Bool}
theorem a4A {P:Program}{T:Types}{Γ:Ctx}(hT:TypesOk P T) (hΓ:CtxOk P Γ) (hm:P.follows .mixedOrders=true) {c:Code}{s:St}{Q:Ex→St→Prop}(h:sX T Γ c s Q):Ev R P c s Q:=
 fun ro hro A L g0 w0 g a w B hB hr hg hn=>BP hT hΓ hm c s Q g a w h hr hg hn
structure Env (P:Program) (T:Types) (Γ:Ctx):Prop where
 T:TypesOk P T
 Γ:CtxOk P Γ
 m:P.follows .mixedOrders=true
theorem aBc {P:Program}{c:Code}{s:St}{Q Q':Ex→St→Prop}(h:Ev R P c s Q') (hq: ∀e s,Q' e s→Q e s):Ev R P c s Q:=by
 intro ro hro A L g0 w0 g a w B hB hr hg hn
 refine wpIn_mono (h ro hro A L g0 w0 g a w B hB hr hg hn) fun x a' w' hp=> ?_
 obtain⟨e,g',s',h1,h2,h3,h4,h5⟩:=hp
 exact⟨e,g',s',h1,hq e s' h2,h3,h4,h5⟩
theorem a4B {P:Program}{c:Code}{s:St}{Q:Ex→St→Prop}(k:Keep) (h:Ev R P c (s.keep k) Q):Ev R P c s Q:=by
 intro ro hro A L g0 w0 g a w B hB hr hg hn
 obtain⟨g1,k1,k2,k3,_⟩:=BN hr hg hn k
 exact h ro hro A L g0 w0 g1 a w B hB k1 k2 k3
section
variable {P:Program}{s:St}{Q:Ex→St→Prop}
theorem pD (h:Q .normal s):Ev R P .skip s Q:=fun _ _ _ _ _ _ g _ _ _ _ hr hg hn=>wpIn_skip ⟨.normal,g,s,rfl,h,hr,hg,hn⟩
theorem wF {id:Nat}(h:Q (.exit id) s):Ev R P (.exit id) s Q:=fun _ _ _ _ _ _ g _ _ _ _ hr hg hn=>wpIn_exit ⟨.exit id,g,s,rfl,h,hr,hg,hn⟩
theorem p5 (h:Q .ret s):Ev R P .ret s Q:=fun _ _ _ _ _ _ g _ _ _ _ hr hg hn=>wpIn_ret ⟨.ret,g,s,rfl,h,hr,hg,hn⟩
theorem pB {x y:Code}(h:Ev R P x s (IX (fun s'=>Ev R P y s' Q) Q)):Ev R P (.seq x y) s Q:=by
 intro ro hro A L g0 w0 g a w B hB hr hg hn
 refine wpIn_seq (wpIn_mono (h ro hro A L g0 w0 g a w B hB hr hg hn) fun e a' w' hp=> ?_)
 obtain⟨e',g',s',h1,h2,h3,h4,h5⟩:=hp
 cases e<;>simp only[AH,Option.some.injEq] at h1
 case normal=>subst h1;exact h2 ro hro A L g0 w0 g' a' w' B hB h3 h4 h5
 case exit id=>subst h1;exact⟨.exit id,g',s',rfl,h2,h3,h4,h5⟩
 case ret=>subst h1;exact⟨.ret,g',s',rfl,h2,h3,h4,h5⟩
 all_goals cases h1
theorem aBd {c:Operand}{x y:Code}{b:Bool}{k:Option Nat}(h:rC s.env c=(.val .bool b,k)) (ht:b=true→Ev R P x s Q) (hf:b=false→Ev R P y s Q):Ev R P (.cond c x y) s Q:=by
 intro ro hro A L g0 w0 g a w B hB hr hg hn
 have hc:=wC hr.env c
 rw[h] at hc
 exact wpIn_cond_split (tU hc.1) (fun e=>ht e ro hro A L g0 w0 g a w B hB hr hg hn) (fun e=>hf e ro hro A L g0 w0 g a w B hB hr hg hn)
theorem aBe {c:Operand}{x y:Code}{p q:Prop}{k:Option Nat}(h:rC s.env c=(.flag p q,k)) (ht:p→Ev R P x s Q) (hf:q→Ev R P y s Q):Ev R P (.cond c x y) s Q:=by
 intro ro hro A L g0 w0 g a w B hB hr hg hn
 have hc:=wC hr.env c
 rw[h] at hc
 obtain⟨b,hb,hp,hq⟩:=hc.1
 exact wpIn_cond_split hb (fun e=>ht (hp e) ro hro A L g0 w0 g a w B hB hr hg hn) (fun e=>hf (hq e) ro hro A L g0 w0 g a w B hB hr hg hn)
theorem qJ {id:Nat}{c:Code}(h:Ev R P c s (EF id Q)):Ev R P (.block id c) s Q:=by
 intro ro hro A L g0 w0 g a w B hB hr hg hn
 refine wpIn_block (wpIn_mono (h ro hro A L g0 w0 g a w B hB hr hg hn) fun e a' w' hp=> ?_)
 obtain⟨e',g',s',h1,h2,h3,h4,h5⟩:=hp
 cases e<;>simp only[AH,Option.some.injEq] at h1
 case normal=>subst h1;exact⟨.normal,g',s',rfl,h2,h3,h4,h5⟩
 case exit j=>
  subst h1
  simp only[EF] at h2
  simp only[Exit.inBlock]
  split
  ·rename_i hj;rw[if_pos hj] at h2;exact⟨.normal,g',s',rfl,h2,h3,h4,h5⟩
  ·rename_i hj;rw[if_neg hj] at h2;exact⟨.exit j,g',s',rfl,h2,h3,h4,h5⟩
 case ret=>subst h1;exact⟨.ret,g',s',rfl,h2,h3,h4,h5⟩
 all_goals cases h1
end
@[go_sem] def NY (k:Nat) (t:Ty) (l:List t.den):Slot→Slot
 |(.own j m,x)=>if j=k then(.val (.list t) l,some k) else(.own j m,x)
 |s=>s
@[go_sem] def CY (k:Nat) (t:Ty) (l:List t.den):List (Nat×Slot)→List (Nat×Slot)
 |[]=>[]
 |(i,s)::r=>(i,NY k t l s)::CY k t l r
@[go_sem] def a4C (k n:Nat):Slot→Prop
 |(.own j m,_)=>j=k→m=n
 |_=>True
@[go_sem] def JL (k n:Nat):List (Nat×Slot)→Prop
 |[]=>True
 |(_,s)::r=>a4C k n s∧JL k n r
theorem TZ {k:Nat}{t:Ty}{l:List t.den}: ∀{env:List (Nat×Slot)}{i:Nat},lk (CY k t l env) i=NY k t l (lk env i)
 |[],i=>rfl
 |(j,s)::r,i=>by
  simp only[CY,lk]
  split
  ·rfl
  ·exact TZ
theorem U0 {k n:Nat}: ∀{env:List (Nat×Slot)}{i:Nat},JL k n env→a4C k n (lk env i)
 |[],i,_=>trivial
 |(j,s)::r,i,⟨h1,h2⟩=>by
  simp only[lk]
  split
  ·exact h1
  ·exact U0 h2
theorem U1 {P:Program}{c:Code}{s:St}{Q:Ex→St→Prop}(k:Nat) {e:TypeId}{t:Ty}{l:List t.den}{n:Nat}(hk:getH s.H k=some (.row e t l n)) (hok:JL k n s.env)
  (h:Ev R P c ⟨CY k t l s.env,(k,.grow e t.cells (List.length l))::s.H,s.nb,s.N,s.np⟩ Q):Ev R P c s Q:=by
 intro ro hro A L g0 w0 g a w B hB hr hg hn
 obtain⟨hl,v,xs,hv,hown,hF,hnone,hseal⟩:=hr.heap.blk k _ hk
 let g':Gh:={g with S:=fun b o=>g.S b o∨(v.ownBlock=some b∧o<n*t.cells)}
 have le:Le g w g' w:=⟨fun _ _ h=> .inl h,fun _ _ _=>rfl,fun _ _ h=>h,fun _ _ _ h=>h⟩
 have hown2: ∀b,v.ownBlock=some b→∀o,owns g k (.row e t l n) b o:=fun b hb o=>⟨v,hv,hb⟩
 have hlist: ∀u,g.cur k n=some u→((u= .slice none 0 0∧n=0)∨∃b cap,u= .slice (some ⟨b,0,none⟩) n cap∧n≤cap)→qQ g' w (.list t) l u:=by
  intro u hu hshape
  rw[hv] at hu
  obtain rfl:=Option.some.inj hu
  rcases hshape with⟨rfl,h0⟩ |⟨b,cap,rfl,hcap⟩
  ·have:l=[]:=List.eq_nil_of_length_eq_zero (by rw[hl,h0])
   subst this
   exact .inr ⟨rfl,none,0,rfl,Nat.le_refl _,.inl rfl⟩
  ·refine .inr ⟨rfl,some ⟨b,0,none⟩,cap,by rw[hl],by rw[hl];exact hcap,.inr ⟨b,0,rfl,GB (yX (fun _ _ h=>uC le h) hF) (fun j u hu=> ?_) (fun j hj=> ?_)⟩⟩
   ·have:=hown.cells (g:=b) rfl j u hu
    rwa [Addr.add_mid] at this
   ·right
    exact⟨rfl,by rw[hl] at hj;omega⟩
 have hget: ∀i b,getH ((k,Blk.grow e t.cells (List.length l))::s.H) i=some b→(i=k∧b= .grow e t.cells (List.length l))∨(i≠k∧getH s.H i=some b):=by
  intro i b hb
  simp only[getH] at hb
  split at hb
  ·rename_i e1;exact .inl ⟨e1.symm,(Option.some.inj hb).symm⟩
  ·rename_i e1;exact .inr ⟨Ne.symm e1,hb⟩
 have howns: ∀i b bb o,getH ((k,Blk.grow e t.cells (List.length l))::s.H) i=some b→owns g' i b bb o→∃b0,getH s.H i=some b0∧owns g i b0 bb o:=by
  intro i b bb o hb ho
  rcases hget i b hb with⟨rfl,rfl⟩ |⟨_,h1⟩
  ·obtain⟨u,hu,hub⟩:=ho
   have hu':g.cur i (List.length l)=some u:=hu
   rw[hl] at hu'
   exact⟨_,hk,u,hu',hub⟩
  ·exact⟨b,h1,(vT (g':=g') (g:=g) rfl rfl).1 ho⟩
 have hrel:Rel B g' w ⟨CY k t l s.env,(k,.grow e t.cells (List.length l))::s.H,s.nb,s.N,s.np⟩ a:=by
  refine⟨fun i=> ?_,⟨fun i b hb=> ?_,fun i j bi bj b o hij h1 h2 o1 o2=> ?_,fun b o hS=> ?_,hr.heap.tab.1,fun i b bb oo hb ho=>by
   obtain⟨c1,k1,k2⟩:=howns i b bb oo hb ho
   exact hr.heap.tab.2 i c1 bb oo k1 k2⟩,hr.size,hr.nb,hr.def_,hr.np⟩
  ·rw[TZ]
   have h1:=hr.env i
   have h2:=U0 (i:=i) hok
   generalize lk s.env i=sl at h1 h2
   obtain⟨d,x⟩:=sl
   cases d with
   |own j m=>
    simp only[NY]
    split
    ·rename_i hj
     subst hj
     have hm:m=n:=h2 rfl
     subst hm
     refine⟨hlist _ h1.1.1 h1.1.2,?_⟩
     show g'.cur j (List.length l)=_
     rw[hl]
     exact h1.1.1
    ·exact xT le h1
   |_=>exact xT le h1
  ·rcases hget i b hb with⟨rfl,rfl⟩ |⟨hne,h1⟩
   ·refine⟨v,xs,by rw[hl];exact hv,by rw[hl];exact hown,fun m hm=>hnone m (by rw[hl] at hm;exact hm),fun b hb o hS=> ?_⟩
    rw[hl]
    rcases hS with hS|hS
    ·exact absurd hS (hseal b hb o)
    ·exact hS.2
   ·exact G8 (hr.heap.blk i b h1) le rfl rfl (fun _ _ _=>⟨rfl,rfl⟩) (fun _ _=>rfl) (fun bb o ho hS=>by
     rcases hS with hS|hS
     ·exact hS
     ·exact absurd (hown2 bb hS.1 o) (fun h5=>hr.heap.dis i k b _ bb o hne h1 hk ho h5)) (fun _ _ _ _ h=>h)
  ·obtain⟨c1,k1,k2⟩:=howns i bi b o h1 o1
   obtain⟨c2,k3,k4⟩:=howns j bj b o h2 o2
   exact hr.heap.dis i j c1 c2 b o hij k1 k3 k2 k4
  ·rcases hS with hS|hS
   ·exact hr.heap.sl b o hS
   ·exact J3 hown hS.1
 have hgood:Good A L g0 w0 g' w ((k,.grow e t.cells (List.length l))::s.H):=by
  refine⟨fun b o h0=>⟨.inl (hg.shut b o h0).1,(hg.shut b o h0).2⟩,⟨hg.fr.os,hg.fr.tape,hg.fr.output,hg.fr.size,hg.fr.blk,hg.fr.cell,fun b o hS=> ?_,hg.fr.shape⟩,fun i b bb o hb ho=> ?_,hg.J,hg.live,fun i u y us hi hb=> ?_,hg.cur⟩
  ·rcases hS with hS|hS
   ·exact hg.fr.new b o hS
   ·exact .inr (hg.perm k _ b o hk (hown2 b hS.1 o))
  ·obtain⟨c1,k1,k2⟩:=howns i b bb o hb ho
   exact hg.perm i c1 bb o k1 k2
  ·rcases hget i _ hb with⟨_,h1⟩ |⟨_,h1⟩
   ·cases h1
   ·exact hg.ty i u y us hi h1
 exact h ro hro A L g0 w0 g' a w B hB hrel hgood hn
@[go_sem] def U2 (k:Nat) (u0:Ty) (l:List u0.den) (e:Nat) (u:Ty):Option (Nat×Nat)→ Σ t:Ty,t.den
 |some (j,n)=>if j=k∧u=u0 then⟨.list u0,l⟩ else⟨.rl e u,some (j,n)⟩
 |none=>⟨.rl e u,none⟩
@[go_sem] def wX (k:Nat) (u0:Ty) (l:List u0.den):(t:Ty)→t.den→ Σ t:Ty,t.den
 | .rl e u,x=>U2 k u0 l e u x
 | .pair a b,x=>if (Ty.pair a b).pure=true then⟨.pair a b,x⟩ else⟨.pair (wX k u0 l a x.1).1 (wX k u0 l b x.2).1,((wX k u0 l a x.1).2,(wX k u0 l b x.2).2)⟩
 |t,x=>⟨t,x⟩
@[go_sem] def aBf (k n:Nat):Option (Nat×Nat)→Prop
 |some (j,m)=>j=k→m=n
 |none=>True
@[go_sem] def JM (k n:Nat):(t:Ty)→t.den→Prop
 | .rl _ _,x=>aBf k n x
 | .pair a b,x=>JM k n a x.1∧JM k n b x.2
 |_,_=>True
theorem JN {k:Nat}{u0:Ty}{l:List u0.den}: ∀{t:Ty}{x:t.den},(wX k u0 l t x).1.cells=t.cells
 | .rl e u,none=>rfl
 | .rl e u,some (j,n)=>by
  simp only[wX,U2]
  split<;>rfl
 | .pair a b,x=>by
  simp only[wX]
  split
  ·rfl
  ·simp only[Ty.cells,JN (t:=a),JN (t:=b)]
 | .bool,_=>rfl
 | .int _,_=>rfl
 | .str,_=>rfl
 | .list _,_=>rfl
 | .unit,_=>rfl
 | .ref,_=>rfl
 | .clo,_=>rfl
 | .mp,_=>rfl
 | .mref,_=>rfl
 | .fn,_=>rfl
def aBg (g:Gh) (w:World) (q: Σ t:Ty,t.den) (cs:List Value):Prop:=Rd g w q.1 q.2 cs
theorem U3 {g:Gh}{w:World}{k n:Nat}{u0:Ty}{l:List u0.den}(hk: ∀cs,CR g (some (k,n)) cs→Rd g w (.list u0) l cs): ∀{t:Ty}{x:t.den}{cs:List Value},JM k n t x→Rd g w t x cs→aBg g w (wX k u0 l t x) cs
 | .rl e u,none,_,_,r=>r
 | .rl e u,some (j,m),_,h,r=>by
  simp only[wX,U2]
  split
  ·rename_i hc
   obtain⟨rfl,rfl⟩:=hc
   have:m=n:=h rfl
   subst this
   exact hk _ r
  ·exact r
 | .pair a b,x,_,h,r=>by
  simp only[wX]
  split
  ·exact r
  ·obtain⟨c1,c2,e,r1,r2⟩:=r
   exact⟨c1,c2,e,U3 hk h.1 r1,U3 hk h.2 r2⟩
 | .bool,_,_,_,r=>r
 | .int _,_,_,_,r=>r
 | .str,_,_,_,r=>r
 | .list _,_,_,_,r=>r
 | .unit,_,_,_,r=>r
 | .ref,_,_,_,r=>r
 | .clo,_,_,_,r=>r
 | .mp,_,_,_,r=>r
 | .mref,_,_,_,r=>r
 | .fn,_,_,_,r=>r
theorem aBh {P:Program}{c:Code}{s:St}{Q:Ex→St→Prop}(k i:Nat) {e:TypeId}{t:Ty}{l:List t.den}{n:Nat}(hk:getH s.H k=some (.row e t l n)) {u:Ty}{x:u.den}{toks:List (Nat×Nat)}(hi:getH s.H i=some (.cells u x toks)) (hnp:s.np≤i)
  (hok:JL k n s.env) (hxo:JM k n u x)
  (h:Ev R P c ⟨CY k t l s.env,(i,.cells (wX k t l u x).1 (wX k t l u x).2 [])::(k,.grow e t.cells (List.length l))::s.H,s.nb,s.N,s.np⟩ Q):Ev R P c s Q:=by
 intro ro hro A L g0 w0 g a w B hB hr hg hn
 obtain⟨hl,v,xs,hv,hown,hF,hnone,hseal⟩:=hr.heap.blk k _ hk
 let g':Gh:={g with S:=fun b o=>g.S b o∨(v.ownBlock=some b∧o<n*t.cells)}
 have le:Le g w g' w:=⟨fun _ _ h=> .inl h,fun _ _ _=>rfl,fun _ _ h=>h,fun _ _ _ h=>h⟩
 have hown2: ∀b,v.ownBlock=some b→∀o,owns g k (.row e t l n) b o:=fun b hb o=>⟨v,hv,hb⟩
 have hlist: ∀u,g.cur k n=some u→((u= .slice none 0 0∧n=0)∨∃b cap,u= .slice (some ⟨b,0,none⟩) n cap∧n≤cap)→qQ g' w (.list t) l u:=by
  intro u hu hshape
  rw[hv] at hu
  obtain rfl:=Option.some.inj hu
  rcases hshape with⟨rfl,h0⟩ |⟨b,cap,rfl,hcap⟩
  ·have:l=[]:=List.eq_nil_of_length_eq_zero (by rw[hl,h0])
   subst this
   exact .inr ⟨rfl,none,0,rfl,Nat.le_refl _,.inl rfl⟩
  ·refine .inr ⟨rfl,some ⟨b,0,none⟩,cap,by rw[hl],by rw[hl];exact hcap,.inr ⟨b,0,rfl,GB (yX (fun _ _ h=>uC le h) hF) (fun j u hu=> ?_) (fun j hj=> ?_)⟩⟩
   ·have:=hown.cells (g:=b) rfl j u hu
    rwa [Addr.add_mid] at this
   ·right
    exact⟨rfl,by rw[hl] at hj;omega⟩
 have hik:i≠k:=fun e1=>by rw[e1,hk] at hi;cases hi
 obtain⟨p0,cs0,hp0,hR0,hra0,hth0,hns0,_⟩:=hr.heap.blk i _ hi
 let b':Blk:= .cells (wX k t l u x).1 (wX k t l u x).2 []
 let H':Heap:=(i,b')::(k,Blk.grow e t.cells (List.length l))::s.H
 have hget: ∀i' b,getH H' i'=some b→(i'=i∧b=b')∨(i'=k∧b= .grow e t.cells (List.length l))∨(i'≠k∧i'≠i∧getH s.H i'=some b):=by
  intro i' b hb
  simp only[H',getH] at hb
  split at hb
  ·rename_i e1;exact .inl ⟨e1.symm,(Option.some.inj hb).symm⟩
  ·rename_i e1
   split at hb
   ·rename_i e2;exact .inr (.inl ⟨e2.symm,(Option.some.inj hb).symm⟩)
   ·rename_i e2;exact .inr (.inr ⟨Ne.symm e2,Ne.symm e1,hb⟩)
 have howns: ∀i' b bb o,getH H' i'=some b→owns g' i' b bb o→∃b0,getH s.H i'=some b0∧owns g i' b0 bb o:=by
  intro i' b bb o hb ho
  rcases hget i' b hb with⟨rfl,rfl⟩ |⟨rfl,rfl⟩ |⟨_,_,h1⟩
  ·obtain⟨p,hp,e1,e2,e3⟩:=ho
   rw[JN] at e3
   exact⟨_,hi,p,hp,e1,e2,e3⟩
  ·obtain⟨u,hu,hub⟩:=ho
   have hu':g.cur i' (List.length l)=some u:=hu
   rw[hl] at hu'
   exact⟨_,hk,u,hu',hub⟩
  ·exact⟨b,h1,(vT (g':=g') (g:=g) rfl rfl).1 ho⟩
 have hrel:Rel B g' w ⟨CY k t l s.env,H',s.nb,s.N,s.np⟩ a:=by
  refine⟨fun j=> ?_,⟨fun i' b hb=> ?_,fun i' j bi bj b o hij h1 h2 o1 o2=> ?_,fun b o hS=> ?_,hr.heap.tab.1,fun i' b bb oo hb ho=>by
   obtain⟨c1,k1,k2⟩:=howns i' b bb oo hb ho
   exact hr.heap.tab.2 i' c1 bb oo k1 k2⟩,hr.size,hr.nb,hr.def_,hr.np⟩
  ·rw[TZ]
   have h1:=hr.env j
   have h2:=U0 (i:=j) hok
   generalize lk s.env j=sl at h1 h2
   obtain⟨d,x⟩:=sl
   cases d with
   |own j m=>
    simp only[NY]
    split
    ·rename_i hj
     subst hj
     have hm:m=n:=h2 rfl
     subst hm
     refine⟨hlist _ h1.1.1 h1.1.2,?_⟩
     show g'.cur j (List.length l)=_
     rw[hl]
     exact h1.1.1
    ·exact xT le h1
   |_=>exact xT le h1
  ·rcases hget i' b hb with⟨rfl,rfl⟩ |⟨rfl,rfl⟩ |⟨hne,_,h1⟩
   ·have hk2: ∀cs,CR g' (some (k,n)) cs→Rd g' w (.list t) l cs:=by
     rintro cs ⟨v1,q1,q2,q3⟩
     rw[q2]
     exact yJ rfl (hlist v1 q1 q3)
    refine⟨p0,cs0,hp0,U3 (n:=n) hk2 hxo (uC le hR0),hra0,?_,?_,fun _ _ hm=>by cases hm⟩
    ·rw[JN];exact⟨hth0.1,hth0.2⟩
    ·rw[JN]
     intro j hj hS
     rcases hS with hS|hS
     ·exact hns0 j hj hS
     ·exact hr.heap.dis i' k _ _ p0.1 (p0.2+j) hik hi hk ⟨p0,hp0,rfl,by omega,by omega⟩ (hown2 _ hS.1 _)
   ·refine⟨v,xs,by rw[hl];exact hv,by rw[hl];exact hown,fun m hm=>hnone m (by rw[hl] at hm;exact hm),fun b hb o hS=> ?_⟩
    rw[hl]
    rcases hS with hS|hS
    ·exact absurd hS (hseal b hb o)
    ·exact hS.2
   ·exact G8 (hr.heap.blk i' b h1) le rfl rfl (fun _ _ _=>⟨rfl,rfl⟩) (fun _ _=>rfl) (fun bb o ho hS=>by
     rcases hS with hS|hS
     ·exact hS
     ·exact absurd (hown2 bb hS.1 o) (fun h5=>hr.heap.dis i' k b _ bb o hne h1 hk ho h5)) (fun _ _ _ _ h=>h)
  ·obtain⟨c1,k1,k2⟩:=howns i' bi b o h1 o1
   obtain⟨c2,k3,k4⟩:=howns j bj b o h2 o2
   exact hr.heap.dis i' j c1 c2 b o hij k1 k3 k2 k4
  ·rcases hS with hS|hS
   ·exact hr.heap.sl b o hS
   ·exact J3 hown hS.1
 have hgood:Good A L g0 w0 g' w H':=by
  refine⟨fun b o h0=>⟨.inl (hg.shut b o h0).1,(hg.shut b o h0).2⟩,⟨hg.fr.os,hg.fr.tape,hg.fr.output,hg.fr.size,hg.fr.blk,hg.fr.cell,fun b o hS=> ?_,hg.fr.shape⟩,fun i' b bb o hb ho=> ?_,hg.J,hg.live,fun i' u' y us hi' hb=> ?_,hg.cur⟩
  ·rcases hS with hS|hS
   ·exact hg.fr.new b o hS
   ·exact .inr (hg.perm k _ b o hk (hown2 b hS.1 o))
  ·obtain⟨c1,k1,k2⟩:=howns i' b bb o hb ho
   exact hg.perm i' c1 bb o k1 k2
  ·rcases hget i' _ hb with⟨rfl,_⟩ |⟨_,h1⟩ |⟨_,_,h1⟩
   ·omega
   ·cases h1
   ·exact hg.ty i' u' y us hi' h1
 exact h ro hro A L g0 w0 g' a w B hB hrel hgood hn
theorem aBi {P:Program}{c:Code}{s:St}{Q:Ex→St→Prop}(k i:Nat) {e:TypeId}{t:Ty}{l:List t.den}{n:Nat}(hk:getH s.H k=some (.row e t l n)) {u:Ty}{x:u.den}{toks:List (Nat×Nat)}(hi:getH s.H i=some (.cells u x toks)) (hnp:s.np≤i)
  (hok:JL k n s.env) (hxo:JM k n u x) {u':Ty}{y':u'.den}(hz:wX k t l u x=⟨u',y'⟩)
  (h:Ev R P c ⟨CY k t l s.env,(i,.cells u' y' [])::(k,.grow e t.cells (List.length l))::s.H,s.nb,s.N,s.np⟩ Q):Ev R P c s Q:=
 aBh k i hk hi hnp hok hxo (by rw[hz];exact h)
def iter {σ ρ:Type}(f:σ→Option (σ⊕ρ)):Nat→σ→Option ρ
 |0,_=>none
 |n+1,x=>match f x with
  |none=>none
  |some (.inl y)=>iter f n y
  |some (.inr r)=>some r
theorem a4D {σ ρ:Type}{f:σ→Option (σ⊕ρ)}{r:ρ}: ∀{n:Nat}{x:σ},iter f n x=some r→iter f (n+1) x=some r
 |0,_,h=>by cases h
 |n+1,x,h=>by
  unfold iter at h⊢
  split
  ·rename_i e;rw[e] at h;cases h
  ·rename_i y e;rw[e] at h;exact a4D h
  ·rename_i r' e;rw[e] at h;exact h
theorem U4 {σ ρ:Type}{f:σ→Option (σ⊕ρ)}{r:ρ}{n:Nat}{x:σ}(h:iter f n x=some r): ∀m,iter f (n+m) x=some r
 |0=>h
 |m+1=>a4D (U4 h m)
theorem a4E {σ ρ:Type}{f:σ→Option (σ⊕ρ)}{r r':ρ}{n m:Nat}{x:σ}(h:iter f n x=some r) (h':iter f m x=some r'):r=r':=by
 have h1:=U4 h m
 have h2:=U4 h' n
 rw[Nat.add_comm] at h2
 exact Option.some.inj (h1.symm.trans h2)
noncomputable def JO {σ ρ:Type}(f:σ→Option (σ⊕ρ)) (x:σ):Option ρ:=open Classical in if h: ∃n r,iter f n x=some r then some (Classical.choose (Classical.choose_spec h)) else none
def aBj {ρ:Type}:Option ρ→Option ρ→Option ρ
 |some r,_=>some r
 |none,r=>r
noncomputable def p9 {σ ρ:Type}(f:σ→Option (σ⊕ρ)) (x:σ):Option ρ:=aBj (iter f 2000 x) (JO f x)
theorem aBk {σ ρ:Type}{f:σ→Option (σ⊕ρ)}{x:σ}{r:ρ}{n:Nat}(h:iter f n x=some r):JO f x=some r:=by
 have hx: ∃n r,iter f n x=some r:=⟨n,r,h⟩
 unfold JO
 rw[dif_pos hx,a4E h (Classical.choose_spec (Classical.choose_spec hx))]
theorem U5 {σ ρ:Type}{f:σ→Option (σ⊕ρ)}{x:σ}{r:ρ}{n:Nat}(h:iter f n x=some r):p9 f x=some r:=by
 unfold p9
 cases hi:iter f 2000 x with
 |some r'=>rw[a4E h hi];rfl
 |none=>exact aBk h
theorem NZ {σ ρ:Type}{f:σ→Option (σ⊕ρ)}{x:σ}{r:ρ}(h:p9 f x=some r): ∃n,iter f n x=some r:=by
 unfold p9 at h
 cases hi:iter f 2000 x with
 |some r'=>
  rw[hi] at h
  cases h
  exact⟨_,hi⟩
 |none=>
  rw[hi] at h
  have h:JO f x=some r:=h
  unfold JO at h
  split at h
  ·rename_i hx
   have:=Classical.choose_spec (Classical.choose_spec hx)
   rw[Option.some.inj h] at this
   exact⟨_,this⟩
  ·cases h
attribute [irreducible] p9
theorem AI {σ ρ:Type}{f:σ→Option (σ⊕ρ)}{x y:σ}(h:f x=some (.inl y)):p9 f x=p9 f y:=by
 cases hy:p9 f y with
 |some r=>
  obtain⟨n,hn⟩:=NZ hy
  exact U5 (n:=n+1) (by unfold iter;rw[h];exact hn)
 |none=>
  cases hx:p9 f x with
  |none=>rfl
  |some r=>
   obtain⟨n,hn⟩:=NZ hx
   cases n with
   |zero=>cases hn
   |succ n=>
    unfold iter at hn
    rw[h] at hn
    rw[U5 hn] at hy
    cases hy
theorem sO {σ ρ:Type}{f:σ→Option (σ⊕ρ)}{x:σ}{r:ρ}(h:f x=some (.inr r)):p9 f x=some r:=U5 (n:=1) (by unfold iter;rw[h])
def kS {σ ρ:Type}(f:σ→Option (σ⊕ρ)) (y:ρ) (n:Nat):σ⊕ρ→Prop
 | .inl x=>iter f n x=some y
 | .inr r=>r=y
def qL {σ ρ:Type}(enc:σ→St) (f:σ→Option (σ⊕ρ)) (y:ρ) (n:Nat) (Q:Ex→St→Prop):Ex→St→Prop
 | .normal,s=> ∃(k:Keep) (x:σ),s.keep k=enc x∧iter f n x=some y
 | .exit j,s=>Q (.exit j) s
 | .ret,s=>Q .ret s
theorem aBm {P:Program}{c:Code}{s:St}{Q:Ex→St→Prop}(I:Nat→St→Prop) (h0: ∃(k:Keep) (n:Nat),I n (s.keep k))
  (h: ∀n s,I n s→Ev R P c s (fun e s'=>match e with| .normal=> ∃(k:Keep) (m:Nat),m<n∧I m (s'.keep k) |e=>Q e s')):Ev R P (.loop c) s Q:=by
 intro ro hro A L g0 w0 g a w B hB hr hg hn
 obtain⟨k,n0,h0⟩:=h0
 obtain⟨g1,k1,k2,k3,_⟩:=BN hr hg hn k
 let R:Act→World→Nat→Prop:=fun a w n=> ∃g s,I n s∧Rel B g w s a∧Good A L g0 w0 g w s.H∧s.np=L.length
 refine wpIn_loop (fun a w=> ∃n,R a w n) (fun a w=>JI (R a w)) ⟨_,g1,s.keep k,h0,k1,k2,k3⟩ (fun a w hI=> ?_)
 obtain⟨⟨g2,s2,i1,i3,i4,i5⟩,_⟩:=NU hI
 refine wpIn_mono (h _ s2 i1 ro hro A L g0 w0 g2 a w B hB i3 i4 i5) fun e a' w' hp=> ?_
 obtain⟨e',g',s',h1,h2,h3,h4,h5⟩:=hp
 cases e<;>simp only[AH,Option.some.injEq] at h1
 case normal=>
  subst h1
  obtain⟨k',m,j1,j2⟩:=h2
  obtain⟨g3,l1,l2,l3,_⟩:=BN h3 h4 h5 k'
  have hR:R a' w' m:=⟨g3,s'.keep k',j2,l1,l2,l3⟩
  exact⟨⟨_,hR⟩,Nat.lt_of_le_of_lt ((NU ⟨_,hR⟩).2 _ hR) j1⟩
 case exit id=>subst h1;exact⟨.exit id,g',s',rfl,h2,h3,h4,h5⟩
 case ret=>subst h1;exact⟨.ret,g',s',rfl,h2,h3,h4,h5⟩
 all_goals cases h1
theorem wG {P:Program}{c:Code}{s:St}{Q:Ex→St→Prop}{σ ρ:Type}{f:σ→Option (σ⊕ρ)}{x0:σ}{y:ρ}(hy:p9 f x0=some y) (enc:σ→St) (k:Keep) (h0:s.keep k=enc x0)
  (round: ∀x w n,f x=some w→kS f y n w→Ev R P c (enc x) (qL enc f y n Q)):Ev R P (.loop c) s Q:=by
 obtain⟨n,hn⟩:=NZ hy
 refine aBm (fun n s=> ∃x,s=enc x∧iter f n x=some y) ⟨k,n,x0,h0,hn⟩ fun n s ⟨x,e,hx⟩=> ?_
 subst e
 cases n with
 |zero=>cases hx
 |succ n=>
  unfold iter at hx
  refine aBc (Q':=qL enc f y n Q) ?_ (fun e s' hq=> ?_)
  ·split at hx
   ·cases hx
   ·rename_i x' e;exact round x _ n e hx
   ·rename_i r e;exact round x _ n e (Option.some.inj hx)
  ·cases e with
   |normal=>obtain⟨k,x',h1,h2⟩:=hq;exact⟨k,n,by omega,x',h1,h2⟩
   |exit j=>exact hq
   |ret=>exact hq
def qX (j:Nat) (X:St→Prop) (Q:Ex→St→Prop):Ex→St→Prop
 | .normal,s=>Q .normal s
 | .exit i,s=>if i=j then∃k:Keep,X (s.keep k) else Q (.exit i) s
 | .ret,s=>Q .ret s
theorem wH {P:Program}{c:Code}{s:St}{Q:Ex→St→Prop}(j:Nat) (X:St→Prop) (h:Ev R P c s (qX j X Q)) (J: ∀s',X s'→Q (.exit j) s'):Ev R P c s Q:=by
 intro ro hro A L g0 w0 g a w B hB hr hg hn
 refine wpIn_mono (h ro hro A L g0 w0 g a w B hB hr hg hn) fun x a' w' hp=> ?_
 obtain⟨e,g',s',h1,h2,h3,h4,h5⟩:=hp
 cases e with
 |normal=>exact⟨.normal,g',s',h1,h2,h3,h4,h5⟩
 |ret=>exact⟨.ret,g',s',h1,h2,h3,h4,h5⟩
 |exit i=>
  have h2:(if i=j then∃k:Keep,X (s'.keep k) else Q (.exit i) s'):=h2
  by_cases hij:i=j
  ·rw[if_pos hij] at h2
   obtain⟨k,hk⟩:=h2
   obtain⟨g1,k1,k2,k3,_⟩:=BN h3 h4 h5 k
   exact⟨.exit i,g1,s'.keep k,h1,by rw[hij];exact J _ hk,k1,k2,k3⟩
  ·rw[if_neg hij] at h2
   exact⟨.exit i,g',s',h1,h2,h3,h4,h5⟩
section
variable {Q:Ex→St→Prop}{s:St}{j i:Nat}{X:St→Prop}{σ ρ:Type}{enc:σ→St}{f:σ→Option (σ⊕ρ)}{y:ρ}{n:Nat}
theorem wY (h:Q .ret s):qX j X Q .ret s:=h
theorem wI (h: ∃k:Keep,X (s.keep k)):qX j X Q (.exit j) s:=by show (if j=j then _ else _);rw[if_pos rfl];exact h
theorem tM (h: ∃(k:Keep) (x:σ),s.keep k=enc x∧iter f n x=some y):qL enc f y n Q .normal s:=h
theorem wJ (h:Q (.exit j) s):qL enc f y n Q (.exit j) s:=h
theorem wZ (h:Q .ret s):qL enc f y n Q .ret s:=h
end
def qN (X:St→Prop) (Q:Ex→St→Prop):Ex→St→Prop
 | .normal,s=> ∃k:Keep,X (s.keep k)
 | .exit j,s=>Q (.exit j) s
 | .ret,s=>Q .ret s
theorem zU {P:Program}{c:Code}{s:St}{Q:Ex→St→Prop}(X:St→Prop) (h:Ev R P c s (qN X Q)) (J: ∀s',X s'→Q .normal s'):Ev R P c s Q:=by
 intro ro hro A L g0 w0 g a w B hB hr hg hn
 refine wpIn_mono (h ro hro A L g0 w0 g a w B hB hr hg hn) fun x a' w' hp=> ?_
 obtain⟨e,g',s',h1,h2,h3,h4,h5⟩:=hp
 cases e with
 |exit j=>exact⟨.exit j,g',s',h1,h2,h3,h4,h5⟩
 |ret=>exact⟨.ret,g',s',h1,h2,h3,h4,h5⟩
 |normal=>
  obtain⟨k,hk⟩:=h2
  obtain⟨g1,k1,k2,k3,_⟩:=BN h3 h4 h5 k
  exact⟨.normal,g1,s'.keep k,h1,J _ hk,k1,k2,k3⟩
section
variable {Q:Ex→St→Prop}{s:St}{j:Nat}{X:St→Prop}
theorem sP (h: ∃k:Keep,X (s.keep k)):qN X Q .normal s:=h
end
def val {ρ:Type}[Inhabited ρ] (x:Option ρ):ρ:=x.getD default
theorem z6 {ρ:Type}[Inhabited ρ] (x:ρ):val (some x)=x:=rfl
theorem qI {ρ:Type}[Inhabited ρ] {x:Option ρ}{y:ρ}(h:x=some y):val x=y:=by rw[h];rfl
theorem pS {ρ:Type}{x:Option ρ}{y:ρ}(h:x=some y):x.isSome=true:=by rw[h];rfl
theorem p6 {ρ:Type}{c:Prop}[Decidable c] {x:Option ρ}{r:ρ}(h:(if c then x else none)=some r):c∧x=some r:=by
 by_cases hc:c
 ·rw[if_pos hc] at h;exact⟨hc,h⟩
 ·rw[if_neg hc] at h;cases h
theorem oX {σ ρ:Type}{x:Option σ}{k:σ→Option ρ}{r:ρ}(h:x.bind k=some r): ∃y,x=some y∧k y=some r:=by
 cases x with
 |none=>cases h
 |some y=>exact⟨y,rfl,h⟩
theorem aBn {ρ:Type}{b:Bool}{x y:ρ}{r:ρ}(h:(if b=true then x else y)=r) (hb:b=true):x=r:=by rw[if_pos hb] at h;exact h
theorem aBo {ρ:Type}{b:Bool}{x y:ρ}{r:ρ}(h:(if b=true then x else y)=r) (hb:b=false):y=r:=by rw[hb,if_neg (by decide)] at h;exact h
def qD {σ ρ:Type}(x:Option (σ⊕ρ)) (k:σ→Option ρ):Option ρ:=x.bind fun y=>match y with
 | .inl v=>k v
 | .inr r=>some r
theorem x9 {σ ρ:Type}{x:Option (σ⊕ρ)}{k:σ→Option ρ}{r:ρ}(h:qD x k=some r): ∃y,x=some y∧(match y with| .inl v=>k v| .inr r=>some r)=some r:=oX h
def pH {σ ρ:Type}(x:Option σ) (k:σ→Option ρ):Option ρ:=x.bind k
def pN {σ ρ:Type}(x:σ) (k:σ→ρ):ρ:=k x
theorem aBp {σ ρ:Type}{x:σ}{k:σ→ρ}{r:ρ}(h:pN x k=r): ∃y,x=y∧k y=r:=⟨x,rfl,h⟩
theorem rD {x:Bool}(h:x=true):(x==true)=true:=by rw[h];rfl
theorem U6 {G x:Bool}(hG:G=true) (h:x=true):(G&&(x==true))=true:=by rw[hG,h];rfl
theorem CZ {G x:Bool}(hG:G=true) (h:x=false):(G&&(x==false))=true:=by rw[hG,h];rfl
theorem AJ {x:Bool}(h:x=false):(x==false)=true:=by rw[h];rfl
section
variable {P:Program}{T:Types}{Γ:Ctx}(E:Env P T Γ) {s:St}{Q:Ex→St→Prop}
include E
theorem a4F {id:Nat}{ops:Array Oper}{a:Acc}(h:sW T Γ ops.toList ops.toList (some ⟨s,[],[]⟩)=some a) (hp:pL a.side) (hq:Q .normal a.s):Ev R P (.region id ops false) s Q:=
 a4A E.T E.Γ E.m (a9n h hp hq)
theorem a4G {id:Nat}{ops:Array Oper}{a:Acc}(h:sW T Γ ops.toList ops.toList (some ⟨s,[],[]⟩)=some a) (hf:AC ops s.nb a.es.reverse=true) (hp:pL a.side) (hq:Q .normal a.s):Ev R P (.region id ops true) s Q:=
 a4A E.T E.Γ E.m (a9o h hf hp hq)
end
end Go.Proofs.YtfchbnahjcdiiaaGreatDoor.Vc
namespace Go.Proofs.YtfchbnahjcdiiaaGreatDoor.Vc
open Go.RowKit
set_option linter.unusedSectionVars false
variable {R:Bool}
attribute [go_sem] Option.map_some Option.map_none
@[go_sem] theorem aF0 {H:List (Nat×Blk)}{ps:List PK}{b:List Slot}{a:Option Pass}:u1 H ps ([]++b) a=u1 H ps b a:=rfl
@[go_sem] theorem aF1 {H:List (Nat×Blk)}{ps:List PK}{x:Slot}{l b:List Slot}{a:Option Pass}:u1 H ps ((x::l)++b) a=u1 H ps (x::(l++b)) a:=rfl
@[go_sem] def a4H:Option Slot→Option (List Slot)→Option (List Slot)
 |some s,some l=>some (s::l)
 |_,_=>none
@[go_sem] def a4I:Option Eff→Option Slot
 |some e=>some e.slot
 |none=>none
@[go_sem] def O0 (H:List (Nat×Blk)):Option TI→Slot→Option Eff
 |some ti,(.val .ref (some (i,off)),_)=>IP ti.ty i off (getH H i)
 |_,_=>none
@[go_sem] def JP (T:Types) (s:St) (m:List (Nat×Nat)):Nat×Option TypeId→Option Slot
 |(t,none)=>some (w7 m (lk s.env t))
 |(t,some ty)=>(a4I (O0 s.H (pE T ty) (lk s.env t))).map (w7 m)
@[go_sem] def D0 (T:Types) (s:St) (m:List (Nat×Nat)):List (Nat×Option TypeId)→Option (List Slot)
 |[]=>some []
 |q::r=>a4H (JP T s m q) (D0 T s m r)
def z7:Nat×Option TypeId→ResultVar
 |(t,none)=> .tmp t
 |(t,some ty)=> .cell t ty
@[go_sem] def zV:Nat→Nat→List (Nat×Blk)→List (Nat×Blk)
 |0,_,H=>H
 |n+1,i,[]=>(i,.dead)::zV n (i+1) []
 |n+1,i,(j,b)::H=>if j=i then(j,b)::zV n (i+1) H else(i,.dead)::zV n (i+1) ((j,b)::H)
theorem EN: ∀{n i:Nat}{H:List (Nat×Blk)}{k:Nat}{b:Blk},getH (zV n i H) k=some b→getH H k=some b∨b= .dead
 |0,_,_,_,_,h=> .inl h
 |n+1,i,[],k,b,h=>by
  simp only[zV,getH] at h
  split at h
  ·exact .inr (Option.some.inj h).symm
  ·exact EN h
 |n+1,i,(j,c)::H,k,b,h=>by
  unfold zV at h
  split at h
  ·simp only[getH] at h⊢
   split at h
   ·rename_i e;rw[if_pos e];exact .inl h
   ·rename_i e;rw[if_neg e];exact EN h
  ·simp only[getH] at h
   split at h
   ·exact .inr (Option.some.inj h).symm
   ·exact EN h
theorem HeapOk.pad {g:Gh}{w:World}{H:Heap}(h:HeapOk g w H) (n i:Nat):HeapOk g w (zV n i H):=by
 have own: ∀{k blk b o},getH (zV n i H) k=some blk→owns g k blk b o→getH H k=some blk:=fun hg ho=>by
  rcases EN hg with h1|h1
  ·exact h1
  ·subst h1;exact ho.elim
 refine⟨fun k b hb=> ?_,fun i j bi bj b o hij h1 h2 o1 o2=>h.dis i j bi bj b o hij (own h1 o1) (own h2 o2) o1 o2,h.sl,h.tab.1,fun k blk b o h1 h2=>h.tab.2 k blk b o (own h1 h2) h2⟩
 rcases EN hb with h1|h1
 ·exact h.blk k b h1
 ·subst h1;trivial
theorem Good.pad {A:Nat→Nat→Prop}{L:List Blk}{g0 g:Gh}{w0 w:World}{H:Heap}(h:Good A L g0 w0 g w H) (n i:Nat):Good A L g0 w0 g w (zV n i H):=by
 refine⟨h.shut,h.fr,fun k blk b o hg ho=> ?_,h.J,h.live,fun k u y us hk hg=> ?_,h.cur⟩
 ·rcases EN hg with h1|h1
  ·exact h.perm k blk b o h1 ho
  ·subst h1;exact ho.elim
 ·rcases EN hg with h1|h1
  ·exact h.ty k u y us hk h1
  ·cases h1
def a4J (T:Types) (ts:List (Nat×Option TypeId)) (r:Ret):Ex→St→Prop
 | .exit _,_=>False
 |_,s=> ∃m:List (Nat×Nat),uA s.np m=true∧zV (pF r.H) 0 (s.keep ⟨[],m⟩).H=enumH 0 r.H∧D0 T s m ts=some r.ret
section
variable {P:Program}{o:Oper}{a:Act}{g:Gh}{w:World}{H:Heap}{T:Types}(hT:TypesOk P T) (hH:HeapOk g w H)
include hT hH
theorem aBq {t:TypeId}{vx:Value}{sx:Slot}(hx:RdS g w sx vx) {e:Eff}(hr:O0 H (pE T t) sx=some e): ∃ad v,vx= .pointer (some ad)∧(loadVar t ad).run P w= .ok v w∧RdS g w e.slot v:=by
 generalize hs:pE T t=ot at hr
 replace hx:=hx.1
 unfold O0 at hr
 split at hr
 ·rename_i ti i off k
  have hty:=qK hT hs
  generalize hb:getH H i=ob at hr
  unfold IP at hr
  split at hr
  ·rename_i u z toks
   generalize hga:pA ti.ty u z off=oy at hr
   cases oy with
   |none=>cases hr
   |some y=>
    cases hr
    obtain⟨p,hp,hv⟩:=wV hx
    obtain⟨p',cs,hp',hR,hra,_,_,htk⟩:=hH.blk i _ hb
    rw[hp] at hp'
    obtain rfl:=Option.some.inj hp'
    obtain⟨c1,c2,c3,rfl,rfl,hR2⟩:=AD hR hga
    obtain⟨v,h1,h2,h3⟩:=N7 hT hH hty (J9 hT hH hra) hR2
    refine⟨_,v,hv,by simpa[Instr.loadAt,Instr.sureAddr] using h1,h2,?_⟩
    obtain⟨ty,el,by',ar,ls⟩:=ti
    cases ty with
    |list u'=>
     simp only[BA]
     generalize htt:tQ toks c1.length=ok
     cases ok with
     |none=>trivial
     |some k=>
      obtain⟨u2,l,v',g1,g2,g3⟩:=htk _ _ (SO hT hH htt)
      obtain⟨heq,hl⟩:=a2I hT hH g1 hga rfl
      injection heq with heq'
      subst heq'
      have hlen:=q8 hR2
      obtain⟨v2,rfl⟩:=List.length_eq_one_iff.1 hlen
      have e2:v'=v2:=by
       have e:(c1++[v2]++c3)[c1.length]? =some v2:=by simp
       rw[e] at g2
       exact(Option.some.inj g2).symm
      have e3:v=v2:=by
       have h4:=yJ rfl h2
       have hone:=xU h4 v (by simp)
       have:v.cells= #[v]:=by cases v<;>first|rfl|(simp [Value.oneCell'] at hone)
       rw[this] at h3
       simpa using h3
      subst e2
      subst e3
      have e4:(y:List u'.den)=l:=hl
      subst e4
      exact g3
    |_=>trivial
  ·cases hr
 ·cases hr
end
def EO (tmps:Array Value) (q:Nat×Option TypeId):Sem Value:=match z7 q with
 | .tmp t=>pure (tmps.getD t undef)
 | .cell a t=>do loadVar t (←asAddr (tmps.getD a undef))
theorem a4K {P:Program}{T:Types}(hT:TypesOk P T) {B:Nat}{g:Gh}{w:World}{s:St}{a:Act}{m:List (Nat×Nat)}(hk:uA s.np m=true) (hr:Rel B g w s a): ∀{ts:List (Nat×Option TypeId)}{l:List Slot},D0 T s m ts=some l→
  ∃vs:List Value,(ts.mapM (EO a.tmps)).run P w= .ok vs w∧ArgsOk (rP g s.np m) w l vs
 |[],l,h=>by
  simp only[D0,Option.some.injEq] at h
  subst h
  exact⟨[],by simp,rfl⟩
 |q::ts,l,h=>by
  simp only[D0] at h
  obtain⟨s1,l1,e1,e2,rfl⟩: ∃s1 l1,JP T s m q=some s1∧D0 T s m ts=some l1∧l=s1::l1:=by
   cases h1:JP T s m q<;>cases h2:D0 T s m ts<;>rw[h1,h2] at h<;>simp [a4H] at h
   exact⟨_,_,rfl,rfl,h.symm⟩
  obtain⟨vs,v1,v2⟩:=a4K hT hk hr e2
  obtain⟨v,w1,w2⟩: ∃v,(EO a.tmps q).run P w= .ok v w∧RdS (rP g s.np m) w s1 v:=by
   obtain⟨t,oty⟩:=q
   cases oty with
   |none=>
    simp only[JP,Option.some.injEq] at e1
    subst e1
    exact⟨_,by simp [EO,z7],NQ hk (hr.env t)⟩
   |some ty=>
    simp only[JP] at e1
    cases he:O0 s.H (pE T ty) (lk s.env t) with
    |none=>rw[he] at e1;cases e1
    |some e=>
     rw[he] at e1
     simp only[a4I,Option.map_some,Option.some.injEq] at e1
     subst e1
     obtain⟨ad,v,hv,hl,hs⟩:=aBq hT hr.heap (hr.env t) he
     exact⟨v,by simp only[EO,z7,hv,asAddr,Sem.run_bind,Sem.run_pure,Result.andThen_ok,hl],NQ hk hs⟩
  exact⟨v::vs,by simp only[List.mapM_cons,Sem.run_bind,w1,Result.andThen_ok,v1,Sem.run_pure],v,vs,rfl,w2,v2⟩
def GL (tmps:Array Value):ResultVar→Sem Value
 | .tmp t=>pure (tmps.getD t undef)
 | .cell a t=>do loadVar t (←asAddr (tmps.getD a undef))
theorem aBr {P:Program}{fn:Func}{w:World}{tmps:Array Value}{ts:List (Nat×Option TypeId)}(h:fn.results.toList=ts.map z7) {vs:List Value}(hv:(ts.mapM (EO tmps)).run P w= .ok vs w):(results fn tmps).run P w= .ok (TY vs) w:=by
 obtain⟨rs,hrs⟩: ∃rs,fn.results=⟨rs⟩:=⟨fn.results.toList,rfl⟩
 have hm:rs=ts.map z7:=by rw[hrs] at h;exact h
 have key:Sem.run P (((ts.map z7).toArray).mapM (GL tmps)) w=Result.ok vs.toArray w:=by
  rw[List.mapM_toArray,List.mapM_map]
  have e:GL tmps∘z7=EO tmps:=by
   funext q
   obtain⟨t,o⟩:=q
   cases o<;>rfl
  have e2:(fun q=>GL tmps (z7 q))=EO tmps:=e
  show Sem.run P (List.mapM (fun q=>GL tmps (z7 q)) ts>>=fun l=>pure l.toArray) w=_
  rw[e2,Sem.run_bind,hv]
  rfl
 have hu:results fn tmps=(fn.results.mapM (GL tmps) >>=fun vs=>pure (if h:vs.size=1 then vs[0] else .tuple vs)):=by
  unfold results
  congr 2
 rw[hu,hrs,hm,Sem.run_bind]
 have key2:Sem.run P (Array.mapM (GL tmps) (⟨ts.map z7⟩:Array ResultVar)) w=Result.ok vs.toArray w:=key
 rw[key2]
 simp only[Result.andThen_ok,Sem.run_pure]
 match vs with
 |[]=>rfl
 |[v]=>rfl
 |v::u::l=>simp [TY]
theorem aBs {P:Program}{T:Types}(hT:TypesOk P T) {f:FuncId}{fn:Func}{c:Code}{C:List Slot→List Blk→Option Ret}{ts:List (Nat×Option TypeId)}(hf:P.funcs[f]? =some fn) (hb:fn.body=some c) {N:Nat}(hN:fn.ntmps=N)
  (hcall: ∀args w,(callFunc f args).run P w= .ok (.enter f args) w) (hres:fn.results.toList=ts.map z7)
  (h: ∀args L r,C args L=some r→(∀p∈r.side,p)→pU L→args.length≤N∧JJ (sI 0 L) args∧JK (sI 0 L) L∧Ev false P c ⟨pR 0 args,enumH 0 L,pF L,N,pF L⟩ (a4J T ts r)):yK P f C:=by
 subst hN
 refine⟨hcall,fun g w args vals L r hH ha hC hs=> ?_⟩
 obtain⟨h1,h2,h3,h4⟩:=h args L r hC hs (a4t fun i b hb=>⟨i,hH.blk i b (by rw[uK];exact hb)⟩)
 obtain⟨hr,hent⟩:=a4x hH ha h2 h3 h1
 have hsub: ∀b o,ownsAny (rP g 0 (sI 0 L)) (enumH 0 L) b o→ownsAny g (enumH 0 L) b o:=fun b o ⟨i,blk,hg,ho⟩=>⟨i,blk,hg,(hent i blk (by rw[←uK];exact hg)).2.2 b o ho⟩
 have hgood:Good (ownsAny (rP g 0 (sI 0 L)) (enumH 0 L)) L (rP g 0 (sI 0 L)) w (rP g 0 (sI 0 L)) w (enumH 0 L):=by
  refine⟨fun b o h=>⟨h,rfl⟩,Fr.refl _ _ _,fun i blk b o hg ho=> .inr ⟨i,blk,hg,ho⟩,fun _ _ _ h=>h,fun i hi=> ?_,fun i u y us _ hg=>⟨y,us,by rw[←uK];exact hg⟩,fun _ _ _ _ h=>h⟩
  have hL:L[i]? =some L[i]:=by simp
  obtain⟨_,hbk,_⟩:=hent i L[i] hL
  have hnd:=(EM h3 L[i] (List.getElem_mem hi)).2
  generalize L[i]=blk at hbk hnd
  cases blk with
  |cells t x ts=>obtain⟨p,cs,hp,_⟩:=hbk;exact .inl ⟨p,hp⟩
  |grow e c n=>obtain⟨v,xs,hv,_⟩:=hbk;exact .inr ⟨n,v,hv⟩
  |row e t l n=>obtain⟨_,v,xs,hv,_⟩:=hbk;exact .inr ⟨n,v,hv⟩
  |map k v l=>obtain⟨p,es,cl,hp,_⟩:=hbk;exact .inl ⟨p,hp⟩
  |iter s n=>obtain⟨p,hp,_⟩:=hbk;exact .inl ⟨p,hp⟩
  |dead=>exact absurd rfl hnd
 refine callsIn_wide.1 (callsIn_of_wp_marks (F:=Fence.wide) (n:=0) hf hb trivial (wpIn_mono (h4 none rfl _ _ _ _ _ _ _ _ (Nat.le_refl _) hr hgood (NX L)) fun x a' w' hp=> ?_) rfl)
 obtain⟨e,g',s',e1,e2,e3,e4,e5⟩:=hp
 have tP: ∀m:List (Nat×Nat),uA s'.np m=true→zV (pF r.H) 0 (s'.keep ⟨[],m⟩).H=enumH 0 r.H→D0 T s' m ts=some r.ret→LeavesInM Fence.wide 0 P fn a'.tmps (fun e w'=> ∃v' g',e= .returned v'∧RetOk g w L r g' w' v') a'.defers .returning w':=by
  intro m hk k1 k2
  refine a4z a'.defers w' e3 e4 (fun w1 e3 e4=> ?_)
  obtain⟨l1,l2,l3,_⟩:=TL e3 e4 e5 ⟨[],m⟩ hk
  replace l2:=l2.pad (pF r.H) 0
  rw[k1] at l2
  obtain⟨vs,q1,q2⟩:=a4K hT hk e3 k2
  have q3:=aBr (P:=P) (w:=w1) (tmps:=a'.tmps) hres q1
  refine⟨_,q3,_,_,rfl,⟨fun b o hb=>l2.shut b o hb,by rw[←k1];exact l1.heap.pad _ _,?_,?_,fun i blk b o hi ho=> ?_,fun i t x us hi=> ?_,fun i t x us u y vs hi hr=> ?_,fun i p hi hp=>l2.J i p hi ((wW NV (GK.2 ⟨rfl,Nat.zero_le _,by omega⟩)).1.trans hp),fun i n u hi hu=>l2.cur i n u hi ((congrFun (wW NV (GK.2 ⟨rfl,Nat.zero_le _,by omega⟩)).2 n).trans hu)⟩⟩
  ·unfold RetVals
   split
   ·rename_i s hs
    rw[hs] at q2
    obtain⟨v,vs',hv,h5,h6⟩:=q2
    rw[hv,show vs'=[] from h6]
    exact h5
   ·rename_i hne
    refine⟨_,?_,q2⟩
    unfold TY
    split
    ·rename_i v hv
     exfalso
     have:=(NW q2).1
     cases hq:r.ret with
     |nil=>rw[hq] at this;simp at this
     |cons s l=>cases l with
      |nil=>exact hne s hq
      |cons _ _=>rw[hq] at this;simp at this
    ·rfl
  ·exact⟨l2.fr.os,l2.fr.tape,l2.fr.output,l2.fr.size,fun b hb hA=>l2.fr.blk b hb (fun o ho=>hA o (hsub b o ho)),fun b o hb hA=>l2.fr.cell b o hb (fun ho=>hA (hsub b o ho)),fun b o hS=>(l2.fr.new b o hS).imp id (Or.imp id (hsub b o)),fun b s hs=>(l2.fr.shape b s hs).imp id fun h o=>hsub b o (h o)⟩
  ·exact(l2.perm i blk b o (by rw[uK];exact hi) ho).imp id (hsub b o)
  ·obtain⟨j1,⟨p,cs,j2,_⟩,_⟩:=hent i _ hi
   have hil:i<L.length:=(List.getElem?_eq_some_iff.1 hi).1
   rw[l2.J i p hil j2,←j1,j2]
  ·have hil:i<L.length:=(List.getElem?_eq_some_iff.1 hi).1
   obtain⟨x',ts',h5⟩:=l2.ty i u y vs hil (by rw[uK];exact hr)
   rw[hi] at h5
   simp only[Option.some.injEq,Blk.cells.injEq] at h5
   exact h5.1.symm
 cases x<;>simp only[AH,Option.some.injEq] at e1
 case normal=>subst e1;obtain⟨k,k0,k1,k2⟩:=e2;exact tP k k0 k1 k2
 case ret=>subst e1;obtain⟨k,k0,k1,k2⟩:=e2;exact tP k k0 k1 k2
 case exit id=>subst e1;exact e2.elim
 all_goals cases e1
open Classical in
noncomputable def pV {V:Type}(p:V→List Slot) (q:V→List Blk) (R:V→Ret) (a:List Slot) (L:List Blk):Option Ret:=
 if h: ∃v,p v=a∧q v=L then some (R h.choose) else none
theorem aBt {V:Type}{p:V→List Slot}{q:V→List Blk}{R:V→Ret}{a:List Slot}{L:List Blk}{r:Ret}(h:pV p q R a L=some r): ∃v,p v=a∧q v=L∧R v=r:=by
 unfold pV at h
 split at h
 ·rename_i e
  exact⟨e.choose,e.choose_spec.1,e.choose_spec.2,Option.some.inj h⟩
 ·cases h
theorem q6 {V:Type}{p:V→List Slot}{q:V→List Blk}{R:V→Ret}(inj: ∀v v',p v=p v'→q v=q v'→v=v') (v:V):pV p q R (p v) (q v)=some (R v):=by
 have h: ∃u,p u=p v∧q u=q v:=⟨v,rfl,rfl⟩
 unfold pV
 rw[dif_pos h,inj _ v h.choose_spec.1 h.choose_spec.2]
theorem a4L: ∀{l:List Prop},(∀p∈l,p)→pL l
 |[],_=>trivial
 |[p],h=>h p (by simp)
 |p::q::r,h=>⟨h p (by simp),a4L (l:=q::r) fun x hx=>h x (List.mem_cons_of_mem _ hx)⟩
def pO (P:Program) (x:Nat×Sig):Prop:=yK P x.1 x.2.C∧∀F,x.2.row=some F→NB P x.1 F
theorem q7 {P:Program}{T:Types}{Γ:Ctx}(hE:Env P T Γ) {f:FuncId}{fn:Func}{c:Code}{V:Type}{p:V→List Slot}{q:V→List Blk}{R:V→Ret}{ps:List PK}{gs:List (Nat×Nat×PK)}{same:List Nat}{ts:List (Nat×Option TypeId)}(hf:P.funcs[f]? =some fn) (hb:fn.body=some c) {N:Nat}(hN:fn.ntmps=N)
  (hres:fn.results.toList=ts.map z7) (hcall: ∀args w,(callFunc f args).run P w= .ok (.enter f args) w)
  (h: ∀v,pL (R v).side→pU (q v)→Ev false P c ⟨pR 0 (p v),enumH 0 (q v),pF (q v),N,pF (q v)⟩ (a4J T ts (R v)))
  (h1: ∀v,Nat.ble (p v).length N=true:=by intro _;rfl)
  (h2: ∀v,JJ (sI 0 (q v)) (p v):=by intro _;repeat (first|exact trivial|refine And.intro rfl ?_))
  (h3: ∀v,JK (sI 0 (q v)) (q v):=by intro _;repeat (first|exact trivial|refine And.intro rfl ?_)):pO P (f,⟨ps,pV p q R,gs,same,none⟩):=
 ⟨aBs hE.T hf hb hN hcall hres fun args L r hC hs hr=>by
  obtain⟨v,rfl,rfl,rfl⟩:=aBt hC
  exact⟨Nat.le_of_ble_eq_true (h1 v),h2 v,h3 v,h v (a4L hs) hr⟩,fun _ h=>by cases h⟩
@[reducible] def i64 (n:Int):Prop:= -9223372036854775808≤n∧n≤9223372036854775807
@[go_sem] def pM:List (Nat×Sig)→Ctx
 |[],_=>none
 |(k,s)::r,f=>if k=f then some s else pM r f
theorem pZ {P:Program}:CtxOk P (pM []):=fun _ _ h=>by cases h
theorem pI {P:Program}{x:Nat×Sig}{r:List (Nat×Sig)}(h:pO P x) (hr:CtxOk P (pM r)):CtxOk P (pM (x::r)):=fun f s hs=>by
 obtain⟨k,y⟩:=x
 simp only[pM] at hs
 split at hs
 ·rename_i e
  subst e
  cases hs
  exact h
 ·exact hr f s hs
section
variable {P:Program}{T:Types}{Γ:Ctx}(E:Env P T Γ) {s:St}{Q:Ex→St→Prop}
include E
theorem oW {id:Nat}{ops:Array Oper}{a:Acc}{y:Code}(hq:Ev R P y a.s Q) (h:sW T Γ ops.toList ops.toList (some ⟨s,[],[]⟩)=some a:=by simp only[go_sem];rfl) (hp:pL a.side:=by exact trivial):Ev R P (.seq (.region id ops false) y) s Q:=
 pB (a4F E h hp hq)
theorem uD {id:Nat}{ops:Array Oper}{a:Acc}{y:Code}(hq:Ev R P y a.s Q) (h:sW T Γ ops.toList ops.toList (some ⟨s,[],[]⟩)=some a:=by simp only[go_sem];rfl) (hp:pL a.side:=by exact trivial) (hf:AC ops s.nb a.es.reverse=true:=by kernel_rfl):Ev R P (.seq (.region id ops true) y) s Q:=
 pB (a4G E h hf hp hq)
theorem qC {id:Nat}{ops:Array Oper}{a:Acc}(hq:Q .normal a.s) (h:sW T Γ ops.toList ops.toList (some ⟨s,[],[]⟩)=some a:=by simp only[go_sem];rfl) (hp:pL a.side:=by exact trivial):Ev R P (.region id ops false) s Q:=
 a4F E h hp hq
theorem GM {id:Nat}{ops:Array Oper}{a:Acc}(hq:Q .normal a.s) (h:sW T Γ ops.toList ops.toList (some ⟨s,[],[]⟩)=some a:=by simp only[go_sem];rfl) (hp:pL a.side:=by exact trivial) (hf:AC ops s.nb a.es.reverse=true:=by kernel_rfl):Ev R P (.region id ops true) s Q:=
 a4G E h hf hp hq
end
theorem p7 {P:Program}{s:St}{Q:Ex→St→Prop}{c:Operand}{x y:Code}{b b':Bool}{k:Option Nat}{ρ:Type}{X Y r:ρ}(hC:(if b'=true then X else Y)=r) (ht:X=r→b=true→Ev R P x s Q) (hf:Y=r→b=false→Ev R P y s Q)
  (h:rC s.env c=(.val .bool b,k):=by simp only[go_sem];rfl) (hb:b=b':=by first|rfl|simp):Ev R P (.cond c x y) s Q:=
 aBd h (fun e=>ht (aBn hC (hb▸e)) e) (fun e=>hf (aBo hC (hb▸e)) e)
theorem pT {σ ρ:Type}[Inhabited σ] {x:Option σ}{k:σ→Option ρ}{r:ρ}(h:x.bind k=some r): ∃y,x=some y∧val x=y∧k y=some r:=by
 obtain⟨y,h1,h2⟩:=oX h
 exact⟨y,h1,qI h1,h2⟩
attribute [go_sem] true_and and_true false_and and_false Nat.reduceMul List.nil_append List.cons_append List.append_nil List.toList_toArray Nat.reduceEqDiff reduceIte reduceDIte reduceCtorEq Nat.reduceAdd Nat.reduceSub Int.reduceToNat Nat.reduceLT Nat.reduceLeDiff decide_true decide_false Bool.and_self Bool.or_self Bool.or_false Bool.false_or Bool.and_true Bool.true_and Bool.not_true Bool.not_false
end Go.Proofs.YtfchbnahjcdiiaaGreatDoor.Vc
