/- Packed by a program of mine (wip/tools/pack.py): the same texts with short names and few blanks. -/
import Derived.KernelRfl
import Derived.Lib.Hide
import Derived.Lib.MapLaws
import Derived.Lib.TrimAscii
import Derived.Lib.TrimUEq
import Derived.Lib.ValidLaws
import Derived.Shelf.Spec.SlicesInsertGrow
import Derived.Test.YtfchbnahjcdiiaaGreatDoorChecked
import Derived.Test.YtfchbnahjcdiiaaGreatDoorProg
import Derived.Test.YtfchbnahjcdiiaaGreatDoorY01
set_option linter.unusedVariables false
set_option linter.unusedSimpArgs false
set_option linter.unusedSectionVars false
namespace Go.Proofs.YtfchbnahjcdiiaaGreatDoor
open Vc Go.RowKit
@[go_sem] def noC:List Slot→List Blk→Option Ret:=fun _ _=>none
def tP (l:List (List UInt8)):List (List UInt8):=l.mergeSort fun x y=>decide (x≤y)
@[go_sem] def a7e:(t:Ty)→List t.den→Option (List t.den)
 | .str,l=>some (tP l)
 |_,_=>none
theorem a7f {g:Gh}{w:World}: ∀{l:List (List UInt8)}{xs:List Value},qR (Rd g w .str) 1 l xs→xs=l.map Go.Proofs.encStr
 |[],_,h=>h
 |_::_,_,⟨c1,c2,e,_,h2,h3⟩=>by rw[e,show c1=_ from h2,a7f h3];rfl
theorem a7g {g:Gh}{w:World}: ∀(l:List (List UInt8)),qR (Rd g w .str) 1 l (l.map Go.Proofs.encStr)
 |[]=>rfl
 |x::l=>⟨[.string ⟨x.toArray⟩],_,rfl,rfl,rfl,a7g l⟩
theorem aFm (s:List (List UInt8)) (cur:Array Value) (h:s.length≤cur.size):(Go.Sort.putCells Go.Proofs.encStr 0 s.toArray cur).toList.take s.length=s.map Go.Proofs.encStr:=by
 apply List.ext_getElem
 ·simp [Go.Sort.putCells];omega
 ·intro i h1 h2
  have hi:i<s.length:=by simpa using h2
  simp only[Go.Sort.putCells,List.getElem_take,Array.getElem_toList,Array.getElem_mapIdx,List.getElem_map]
  rw[if_pos (by simp;exact hi)]
  simp [hi]
set_option maxRecDepth 100000 in
theorem aFn:vZ Tryz.prog 96 noC∧∀F,some a7e=some F→NW Tryz.prog 96 F:=by
 refine⟨⟨fun _ _=>rfl,fun g w args vals L r _ _ hC _=>by cases hC⟩,fun F hF=> ?_⟩
 cases hF
 intro g w e t l l' v n xs hT hown hF hl hn hf
 cases t with
 |str=>
  have hf:tP l=l':=Option.some.inj hf
  subst hf
  subst hl
  have hlen:(tP l).length=l.length:=by simp [tP]
  obtain⟨hx,⟨rfl,h0⟩ |⟨b,cap,cur,rfl,hb0,hbk,hnc,hcm,hcs,htk⟩⟩:=hown
  ·obtain rfl:l=[]:=List.length_eq_zero_iff.1 h0
   refine(Any.slices_Sort_string_none Tryz.lays190 none 0 w).mono ?_
   rintro en w' ⟨rfl,rfl⟩
   exact⟨rfl,hlen,[],⟨rfl,.inl ⟨rfl,rfl⟩⟩,by simp [tP,qR],⟨rfl,rfl,rfl,Nat.le_refl _,fun _ _ _=>rfl⟩⟩
  ·have hxs:=a7f hF
   subst hxs
   have hc1:(Ty.str).cells=1:=rfl
   rw[hc1,Nat.mul_one] at hcs htk
   have hbl:b<w.heap.size:=by
    rcases Nat.lt_or_ge b w.heap.size with h|h
    ·exact h
    ·rw[Array.getElem?_eq_none h] at hbk;cases hbk
   have hH:Go.Sort.Holds Go.Proofs.encStr w b 0 l.toArray:=by
    intro j hj
    have hj':j<l.length:=by simpa using hj
    refine⟨?_,Lib.frozen_of_heap hbk _⟩
    rw[Lib.cell_of_heap hbk,Nat.zero_add]
    have h2:(cur.toList.take l.length)[j]? =(l.map Go.Proofs.encStr)[j]? :=by rw[htk]
    rw[List.getElem?_take_of_lt hj',Array.getElem?_toList] at h2
    rw[h2]
    simp [hj']
   refine(Any.slices_Sort_string Tryz.lays190 b 0 cap l w hH hbl hn).mono ?_
   rintro en w' ⟨rfl,m,os,rfl⟩
   have hsz:(tP l).length≤cur.size:=by rw[hlen,hcs];exact hnc
   have hnew:(Go.Sort.grow (Go.Sort.putRow Go.Proofs.encStr (Go.Sort.ahead w m) b 0 (tP l).toArray) os).heap[b]? =some (.cells (Go.Sort.putCells Go.Proofs.encStr 0 (tP l).toArray cur) e (0,0)):=by
    rw[Go.Sort.heap_grow_old _ _ (by simpa using hbl)]
    simp [Go.Sort.putRow,Go.Sort.mapBlock,Array.getElem?_modify,hbk,Go.Sort.onCells]
   refine⟨rfl,hlen,(tP l).map Go.Proofs.encStr,⟨by simp [hlen,hc1],.inr ⟨b,cap,_,rfl,hb0,hnew,hnc,hcm,?_,?_⟩⟩,a7g _,⟨rfl,rfl,rfl,by simp,fun k hk hne=> ?_⟩⟩
   ·rw[hc1,Nat.mul_one];simpa[Go.Sort.putCells] using hcs
   ·rw[hc1,Nat.mul_one,←hlen];exact aFm _ _ hsz
   ·rw[Go.Sort.heap_grow_old _ _ (by simpa using hk)]
    have hkb:b≠k:=fun h=>hne (by rw[h];rfl)
    simp [Go.Sort.putRow,Go.Sort.mapBlock,Array.getElem?_modify,hkb]
 |_=>cases hf
def HQ (s c:List UInt8):Int:=Lib.index s c
@[go_sem] def TK:List Slot→List Blk→Option Ret
 |[(.val .str O,none),(.val .str Z,none)],[]=>some ⟨[List.length O<4294967281],[(.val (.int .i64) (HQ O Z),none)],[]⟩
 |_,_=>none
set_option maxRecDepth 100000 in
theorem aFo:vZ Tryz.prog 109 TK:=by
 refine KL (fun _ _=>rfl) fun g w args vals L r hT ha hC hs=> ?_
 unfold TK at hC
 split at hC
 ·rename_i s c
  cases hC
  have h1:=hs _ List.mem_cons_self
  obtain⟨va,_,rfl,ra,vb,_,rfl,rb,hv⟩:=ha
  obtain rfl:=uI ra.1
  obtain rfl:=uI rb.1
  cases hv
  obtain⟨m,hm⟩:=hT.2.2
  exact⟨rfl,rfl,(TE (Any.strings_Index Tryz.lays143 ⟨List.toArray s⟩ ⟨List.toArray c⟩ m w h1 hm)).mono fun e w' ⟨he,hb⟩=>⟨_,he,hb,tY _ _ _ _,trivial⟩⟩
 ·cases hC
@[go_sem] def TL:List Slot→List Blk→Option Ret
 |[(.val .ref (some (0,0)),none)],[.cells (.pair .mref (.pair (.list (.int .u8)) .unit)) ((some (0,0)),O) [(1,1)],.grow Z 1 aA]=>some ⟨[aA=List.length O.1],[],[.cells (.pair .mref (.pair (.list (.int .u8)) .unit)) ((some (0,0)),O) [(1,1)],.grow Z 1 aA]⟩
 |_,_=>none
theorem aFp {g:Gh}{w:World}{L:List Blk}{e:Eff}{w':World}{u v:Value}{r:Ret}(hE:EffOk g w (enumH 0 L) e g w' u)
  (hH: ∀i,getH (enumH 0 r.H) i=getH (app e.upd (enumH 0 L)) i) (hin: ∀i,i∈idsOf e.upd→i<L.length) (hlen:r.H.length=L.length)
  (hp: ∀i blk b o,r.H[i]? =some blk→owns g i blk b o→w.heap.size≤b∨ownsAny g (enumH 0 L) b o)
  (hty: ∀(i:Nat) t x ts u y us,L[i]? =some (.cells t x ts)→r.H[i]? =some (.cells u y us)→u=t)
  (hret:RetVals g w' r.ret v):RetOk g w L r g w' v:=
 ⟨fun b o h=>⟨h,hE.le.cell b o h⟩,hE.heap.ext hH,hret,hE.fr.mono fun b o ⟨i,blk,_,h1,h2⟩=>⟨i,blk,h1,h2⟩,hp,fun _ _ _ _ _=>rfl,hty,fun _ _ _ h=>h,fun _ _ _ _ h=>h⟩
set_option maxRecDepth 100000 in
theorem aFq:vZ Tryz.prog 52 TL:=by
 refine⟨fun _ _=>rfl,fun g w args vals L r hH ha hC hs=> ?_⟩
 unfold TL at hC
 split at hC
 ·rename_i O Z aA
  cases hC
  obtain⟨va,_,rfl,ra,hv⟩:=ha
  cases hv
  have hg0:getH (enumH 0 [Blk.cells (.pair .mref (.pair (.list (.int .u8)) .unit)) ((some (0,0)),O) [(1,1)],.grow Z 1 aA]) 0=some (.cells (.pair .mref (.pair (.list (.int .u8)) .unit)) ((some (0,0)),O) [(1,1)]):=rfl
  obtain⟨p,cs,hJ,hR,hra,hth,hns,htk⟩:=hH.blk 0 _ hg0
  obtain⟨c1,c2,rfl,hR1,hR2⟩:=hR
  obtain⟨p',hJ',⟨hp0,eb,heb,hk3⟩,hc1⟩:=hR1
  rw[hJ] at hJ'
  obtain rfl:=Option.some.inj hJ'
  obtain⟨b,o,k⟩:=p
  have ho:o=0:=by simpa using hp0
  subst ho
  have he:eb=77:=by
   unfold QP at heb
   split at heb
   ·assumption
   ·cases heb
  subst he
  have hva:va= .pointer (some ⟨b,0,none⟩):=by
   obtain⟨q,hq,e⟩:=xJ ra.1
   rw[hJ] at hq
   cases hq
   exact e
  subst hva
  have hsh:w.shape? b=some (77,2):=hth.2 (by decide) _ hk3
  rcases hc1 with rfl|rfl
  ·have h0:w.cell? ⟨b,0,none⟩=some (.pointer none)∧w.frozen? ⟨b,0,none⟩=false:=⟨hra 0 _ rfl,(hth.1 0 (by decide)).2⟩
   refine(Any.Builder_copyCheck_fresh Tryz.lays240 Tryz.builderX72 b w h0.1 hsh h0.2).mono ?_
   rintro en w' ⟨rfl,rfl⟩
   refine⟨_,g,rfl,?_⟩
   have hE:=EffOk.store (side:=[]) (rds:=[]) hH (i:=0) (t:= .mref) (y:=some (0,0)) (off:=0) (k:=none) (p:=⟨b,0,k⟩) (cy:=[.pointer (some ⟨b,0,none⟩)]) (v:= .pointer (some ⟨b,0,none⟩)) hg0 hJ (z:=((some (0,0)),O)) (by rfl) ⟨_,hJ,⟨rfl,_,rfl,hk3⟩,.inr rfl⟩ trivial (fun _ _ h=>by cases h) (fun _=>rfl)
   refine aFp hE.1 ?_ ?_ rfl ?_ ?_ ?_
   ·intro i
    match i with
    |0=>rfl
    |1=>rfl
    |i+2=>rfl
   ·intro i hi
    simp [idsOf] at hi
    subst hi
    exact Nat.zero_lt_succ _
   ·intro i blk b o hi ho
    exact .inr ⟨i,blk,by rw[NV];simpa using hi,ho⟩
   ·intro i t x ts u y us h1 h2
    rw[h1] at h2
    cases h2
    rfl
   ·exact⟨[],rfl,rfl⟩
  ·have h0:w.cell? ⟨b,0,none⟩=some (.pointer (some ⟨b,0,none⟩)):=hra 0 _ rfl
   refine(Any.Builder_copyCheck_used Tryz.lays240 Tryz.builderX72 b w h0).mono ?_
   rintro en w' ⟨rfl,rfl⟩
   refine⟨_,g,rfl,⟨fun b o h=>⟨h,rfl⟩,hH,⟨[],rfl,rfl⟩,Fr.refl _ _ _,?_,fun _ _ _ _ _=>rfl,?_,fun _ _ _ h=>h,fun _ _ _ _ h=>h⟩⟩
   ·intro i blk b o hi ho
    exact .inr ⟨i,blk,by rw[NV];simpa using hi,ho⟩
   ·intro i t x ts u y us h1 h2
    rw[h1] at h2
    cases h2
    rfl
 ·cases hC
theorem a7h {P:Program}(w:World): ∀(l:List Int) (a:Addr) (acc:ByteArray),(∀j x,l[j]? =some x→w.cell? (a.add j)=some (.int .u8 x))→
  (loadBytes a acc l.length).run P w= .ok ⟨acc.data++(rA l).toArray⟩ w
 |[],a,acc,_=>by simp [loadBytes,rA]
 |x::l,a,acc,h=>by
  have h0:w.cell? a=some (.int .u8 x):=by
   have:=h 0 x rfl
   simpa[Addr.add] using this
  have ih:=a7h (P:=P) w l (a.add 1) (acc.push (UInt8.ofNat x.toNat)) (fun j y hy=>by
   have:=h (j+1) y (by simpa using hy)
   have e:(a.add 1).add j=a.add (j+1):=by
    unfold Addr.add
    by_cases hj:j=0
    ·subst hj;simp
    ·simp [hj];omega
   rw[e];exact this)
  have hx:x.toNat.toUInt8=UInt8.ofNat x.toNat:=rfl
  simp only[List.length_cons,loadBytes,Sem.run_bind,run_load,h0,Result.andThen,hx]
  rw[ih]
  congr 1
  apply ByteArray.ext
  simp [ByteArray.push,rA]
theorem aFr {P:Program}(w:World) (pt it ty e:TypeId) (hp:P.underlying pt=some (.pointer e)) (hc:P.cellsOf e=1) (g cells:Nat) (hsh:w.shape? g=some (e,cells)) (l:List Int) (h0:l≠[]) (hn:l.length≤cells) (h63:l.length≤9223372036854775807)
  (hcell: ∀j x,l[j]? =some x→w.cell? ((⟨g,0,none⟩:Addr).add j)=some (.int .u8 x)):
  (Builtin.unsafeString_ #[pt,it] ty #[.pointer (some ⟨g,0,none⟩),.int .i64 l.length]).run P w= .ok (.string ⟨(rA l).toArray⟩) (w.freeze ⟨g,0,none⟩ l.length):=by
 have hl:l.length≠0:=by simpa using h0
 have hlb:=a7h (P:=P) w l ⟨g,0,none⟩ .empty hcell
 have hlies:=Lib.liesAt_bytes (P:=P) hc (cells/P.cellsOf e) l.length (by rw[hc];simpa using hn)
 have h63': ¬(9223372036854775807:Int)<(l.length:Int):=by omega
 have hdef:Builtin.unsafeString_ #[pt,it] ty #[.pointer (some ⟨g,0,none⟩),.int .i64 l.length]=
   (do
    let n←asInt (.int .i64 l.length)
    if n<0 then runtimePanic (.error "unsafe.String: len out of range")
    if n>IntKind.i64.max then unsupported (.unsafePointer "String: a length above the largest int")
    if n=0 then pure (.string .empty)
    else if←variablesAt ⟨g,0,none⟩ (←elemOf pt) n.toNat then do
     let s←loadBytes ⟨g,0,none⟩ .empty n.toNat
     freeze ⟨g,0,none⟩ n.toNat
     pure (.string s)
    else unsupported (.unsafePointer "String: not so many bytes at ptr")):=rfl
 rw[hdef]
 have hmax:IntKind.i64.max=9223372036854775807:=rfl
 have hneg: ¬(l.length:Int)<0:=by omega
 simp [asInt,asIntOf,hmax,h63',hneg,hl,variablesAt,hsh,elemOf,run_underlying hp,hlies,hlb]
set_option maxHeartbeats 2000000 in
set_option maxRecDepth 100000 in
theorem TM {P:Program}{ρ:Go.Shelf.Ren}(L:Lays.n169 P ρ) (X:Builder.Extra P ρ) (b n cap:Nat) (a q:Option Addr) (s:ByteArray) (w w2:World)
  (c1:w.drew.cell? ⟨b,1,none⟩=some (.slice a n cap)) (hSD:(Builtin.unsafeSliceData_ #[(ρ.t 37)] (ρ.t 127) #[.slice a n cap]).run P w.drew= .ok (.pointer q) w.drew)
  (hUS:(Builtin.unsafeString_ #[(ρ.t 127),(ρ.t 3)] (ρ.t 9) #[.pointer q,.int .i64 n]).run P w.drew= .ok (.string s) w2):
  Calls P (ρ.f 169) #[.pointer (some ⟨b,0,none⟩)] w fun e w'=>e= .returned (.string s)∧w'=w2:=by
 have mixed:=L.mixed
 have t72:=L.t72;have a72:=L.a72;have z72:=L.z72;have v72:=L.v72;have u72:=run_underlying L.t72
 have t70:=L.t70;have a70:=L.a70;have z70:=L.z70;have v70:=L.v70;have u70:=run_underlying L.t70
 have t37:=L.t37;have a37:=L.a37;have z37:=L.z37;have v37:=L.v37;have u37:=run_underlying L.t37
 have t127:=L.t127;have a127:=L.a127;have z127:=L.z127;have v127:=L.v127;have u127:=run_underlying L.t127
 have t3:=L.t3;have a3:=L.a3;have z3:=L.z3;have v3:=L.v3;have u3:=run_underlying L.t3
 have t9:=L.t9;have a9:=L.a9;have z9:=L.z9;have v9:=L.v9;have u9:=run_underlying L.t9
 have t5:=X.t5;have a5:=X.a5;have z5:=X.z5;have v5:=X.v5;have u5:=run_underlying X.t5
 go_enter L.f169,Body.n169_ntmps ρ
 go_wp2
 go_region_o
 all_goals (go_wp2;go_ret;exact⟨rfl,rfl⟩)
set_option maxHeartbeats 2000000 in
set_option maxRecDepth 100000 in
theorem aFs {P:Program}{ρ:Go.Shelf.Ren}(L:Lays.n169 P ρ) (X:Builder.Extra P ρ) (b g:Nat) (cur:Array Value) (w:World) (hlt:b<w.heap.size)
  (c1:w.drew.cell? ⟨b,1,none⟩=some (.slice (some ⟨g,0,none⟩) 0 0)) (hg:w.drew.heap[g]? =some (.cells cur (ρ.t 5) (0,0))):
  Calls P (ρ.f 169) #[.pointer (some ⟨b,0,none⟩)] w fun e w'=>e= .returned (.string ⟨#[]⟩)∧w'=w.drew.alloc (.view ⟨g,0,none⟩ (ρ.t 5)):=by
 have hUS:=Any.unsafeString_none L X
 have hSD:(Builtin.unsafeSliceData_ #[(ρ.t 37)] (ρ.t 127) #[.slice (some ⟨g,0,none⟩) 0 0]).run P w.drew= .ok (.pointer (some ⟨w.drew.heap.size,0,none⟩)) (w.drew.alloc (.view ⟨g,0,none⟩ (ρ.t 5))):=
  Lib.run_unsafeSliceData_zero w.drew _ _ (ρ.t 5) L.t127 ⟨g,0,none⟩ 0 ((ρ.t 5),cur.size) (by simp [World.shape?,hg])
 have c2:(w.drew.alloc (.view ⟨g,0,none⟩ (ρ.t 5))).cell? ⟨b,1,none⟩=some (.slice (some ⟨g,0,none⟩) 0 0):=
  (World.cell?_of_block (a:=⟨b,1,none⟩) (Lib.alloc_old w.drew _ b hlt)).trans c1
 have c3:(w.alloc (.view ⟨g,0,none⟩ (ρ.t 5))).drew.cell? ⟨b,1,none⟩=some (.slice (some ⟨g,0,none⟩) 0 0):=c2
 have c0:w.cell? ⟨b,1,none⟩=some (.slice (some ⟨g,0,none⟩) 0 0):=c1
 have mixed:=L.mixed
 have t72:=L.t72;have a72:=L.a72;have z72:=L.z72;have v72:=L.v72;have u72:=run_underlying L.t72
 have t70:=L.t70;have a70:=L.a70;have z70:=L.z70;have v70:=L.v70;have u70:=run_underlying L.t70
 have t37:=L.t37;have a37:=L.a37;have z37:=L.z37;have v37:=L.v37;have u37:=run_underlying L.t37
 have t127:=L.t127;have a127:=L.a127;have z127:=L.z127;have v127:=L.v127;have u127:=run_underlying L.t127
 have t3:=L.t3;have a3:=L.a3;have z3:=L.z3;have v3:=L.v3;have u3:=run_underlying L.t3
 have t9:=L.t9;have a9:=L.a9;have z9:=L.z9;have v9:=L.v9;have u9:=run_underlying L.t9
 have t5:=X.t5;have a5:=X.a5;have z5:=X.z5;have v5:=X.v5;have u5:=run_underlying X.t5
 go_enter L.f169,Body.n169_ntmps ρ
 go_wp2
 go_region_o
 all_goals (go_wp2;go_ret;exact⟨rfl,rfl⟩)
@[go_sem] def TN:List Slot→List Blk→Option Ret
 |[(.val .ref (some (0,0)),none)],[.cells (.pair .mref (.pair (.list (.int .u8)) .unit)) ((some (0,0)),O) [(1,1)],.grow 5 1 Z]=>some ⟨[Z=List.length O.1],[(.val .str (rA O.1),none)],[.cells (.pair .mref (.pair (.list (.int .u8)) .unit)) ((some (0,0)),O) [],.dead]⟩
 |_,_=>none
theorem TO {g:Gh}{w w':World}{m:Option (Nat×Nat)}{b:(Ty.pair (.list (.int .u8)) .unit).den}{e n:Nat}{s:List UInt8}{sd:List Prop}(hH:HeapOk g w (enumH 0 [Blk.cells (.pair .mref (.pair (.list (.int .u8)) .unit)) (m,b) [(1,1)],.grow e 1 n]))
  (hos:w'.os=w.os) (htape:w'.tape=w.tape) (hout:w'.output=w.output) (hsz:w.heap.size≤w'.heap.size)
  (hcell: ∀b o,b<w.heap.size→w'.cell? ⟨b,o,none⟩=w.cell? ⟨b,o,none⟩) (hshape: ∀b s,w.shape? b=some s→w'.shape? b=some s)
  (hblk: ∀b,b<w.heap.size→(∀o,¬owns g 1 (.grow e 1 n) b o)→w'.heap[b]? =w.heap[b]?):
  RetOk g w [Blk.cells (.pair .mref (.pair (.list (.int .u8)) .unit)) (m,b) [(1,1)],.grow e 1 n] ⟨sd,[(.val .str s,none)],[.cells (.pair .mref (.pair (.list (.int .u8)) .unit)) (m,b) [],.dead]⟩ g w' (.string ⟨s.toArray⟩):=by
 have hg0:getH (enumH 0 [Blk.cells (.pair .mref (.pair (.list (.int .u8)) .unit)) (m,b) [(1,1)],.grow e 1 n]) 0=some (.cells (.pair .mref (.pair (.list (.int .u8)) .unit)) (m,b) [(1,1)]):=rfl
 have hg1:getH (enumH 0 [Blk.cells (.pair .mref (.pair (.list (.int .u8)) .unit)) (m,b) [(1,1)],.grow e 1 n]) 1=some (.grow e 1 n):=rfl
 have hle:Le g w g w':=⟨fun _ _ h=>h,fun b o h=>hcell b o (hH.sl b o h),fun _ _ h=>h,fun _ _ _ h=>h⟩
 have hno: ∀c o,owns g 0 (.cells (.pair .mref (.pair (.list (.int .u8)) .unit)) (m,b) [(1,1)]) c o→∀o',¬owns g 1 (.grow e 1 n) c o':=fun c o h o' h'=>by
  obtain⟨v,hv,hb⟩:=h'
  exact hH.dis 0 1 _ _ c o (by decide) hg0 hg1 h ⟨v,hv,hb⟩
 obtain⟨p,cs,hJ,hR,hra,hth,hns,htk⟩:=hH.blk 0 _ hg0
 have hown0: ∀j,j<2→owns g 0 (.cells (.pair .mref (.pair (.list (.int .u8)) .unit)) (m,b) [(1,1)]) p.1 (p.2+j):=fun j hj=>⟨p,hJ,rfl,Nat.le_add_right _ _,Nat.add_lt_add_left hj _⟩
 have hpl:p.1<w.heap.size:=RL (hH.blk 0 _ hg0) (hown0 0 (by decide))
 have hpb:w'.heap[p.1]? =w.heap[p.1]? :=hblk p.1 hpl (hno p.1 _ (hown0 0 (by decide)))
 have hbk0:BlkOk g w' 0 (.cells (.pair .mref (.pair (.list (.int .u8)) .unit)) (m,b) []):=
  ⟨p,cs,hJ,uD hle hR,fun j v hj=>(hcell _ _ hpl).trans (hra j v hj),⟨fun j hj=>by
   have h1:=hth.1 j hj
   rw[hcell _ _ hpl]
   exact⟨h1.1,(World.frozen?_of_block (a:=⟨p.1,p.2+j,none⟩) hpb).trans h1.2⟩,fun h s hs=>hshape _ _ (hth.2 h s hs)⟩,hns,fun _ _ h=>by cases h⟩
 refine⟨fun b o h=>⟨h,hcell b o (hH.sl b o h)⟩,?_,(show RdS g w' (.val .str s,none) (.string ⟨s.toArray⟩) from⟨FQ _ _ _,trivial⟩),⟨hos,htape,hout,hsz,?_,?_,fun _ _ h=> .inl h,fun b s h=> .inl (hshape b s h)⟩,?_,fun _ _ _ _ _=>rfl,?_,fun _ _ _ h=>h,fun _ _ _ _ h=>h⟩
 ·refine⟨fun i blk h=> ?_,fun i j bi bj c o hij hi hj hoi hoj=> ?_,fun b o h=>Nat.lt_of_lt_of_le (hH.sl b o h) hsz,NK hH.tab.1 hsz (fun c hc=>hblk c (Nat.lt_of_lt_of_le hc hH.tab.1.1) fun o ho=>absurd (hH.tab.2 1 _ c o hg1 ho) (by omega)),fun i blk c o h ho=> ?_⟩
  ·match i,h with
   |0,h=>cases h;exact hbk0
   |1,h=>cases h;trivial
   |i+2,h=>simp [enumH,getH] at h
  ·match i,j,hi,hj with
   |0,0,_,_=>exact hij rfl
   |0,1,_,hj=>cases hj;exact hoj
   |1,_,hi,_=>cases hi;exact hoi
   |0,j+2,_,hj=>simp [enumH,getH] at hj
   |i+2,_,hi,_=>simp [enumH,getH] at hi
  ·match i,h with
   |0,h=>cases h;exact hH.tab.2 0 _ c o hg0 ho
   |1,h=>cases h;exact ho.elim
   |i+2,h=>simp [enumH,getH] at h
 ·intro c hc hn
  exact hblk c hc fun o ho=>hn o ⟨1,_,hg1,ho⟩
 ·intro c o hc hn
  exact⟨hcell c o hc,World.frozen?_of_block (a:=⟨c,o,none⟩) (hblk c hc fun o' ho=>hn ⟨1,_,hg1,by obtain⟨v,hv,hb⟩:=ho;exact⟨v,hv,hb⟩⟩)⟩
 ·intro i blk c o hi ho
  match i,hi with
  |0,hi=>cases hi;exact .inr ⟨0,_,hg0,ho⟩
  |1,hi=>cases hi;exact ho.elim
  |i+2,hi=>simp at hi
 ·intro i t x ts u y us h1 h2
  match i,h1,h2 with
  |0,h1,h2=>cases h1;cases h2;rfl
  |1,h1,_=>cases h1
  |i+2,h1,_=>simp at h1
theorem aFt (w:World) (a p:Addr) (n:Nat):(w.freeze a n).cell? p=w.cell? p:=by
 unfold World.freeze
 split
 ·rfl
 ·simp only[World.cell?,Array.getElem?_modify]
  by_cases h:a.block=p.block
  ·rw[if_pos h]
   cases w.heap[p.block]? with
   |none=>rfl
   |some o=>cases o<;>rfl
  ·rw[if_neg h]
theorem aFu (w:World) (a:Addr) (n b:Nat):(w.freeze a n).shape? b=w.shape? b:=by
 unfold World.freeze
 split
 ·rfl
 ·simp only[World.shape?,Array.getElem?_modify]
  by_cases h:a.block=b
  ·rw[if_pos h]
   cases w.heap[b]? with
   |none=>rfl
   |some o=>cases o<;>rfl
  ·rw[if_neg h]
theorem aFv (w:World) (a:Addr) (n b:Nat) (h:b≠a.block):(w.freeze a n).heap[b]? =w.heap[b]? :=by
 unfold World.freeze
 split
 ·rfl
 ·simp only[Array.getElem?_modify]
  rw[if_neg (Ne.symm h)]
theorem aFw (w:World) (a:Addr) (n:Nat):(w.freeze a n).os=w.os∧(w.freeze a n).tape=w.tape∧(w.freeze a n).output=w.output∧(w.freeze a n).heap.size=w.heap.size:=by
 unfold World.freeze
 split
 ·exact⟨rfl,rfl,rfl,rfl⟩
 ·exact⟨rfl,rfl,rfl,by simp⟩
theorem a7i {g:Gh}{w:World}{b:Nat}: ∀{l:List Int}{o:Nat},vD (Rd g w (.int .u8)) w g.S 1 b o l→∀j x,l[j]? =some x→w.cell? ⟨b,o+j,none⟩=some (.int .u8 x)
 |[],_,_,_,_,h=>by cases h
 |y::l,o,⟨⟨cs,_,hra,_,hR⟩,hl⟩,j,x,h=>by
  match j,h with
  |0,h=>
   cases h
   have hR:cs=[.int .u8 y]:=hR
   subst hR
   exact hra 0 _ rfl
  |j+1,h=>
   have:=a7i hl j x (by simpa using h)
   rw[show o+(j+1)=o+1+j by omega]
   exact this
theorem aFx {u:Ty}{m:Option (Nat×Nat)}{bv:(Ty.pair (.list (.int .u8)) .unit).den}{l:List u.den}(hget:pK (.list u) (.pair .mref (.pair (.list (.int .u8)) .unit)) (m,bv) 1=some l):l.length=bv.1.length:=by
 have h2:pK (.list u) (.list (.int .u8)) bv.1 0=some l:=hget
 simp only[pK] at h2
 split at h2
 ·rename_i h
  injection h with h
  subst h
  cases h2
  rfl
 ·cases h2
set_option maxRecDepth 100000 in
theorem aFy:vZ Tryz.prog 37 TN:=by
 refine⟨fun _ _=>rfl,fun g w args vals L r hH ha hC hs=> ?_⟩
 unfold TN at hC
 split at hC
 ·rename_i bv n
  cases hC
  obtain rfl:n=List.length bv.1:=hs _ (by simp)
  obtain⟨va,_,rfl,ra,hv⟩:=ha
  cases hv
  have hg0:getH (enumH 0 [Blk.cells (.pair .mref (.pair (.list (.int .u8)) .unit)) ((some (0,0)),bv) [(1,1)],.grow 5 1 (List.length bv.1)]) 0=some (.cells (.pair .mref (.pair (.list (.int .u8)) .unit)) ((some (0,0)),bv) [(1,1)]):=rfl
  have hg1:getH (enumH 0 [Blk.cells (.pair .mref (.pair (.list (.int .u8)) .unit)) ((some (0,0)),bv) [(1,1)],.grow 5 1 (List.length bv.1)]) 1=some (.grow 5 1 (List.length bv.1)):=rfl
  obtain⟨p,cs,hJ,hR,hra,hth,hns,htk⟩:=hH.blk 0 _ hg0
  obtain⟨v',xs,hv',hown,hmax,hsl⟩:=hH.blk 1 _ hg1
  obtain⟨c1,c2,rfl,hR1,hR2⟩:=hR
  obtain⟨d1,d2,rfl,⟨a,cap,rfl,hcap,hl⟩,hd2⟩:=hR2
  obtain⟨p',hJ',⟨hp0,_,_,_⟩,hc1⟩:=hR1
  rw[hJ] at hJ'
  obtain rfl:=Option.some.inj hJ'
  obtain⟨b,o,k⟩:=p
  have ho:o=0:=by simpa using hp0
  subst ho
  have hlen1:c1.length=1:=by rcases hc1 with rfl|rfl<;>rfl
  obtain⟨q,hq,hva⟩:=xJ ra.1
  rw[hJ] at hq
  cases hq
  subst hva
  have hcell1:w.cell? ⟨b,1,none⟩=some (.slice a bv.1.length cap):=hra 1 _ (by rw[List.getElem?_append_right (by omega),hlen1];rfl)
  obtain⟨u,l,v,hget,hcv,hcur⟩:=htk 1 1 (by simp)
  have hvv:v= .slice a bv.1.length cap:=by
   rw[List.getElem?_append_right (by omega),hlen1] at hcv
   exact(Option.some.inj hcv).symm
  have hll:l.length=bv.1.length:=aFx hget
  rw[hll,hv',hvv] at hcur
  obtain rfl:=Option.some.inj hcur
  have hbl:b<w.heap.size:=a48 hcell1
  have hdr: ∀(s:List UInt8) (sd:List Prop),RetOk g w _ ⟨sd,[(.val .str s,none)],[.cells (.pair .mref (.pair (.list (.int .u8)) .unit)) ((some (0,0)),bv) [],.dead]⟩ g w.drew (.string ⟨s.toArray⟩):=fun s sd=>
   TO hH rfl rfl rfl (Nat.le_refl _) (fun _ _ _=>rfl) (fun _ _ h=>h) (fun _ _ _=>rfl)
  obtain⟨hx,⟨hnil,h0⟩ |⟨gb,cap',cur,hsl',hb0,hbk,hnc,hcm,hcs,htake⟩⟩:=hown
  ·have hb0:bv.1=[]:=List.length_eq_zero_iff.1 h0
   have hz:rA bv.1=[]:=by rw[hb0];rfl
   have hl0:List.length bv.1=0:=h0
   injection hnil with e1 e2 e3
   subst e1
   subst e3
   refine(TM Tryz.lays169 Tryz.builderExtra b bv.1.length 0 none none .empty w w.drew hcell1 rfl (by rw[hl0];exact Any.unsafeString_none Tryz.lays169 Tryz.builderExtra w.drew none)).mono ?_
   rintro e w' ⟨rfl,rfl⟩
   exact⟨_,g,rfl,by rw[hz];exact hdr [] _⟩
  ·injection hsl' with e1 e2 e3
   subst e1
   subst e3
   have hsz:bv.1.length≤cur.size:=by omega
   by_cases hb0:bv.1=[]
   ·have hz:rA bv.1=[]:=by rw[hb0];rfl
    have hl0:List.length bv.1=0:=by rw[hb0];rfl
    by_cases hc0:cap=0
    ·subst hc0
     rw[hl0] at hcell1
     refine(aFs Tryz.lays169 Tryz.builderExtra b gb cur w hbl hcell1 hbk).mono ?_
     rintro e w' ⟨rfl,rfl⟩
     have hold: ∀c,c<w.heap.size→(w.drew.alloc (.view ⟨gb,0,none⟩ 5)).heap[c]? =w.heap[c]? :=fun c hc=>Lib.alloc_old w.drew _ c hc
     refine⟨_,g,rfl,?_⟩
     rw[hz]
     exact TO hH rfl rfl rfl (by simp) (fun c o hc=>World.cell?_of_block (a:=⟨c,o,none⟩) (hold c hc)) (fun c s h=>(A9 (hold c (A8 h))).trans h) (fun c hc _=>hold c hc)
    ·refine(TM Tryz.lays169 Tryz.builderExtra b bv.1.length cap (some ⟨gb,0,none⟩) (some ⟨gb,0,none⟩) .empty w w.drew hcell1 (Lib.run_unsafeSliceData_row _ _ _ _ _ _ hc0) (by rw[hl0];exact Any.unsafeString_none Tryz.lays169 Tryz.builderExtra w.drew _)).mono ?_
     rintro e w' ⟨rfl,rfl⟩
     exact⟨_,g,rfl,by rw[hz];exact hdr [] _⟩
   ·have hcap0:cap≠0:=fun h=>hb0 (List.length_eq_zero_iff.1 (by omega))
    have hcb: ∀j x,bv.1[j]? =some x→w.cell? ⟨gb,j,none⟩=some (.int .u8 x):=by
     rcases hl with hl|⟨b',o',ha',hl⟩
     ·exact absurd hl hb0
     ·cases ha'
      intro j x hj
      have:=a7i hl j x hj
      rwa [Nat.zero_add] at this
    have hbk':w.drew.heap[gb]? =some (.cells cur 5 (0,0)):=hbk
    have hshp:w.drew.shape? gb=some (5,cur.size):=by simp only[World.shape?,hbk']
    refine(TM Tryz.lays169 Tryz.builderExtra b bv.1.length cap (some ⟨gb,0,none⟩) (some ⟨gb,0,none⟩) ⟨(rA bv.1).toArray⟩ w (w.drew.freeze ⟨gb,0,none⟩ bv.1.length) hcell1 (Lib.run_unsafeSliceData_row _ _ _ _ _ _ hcap0)
     (aFr w.drew _ _ _ 5 (Tryz.lays169).t127 (Tryz.builderExtra).cellsByte gb cur.size hshp bv.1 hb0 hsz (by unfold maxLen at hcm;omega) (fun j x h=>by rw[Addr.add_mid,Nat.zero_add];exact hcb j x h))).mono ?_
    rintro e w' ⟨rfl,rfl⟩
    refine⟨_,g,rfl,?_⟩
    have hblk: ∀c,(∀o,¬owns g 1 (.grow 5 1 (List.length bv.1)) c o)→(w.drew.freeze ⟨gb,0,none⟩ bv.1.length).heap[c]? =w.heap[c]? :=fun c hc=>aFv w.drew _ _ c fun e=>hc 0 ⟨_,hv',by rw[e];rfl⟩
    have hr:=aFw w.drew ⟨gb,0,none⟩ bv.1.length
    refine TO hH hr.1 hr.2.1 hr.2.2.1 (Nat.le_of_eq hr.2.2.2.symm) (fun c o _=>aFt w.drew _ _ _) (fun c s h=>(aFu w.drew _ _ c).trans h) (fun c _ hc=>hblk c hc)
 ·cases hC
end Go.Proofs.YtfchbnahjcdiiaaGreatDoor
namespace Go.Proofs.YtfchbnahjcdiiaaGreatDoor
open Vc Go.RowKit
theorem a7j:qM Tryz.prog 144 ⟨(.pair .str (.pair .str .unit)),0,0,false,[]⟩:=⟨by kernel_rfl,(show ((_∧∃_,_∧_)∨_)∧_ from⟨.inl ⟨rfl,_,Tryz.underlying144,(show _∧_∧_∧_ from⟨rfl,by kernel_rfl,by kernel_rfl,(show _∧_∧_∧_ from⟨rfl,by kernel_rfl,by kernel_rfl,trivial⟩)⟩)⟩,(fun h=>absurd h (by decide))⟩)⟩
theorem OJ {P:Program}(w:World) (dT sT ty elem:TypeId) (sz g o dLen dCap:Nat) (a:Addr) (sLen sCap:Nat) (cur:Array Value) (t:TypeId) (cs:List Value)
  (hu:P.underlying dT=some (.slice elem)) (hs:(P.info? elem).map (·.size)=some sz)
  (hg:w.heap[g]? =some (.cells cur t (0,0))) (hn:cs.length=Nat.min sLen dLen*sz)
  (hsrc: ∀j v,cs[j]? =some v→w.cell? (a.add j)=some v) (hfit:o+cs.length≤cur.size) (h1: ∀v∈cs,v.oneCell'=true):
  (Builtin.copy_ #[dT,sT] ty #[.slice (some ⟨g,o,none⟩) dLen dCap,.slice (some a) sLen sCap]).run P w=
   .ok (goInt (Nat.min sLen dLen:Nat)) (w.setRow g (cur.toList.take o++cs++cur.toList.drop (o+cs.length)).toArray):=by
 have hl:=run_loadCells_list (P:=P) w a cs hsrc
 have hst:=run_storeCells_at P g o t cs 0 cur w hg (by simpa using hfit) h1
 cases hq:P.info? elem with
 |none=>simp [hq] at hs
 |some i=>
  have hi:i.size=sz:=by simpa[hq] using hs
  simp [Builtin.copy_,run_underlying hu,Builtin.lenOf,Builtin.firstCells,sizeOf,typeInfo,hq,hi,←hn,hl,hst]
theorem aFz {P:Program}(w:World) (tS tR e:TypeId) (ht:P.underlying tS=some (.slice e)) (size:Nat) (hz: ∀w,(Go.sizeOf e).run P w= .ok size w)
  (a b:Addr) (la ca lb cb:Nat) (hne:a.block≠b.block) (tA tB:TypeId) (kA kB:Nat)
  (hsa:w.shape? a.block=some (tA,kA)) (hkA:kA≠0) (hsb:w.shape? b.block=some (tB,kB)) (hfb: ∀o,w.frozen? ⟨b.block,o,none⟩=false) (hsp:b.spot=none):
  (Extern.SlicesOverlaps.overlaps #[tS,tS] #[tR] #[.slice (some a) la ca,.slice (some b) lb cb]).run P w= .ok (.bool false) w:=by
 have hnb:(a.block != b.block)=true:=by simpa using hne
 have hnb':(a.block==b.block)=false:=by simpa using hne
 have hfb1:w.frozen? b=false:=by
  obtain⟨bb,bo,bs⟩:=b
  cases hsp
  exact hfb bo
 have hfb2:=hfb kB
 change Sem.run P (α:=Value) (do
  let some t:=(#[tS,tS]:Array TypeId)[0]? |stuck "slices.overlaps: no parameter types"
  let .slice elem←underlying t|stuck "slices.overlaps: slice type expected"
  let size←sizeOf elem
  match (some a:Option Addr),(some b:Option Addr) with
  |some a,some b=>
   if la=0∨lb=0∨size=0 then pure (Value.bool false)
   else if a.block != b.block&&(←frozen a)&&(←frozen b) then unsupported .addressObserved
   else do
    if a.block != b.block then do
     noView a;noView b
     if←mayBeOne a b then return Value.bool ((←choose (.extern "sameAddr.stringBytes" 2))==1)
    pure (Value.bool (a.block==b.block&&a.off<b.off+lb*size&&b.off<a.off+la*size))
  |_,_=>pure (Value.bool false)) w=_
 by_cases h0:la=0∨lb=0∨size=0
 ·simp [run_underlying ht,hz,h0]
 ·cases kA with
  |zero=>exact absurd rfl hkA
  |succ kA=>
   cases hfa:w.frozen? a<;>cases hfe:w.frozen? {block:=a.block,off:=kA+1}<;>
   simp [run_underlying ht,hz,h0,hnb,hnb',frozen,noView,viewAt,mayBeOne,stringish,shape,Sem.run,hsa,hsb,hfb1,hfb2,hfa,hfe]
theorem aFA {α:Type}{l:List α}{i n:Nat}(hin:i≤n):(l.drop (i*2)).take ((n-i)*2)=(l.take (n*2)).drop (i*2):=by
 rw[List.drop_take,show n*2-i*2=(n-i)*2 by omega]
theorem a7k {α:Type}{l:List α}{i n:Nat}{v:α}(h:v∈(l.drop (i*2)).take ((n-i)*2)):v∈l.take (n*2):=by
 rw[show (n-i)*2=n*2-i*2 by omega,←List.drop_take] at h
 exact List.mem_of_mem_drop h
theorem aFB {cur c1 c2:Array Value}{mid vs:List Value}{i n m:Nat}(hc1:c1=(cur.toList.take ((i+m)*2)++mid++cur.toList.drop ((i+m)*2+mid.length)).toArray) (hc2:c2=(c1.toList.take (i*2)++vs++c1.toList.drop (i*2+vs.length)).toArray)
  (hml:mid.length=(n-i)*2) (hvl:vs.length=m*2) (hcur:(n+m)*2≤cur.toList.length) (hin:i≤n):c2.toList.take ((n+m)*2)=cur.toList.take (i*2)++vs++mid:=by
 have e1:c1.toList=cur.toList.take ((i+m)*2)++(mid++cur.toList.drop ((i+m)*2+mid.length)):=by rw[hc1,List.append_assoc]
 have l1:(cur.toList.take ((i+m)*2)).length=(i+m)*2:=by rw[List.length_take];omega
 have e2:c1.toList.take (i*2)=cur.toList.take (i*2):=by
  rw[e1,List.take_append_of_le_length (by omega),List.take_take,Nat.min_eq_left (by omega)]
 have e3:c1.toList.drop (i*2+vs.length)=mid++cur.toList.drop ((i+m)*2+mid.length):=by
  rw[e1,hvl,show i*2+m*2=(cur.toList.take ((i+m)*2)).length by omega,List.drop_left]
 have l2:(cur.toList.take (i*2)).length=i*2:=by rw[List.length_take];omega
 have e4:c2.toList=(cur.toList.take (i*2)++vs++mid)++cur.toList.drop ((i+m)*2+mid.length):=by rw[hc2,e2,e3];simp only[List.append_assoc]
 rw[e4,show (n+m)*2=(cur.toList.take (i*2)++vs++mid).length by simp only[List.length_append];omega,List.take_left]
set_option maxHeartbeats 4000000 in
set_option maxRecDepth 100000 in
theorem aFC (b n c i vb voff m vc:Nat) (cur:Array Value) (vs:List Value) (w:World) (hi:i<n) (hm:0<m) (hroom:n+m≤c) (hc63:c≤maxLen) (hvb:vb≠b)
  (hg:w.heap[b]? =some (.cells cur 144 (0,0))) (hcs:cur.size=c*2) (hvl:vs.length=m*2)
  (hvs: ∀j v,vs[j]? =some v→w.cell? ⟨vb,voff+j,none⟩=some v) (h1: ∀v∈cur.toList.take (n*2),v.oneCell'=true) (h1v: ∀v∈vs,v.oneCell'=true):
  Calls Tryz.prog 174 #[.slice (some ⟨b,0,none⟩) n c,.int .i64 i,.slice (some ⟨vb,voff,none⟩) m vc] w fun e w'=>
   e= .returned (.slice (some ⟨b,0,none⟩) (n+m) c)∧∃cur':Array Value,w'=w.drew.setRow b cur'∧cur'.size=cur.size∧cur'.toList.take ((n+m)*2)=cur.toList.take (i*2)++vs++(cur.toList.drop (i*2)).take ((n-i)*2):=by
 have u24:=run_underlying Tryz.underlying24
 have hz1: ¬((m:Int)=0):=by omega
 have hz2: ¬((i:Int)=(n:Int)):=by omega
 have hw1:IntKind.i64.wrap ((i:Int)+(m:Int))=(i:Int)+(m:Int):=by rw[IntKind.wrap_i64];unfold maxLen at hc63;omega
 have hw2:IntKind.i64.wrap ((n:Int)+(m:Int))=(n:Int)+(m:Int):=by rw[IntKind.wrap_i64];unfold maxLen at hc63;omega
 have hb1:(0:Int)≤(i:Int)+(m:Int):=by omega
 have hin:i≤n:=by omega
 have htn:((i:Int)+(m:Int)).toNat=i+m:=by omega
 have hb2: ¬(c=i+m):=by omega
 have hb3:(i:Int)≤(n:Int)+(m:Int):=by omega
 have hb4: ¬(c=i):=by omega
 have z144: ∀w,(Go.sizeOf 144).run Tryz.prog w= .ok 2 w:=fun w=>by
  simp only[sizeOf,typeInfo,Sem.run_bind,run_program,Result.andThen_ok]
  rfl
 have hsz:(Tryz.prog.info? 144).map (·.size)=some 2:=by kernel_rfl
 have hvs0:w.cell? ⟨vb,voff,none⟩=some (vs[0]'(by omega)):=hvs 0 _ (List.getElem?_eq_getElem (by omega))
 obtain⟨⟨tA,kA⟩,hsa,hkA⟩: ∃q:TypeId×Nat,w.shape? vb=some q∧q.2≠0:=by
  have h0:=hvs0
  simp only[World.cell?] at h0
  simp only[World.shape?]
  cases hh:w.heap[vb]? with
  |none=>rw[hh] at h0;simp at h0
  |some o=>
   rw[hh] at h0
   cases o with
   |cells cs e fr=>
    refine⟨(e,cs.size),rfl,fun hz=> ?_⟩
    have hz:cs.size=0:=hz
    have:cs= #[]:=Array.eq_empty_of_size_eq_zero hz
    subst this
    simp at h0
   |_=>simp at h0
 have hov: ∀lb cb,(callFunc 202 #[.slice (some ⟨vb,voff,none⟩) m vc,.slice (some ⟨b,(i+m)*2,none⟩) lb cb]).run Tryz.prog w= .ok (.value (.bool false)) w:=fun lb cb=>by
  rw[run_callFunc_extern Tryz.func202 (by kernel_rfl) (by kernel_rfl) (by kernel_rfl) (e:=Extern.SlicesOverlaps.overlaps #[24,24] #[4]) (by kernel_rfl),
   aFz w 24 4 144 Tryz.underlying24 2 z144 ⟨vb,voff,none⟩ ⟨b,(i+m)*2,none⟩ m vc lb cb hvb tA 144 kA cur.size hsa hkA (by simp [World.shape?,hg]) (fun o=>Lib.frozen_of_heap hg _) rfl]
  rfl
 have mixed:Tryz.prog.follows .mixedOrders=true:=by kernel_rfl
 obtain⟨mid,hmid⟩: ∃mid,mid=(cur.toList.drop (i*2)).take ((n-i)*2):=⟨_,rfl⟩
 have hml:mid.length=(n-i)*2:=by rw[hmid,List.length_take,List.length_drop,Array.length_toList];omega
 have hmin1:Nat.min (n+m-i) (n+m- (i+m))=n-i:=by simp only[Nat.min_def];split<;>omega
 have hmin2:Nat.min m (n+m-i)=m:=by simp only[Nat.min_def];split<;>omega
 obtain⟨c1,hc1⟩: ∃c1:Array Value,c1=(cur.toList.take ((i+m)*2)++mid++cur.toList.drop ((i+m)*2+mid.length)).toArray:=⟨_,rfl⟩
 have hc1l:c1.size=cur.size:=by rw[hc1];simp only[List.size_toArray,List.length_append,List.length_take,List.length_drop,Array.length_toList,hml];omega
 obtain⟨c2,hc2⟩: ∃c2:Array Value,c2=(c1.toList.take (i*2)++vs++c1.toList.drop (i*2+vs.length)).toArray:=⟨_,rfl⟩
 have hc2l:c2.size=cur.size:=by rw[hc2];simp only[List.size_toArray,List.length_append,List.length_take,List.length_drop,Array.length_toList,hc1l,hvl];omega
 have hcp1: ∀ty dc sc,(Builtin.copy_ #[24,24] ty #[.slice (some ⟨b,(i+m)*2,none⟩) (n+m- (i+m)) dc,.slice (some ⟨b,i*2,none⟩) (n+m-i) sc]).run Tryz.prog w.drew= .ok (goInt (n-i:Nat)) (w.drew.setRow b c1):=fun ty dc sc=>by
  have h:=OJ (P:=Tryz.prog) w.drew 24 24 ty 144 2 b ((i+m)*2) (n+m- (i+m)) dc ⟨b,i*2,none⟩ (n+m-i) sc cur 144 mid Tryz.underlying24 hsz hg (by rw[hml,hmin1]) (fun j v hj=>by
    rw[Addr.add_lit]
    rw[hmid,List.getElem?_take] at hj
    split at hj
    ·rw[List.getElem?_drop,Array.getElem?_toList] at hj
     show (w.cell? ⟨b,i*2+j,none⟩)=_
     rw[Lib.cell_of_heap hg]
     exact hj
    ·cases hj) (by rw[hml];omega) (fun v hv=>h1 v (a7k (hmid▸hv)))
  rw[h,hmin1,hc1]
 have hg1:(w.drew.setRow b c1).heap[b]? =some (.cells c1 144 (0,0)):=setRow_heap w.drew b cur c1 _ _ hg
 have hcp2: ∀ty dc,(Builtin.copy_ #[24,24] ty #[.slice (some ⟨b,i*2,none⟩) (n+m-i) dc,.slice (some ⟨vb,voff,none⟩) m vc]).run Tryz.prog (w.drew.setRow b c1)= .ok (goInt (m:Nat)) ((w.drew.setRow b c1).setRow b c2):=fun ty dc=>by
  have h:=OJ (P:=Tryz.prog) (w.drew.setRow b c1) 24 24 ty 144 2 b (i*2) (n+m-i) dc ⟨vb,voff,none⟩ m vc c1 144 vs Tryz.underlying24 hsz hg1 (by rw[hvl,hmin2]) (fun j v hj=>by
    rw[Addr.add_lit,World.cell?_of_block (w:=w) (a:=⟨vb,voff+j,none⟩) (setRow_other w.drew b vb c1 hvb)]
    exact hvs j v hj) (by rw[hvl,hc1l];omega) h1v
  rw[h,hmin2,hc2]
 have Hmid:=Lib.hid hmid
 have Hc1:=Lib.hid hc1
 have Hc2:=Lib.hid hc2
 have Hs1:=Lib.hid hc1l
 have Hs2:=Lib.hid hc2l
 have Hml:=Lib.hid hml
 clear hmid hc1 hc2 hc1l hc2l hml hmin1 hmin2
 go_enter Tryz.func174,Tryz.ntmps174
 go_wp2_with (simp only[hov])
 go_region_law_o (refine step_copy_runI rfl _ _ 24 24 rfl _ _ (by simp [Act.eval,Act.put]) (by simp [Act.eval,Act.put]) (hcp1 _ _ _) ?_)
 go_wp2_with (at_builtin;refine wpList_copy_runI _ rfl _ _ 24 24 rfl _ _ rfl rfl (hcp2 _ _) ?_)
 go_ret
 refine⟨rfl,c2,?_,Hs2.out,?_⟩
 ·rw[setRow_setRow]
 ·rw[←Hmid.out]
  exact aFB Hc1.out Hc2.out Hml.out hvl (by rw[Array.length_toList];omega) hin
set_option maxHeartbeats 4000000 in
set_option maxRecDepth 100000 in
theorem aFD (base:Option Addr) (n c i:Nat) (v0:Option Addr) (vc:Nat) (w:World) (hi:i≤n) (hnc:n≤c) (hc63:c≤maxLen):
  Calls Tryz.prog 174 #[.slice base n c,.int .i64 i,.slice v0 0 vc] w fun e w'=>e= .returned (.slice base n c)∧w'=w:=by
 have u24:=run_underlying Tryz.underlying24
 go_enter Tryz.func174,Tryz.ntmps174
 go_wp2_with fail
 all_goals (go_ret;exact⟨rfl,rfl⟩)
set_option maxHeartbeats 4000000 in
set_option maxRecDepth 100000 in
theorem aFE (v:Value) (n vb voff m vc:Nat) (xs vs:List Value) (w:World) (hm:0<m) (hown:w.ownsRow 0 144 2 v n xs) (h63:n+m≤maxLen) (hby:(n+m)*32≤140737488355328)
  (hvl:vs.length=m*2) (hvs: ∀j v,vs[j]? =some v→w.cell? ⟨vb,voff+j,none⟩=some v) (h1v: ∀v∈vs,v.oneCell'=true):
  Calls Tryz.prog 174 #[v,.int .i64 n,.slice (some ⟨vb,voff,none⟩) m vc] w fun e w'=>
   ∃q cap,e= .returned (.slice (some ⟨q,0,none⟩) (n+m) cap)∧w'.ownsRow 0 144 2 (.slice (some ⟨q,0,none⟩) (n+m) cap) (n+m) (xs++vs)∧
   (q=w.heap.size∨v.ownBlock=some q)∧w.grownBy w' v.ownBlock:=by
 have u24:=run_underlying Tryz.underlying24
 obtain⟨inf,hi,hsz,hz⟩:=CE a7j
 have hby2:inf.bytes=32:=by
  have:(Tryz.prog.info? 144).map (·.bytes)=some 32:=by kernel_rfl
  rw[hi] at this
  exact Option.some.inj this
 have hrun: ∀ty,∃q cap w',(Builtin.append_ #[24,24] ty #[v,.slice (some ⟨vb,voff,none⟩) m vc]).run Tryz.prog w= .ok (.slice (some ⟨q,0,none⟩) (n+m) cap) w'∧_:=
  fun ty=>S0 (P:=Tryz.prog) w 24 ty 144 inf _ 2 32 Tryz.underlying24 hi hz hsz hby2 (by rfl) v n xs hown ⟨vb,voff,none⟩ m vc vs hvl (fun j u hj=>by rw[Addr.add_lit];exact hvs j u hj) h1v hm h63 hby
 obtain⟨q,cap,w2,hr,h1,h2,h3,h4,h5⟩:=hrun 24
 have H1:=Lib.hid h1
 have H2:=Lib.hid h2
 have H3:=Lib.hid h3
 have Hown:=Lib.hid hown
 have hz1: ¬((m:Int)=0):=by omega
 have hmx:n+m≤9223372036854775807:=by unfold maxLen at h63;omega
 obtain⟨hxl,hv⟩:=hown
 clear h1 h2 h3 h5 hrun hz hsz hby2 hi hxl
 rcases hv with⟨rfl,rfl⟩ |⟨b,c,cur,rfl,_,hbk,hnc,hcm,hcs,htk⟩
 ·clear Hown
  rw[Nat.zero_add] at hr
  go_enter Tryz.func174,Tryz.ntmps174
  go_wp2_with (at_builtin;refine Lib.wpList_append_run _ rfl _ _ _ _ rfl _ _ rfl rfl _ _ hr ?_)
  all_goals (go_ret;exact⟨q,cap,by rw[Nat.zero_add];rfl,H1.out,H2.out,H3.out⟩)
 ·clear hbk hcs htk
  have hcm:c≤9223372036854775807:=by unfold maxLen at hcm;omega
  go_enter Tryz.func174,Tryz.ntmps174
  go_wp2_with (at_builtin;refine Lib.wpList_append_run _ rfl _ _ _ _ rfl _ _ rfl rfl _ _ hr ?_)
  all_goals (go_ret;exact⟨q,cap,rfl,H1.out,H2.out,H3.out⟩)
set_option maxHeartbeats 4000000 in
set_option maxRecDepth 100000 in
theorem aFF (b n c i vb voff m vc:Nat) (cur:Array Value) (vs:List Value) (w:World) (hi:i<n) (hm:0<m) (hnc:n≤c) (hroom:c<n+m) (hbig:(n+m)*32≤140737488355328)
  (hg:w.heap[b]? =some (.cells cur 144 (0,0))) (hcs:cur.size=c*2) (hvl:vs.length=m*2)
  (hvs: ∀j v,vs[j]? =some v→w.cell? ⟨vb,voff+j,none⟩=some v) (h1: ∀v∈cur.toList.take (n*2),v.oneCell'=true) (h1v: ∀v∈vs,v.oneCell'=true):
  Calls Tryz.prog 174 #[.slice (some ⟨b,0,none⟩) n c,.int .i64 i,.slice (some ⟨vb,voff,none⟩) m vc] w fun e w'=>
   ∃G,e= .returned (.slice (some ⟨w.heap.size,0,none⟩) (n+m) G)∧w'.ownsRow 0 144 2 (.slice (some ⟨w.heap.size,0,none⟩) (n+m) G) (n+m) (cur.toList.take (i*2)++vs++(cur.toList.drop (i*2)).take ((n-i)*2))∧w.grownBy w' none:=by
 have u24:=run_underlying Tryz.underlying24
 have mixed:Tryz.prog.follows .mixedOrders=true:=by kernel_rfl
 obtain⟨inf,hinf,hzs,hz⟩:=CE a7j
 have hzb:inf.bytes=32:=by
  have:(Tryz.prog.info? 144).map (·.bytes)=some 32:=by kernel_rfl
  rw[hinf] at this
  exact Option.some.inj this
 have hsz:(Tryz.prog.info? 144).map (·.size)=some 2:=by kernel_rfl
 have hz1: ¬((m:Int)=0):=by omega
 have hz2: ¬((i:Int)=(n:Int)):=by omega
 have hz3:(c:Int)<(n:Int)+(m:Int):=by omega
 have hbw:b<w.heap.size:=by
  rcases Nat.lt_or_ge b w.heap.size with h|h
  ·exact h
  ·rw[Array.getElem?_eq_none h] at hg;cases hg
 have hvw:vb<w.heap.size:=block_lt_of_cell (hvs 0 _ (List.getElem?_eq_getElem (by omega)))
 have hkk:(n:Int)+(m:Int)- (i:Int)=((n+m-i:Nat):Int):=by omega
 have hik:i+(n+m-i)=n+m:=by omega
 have hold:(Builtin.firstCells inf.size i (.slice (some ⟨b,0,none⟩) i c)).run Tryz.prog w.drew= .ok (cur.toList.take (i*2)).toArray w.drew:=by
  rw[hzs]
  exact run_firstCells_some w.drew 2 i ⟨b,0,none⟩ i c (cur.toList.take (i*2)) (by rw[List.length_take,Array.length_toList];omega) (fun j v hj=>by
   rw[Addr.add_lit,Nat.zero_add]
   rw[List.getElem?_take] at hj
   split at hj
   ·rw[Array.getElem?_toList] at hj
    show w.cell? ⟨b,j,none⟩=_
    rw[Lib.cell_of_heap hg]
    exact hj
   ·cases hj)
 have hrz: ∀ty,(Builtin.append_ #[24,3] ty #[.slice (some ⟨b,0,none⟩) i c,.int .i64 ((n:Int)+(m:Int)- (i:Int))]).run Tryz.prog w=
   .ok (.slice (some ⟨w.heap.size,0,none⟩) (n+m) (grownCap w (n+m) c 144)) (w.drew.alloc (.cells ((cur.toList.take (i*2)).toArray++Builtin.zeroCells (tW (.pair .str (.pair .str .unit))).cells (n+m-i)++Builtin.zeroCells (tW (.pair .str (.pair .str .unit))).cells (grownCap w (n+m) c 144- (n+m))) 144)):=fun ty=>by
  have h:=Lib.run_append_grow_zeros (P:=Tryz.prog) w 24 3 ty 144 inf _ .i64 .i64 Tryz.underlying24 Tryz.underlying3 hinf hz (some ⟨b,0,none⟩) i c (cur.toList.take (i*2)) hold (n+m-i) (by omega) (by rw[hzs];decide) (by omega) (by omega) (by rw[hzb];omega) (by rw[hzb,hik];exact growslice_fits hroom hbig)
  rw[hik] at h
  rw[hkk]
  exact h
 obtain⟨G,hG⟩: ∃G,G=grownCap w (n+m) c 144:=⟨_,rfl⟩
 obtain⟨ROW,hROW⟩: ∃ROW:Array Value,ROW=(cur.toList.take (i*2)).toArray++Builtin.zeroCells (tW (.pair .str (.pair .str .unit))).cells (n+m-i)++Builtin.zeroCells (tW (.pair .str (.pair .str .unit))).cells (G- (n+m)):=⟨_,rfl⟩
 rw[←hG] at hrz
 rw[←hROW] at hrz
 have hGn:n+m≤G:=by rw[hG];exact grownCap_ge w _ _ _
 have hGm:G≤maxLen:=by rw[hG];exact grownCap_le_maxLen w (n+m) c _ (by unfold maxLen;omega)
 have hzc:(tW (.pair .str (.pair .str .unit))).cells.size=2:=rfl
 have hRl:ROW.size=G*2:=by
  rw[hROW]
  simp only[Array.size_append,List.size_toArray,size_zeroCells,hzc,List.length_take,Array.length_toList]
  omega
 have hRt:ROW.toList.take (i*2)=cur.toList.take (i*2):=by
  rw[hROW]
  simp only[Array.toList_append,List.append_assoc]
  rw[List.take_append_of_le_length (by rw[List.length_take,Array.length_toList];omega),List.take_take,Nat.min_self]
 obtain⟨q,hq⟩: ∃q,q=w.heap.size:=⟨_,rfl⟩
 obtain⟨mid,hmid⟩: ∃mid,mid=(cur.toList.drop (i*2)).take ((n-i)*2):=⟨_,rfl⟩
 have hml:mid.length=(n-i)*2:=by rw[hmid,List.length_take,List.length_drop,Array.length_toList];omega
 have hmin1:Nat.min m (n+m-i)=m:=by simp only[Nat.min_def];split<;>omega
 have hmin2:Nat.min (n-i) (n+m- (i+m))=n-i:=by simp only[Nat.min_def];split<;>omega
 obtain⟨c1,hc1⟩: ∃c1:Array Value,c1=(ROW.toList.take (i*2)++vs++ROW.toList.drop (i*2+vs.length)).toArray:=⟨_,rfl⟩
 have hc1l:c1.size=G*2:=by rw[hc1];simp only[List.size_toArray,List.length_append,List.length_take,List.length_drop,Array.length_toList,hRl,hvl];omega
 obtain⟨c2,hc2⟩: ∃c2:Array Value,c2=(c1.toList.take ((i+m)*2)++mid++c1.toList.drop ((i+m)*2+mid.length)).toArray:=⟨_,rfl⟩
 have hc2l:c2.size=G*2:=by rw[hc2];simp only[List.size_toArray,List.length_append,List.length_take,List.length_drop,Array.length_toList,hc1l,hml];omega
 obtain⟨W1,hW1⟩: ∃W1,W1=w.drew.alloc (.cells ROW 144):=⟨_,rfl⟩
 rw[←hW1] at hrz
 have hbq:b≠q:=by omega
 have hvq:vb≠q:=by omega
 have hg1:W1.heap[q]? =some (.cells ROW 144 (0,0)):=by rw[hW1,hq];exact heap_alloc_new w.drew _
 have hO1: ∀k,k<w.heap.size→W1.heap[k]? =w.heap[k]? :=fun k hk=>by rw[hW1];exact Below.heap_alloc w.drew _ k hk
 have hcpA: ∀(W:World),W.heap=W1.heap→∀ty dc,(Builtin.copy_ #[24,24] ty #[.slice (some ⟨q,i*2,none⟩) (n+m-i) dc,.slice (some ⟨vb,voff,none⟩) m vc]).run Tryz.prog W= .ok (goInt (m:Nat)) (W.setRow q c1):=fun W hW ty dc=>by
  have h:=OJ (P:=Tryz.prog) W 24 24 ty 144 2 q (i*2) (n+m-i) dc ⟨vb,voff,none⟩ m vc ROW 144 vs Tryz.underlying24 hsz (by rw[hW];exact hg1) (by rw[hvl,hmin1]) (fun j v hj=>by
    rw[Addr.add_lit,World.cell?_of_block (w:=w) (a:=⟨vb,voff+j,none⟩) (by rw[hW];exact hO1 vb hvw)]
    exact hvs j v hj) (by rw[hvl,hRl];omega) h1v
  rw[h,hmin1,hc1]
 have hcpB: ∀(W:World),W.heap=(W1.setRow q c1).heap→∀ty dc sc,(Builtin.copy_ #[24,24] ty #[.slice (some ⟨q,(i+m)*2,none⟩) (n+m- (i+m)) dc,.slice (some ⟨b,i*2,none⟩) (n-i) sc]).run Tryz.prog W= .ok (goInt (n-i:Nat)) (W.setRow q c2):=fun W hW ty dc sc=>by
  have h:=OJ (P:=Tryz.prog) W 24 24 ty 144 2 q ((i+m)*2) (n+m- (i+m)) dc ⟨b,i*2,none⟩ (n-i) sc c1 144 mid Tryz.underlying24 hsz (by rw[hW];exact setRow_heap W1 q ROW c1 _ _ hg1) (by rw[hml,hmin2]) (fun j v hj=>by
    rw[Addr.add_lit,World.cell?_of_block (w:=w) (a:=⟨b,i*2+j,none⟩) (by rw[hW,setRow_other W1 q b c1 hbq];exact hO1 b hbw),Lib.cell_of_heap hg]
    rw[hmid,List.getElem?_take] at hj
    split at hj
    ·rw[List.getElem?_drop,Array.getElem?_toList] at hj
     exact hj
    ·cases hj) (by rw[hml,hc1l];omega) (fun v hv=>h1 v (a7k (hmid▸hv)))
  rw[h,hmin2,hc2]
 have hGi: ¬(G=i):=by omega
 have hGim: ¬(G=i+m):=by omega
 have hci: ¬(c=i):=by omega
 have hw1:IntKind.i64.wrap ((i:Int)+(m:Int))=(i:Int)+(m:Int):=by rw[IntKind.wrap_i64];omega
 have hw2:IntKind.i64.wrap ((n:Int)+(m:Int))=(n:Int)+(m:Int):=by rw[IntKind.wrap_i64];omega
 have hw3:IntKind.i64.wrap ((n:Int)+(m:Int)- (i:Int))=(n:Int)+(m:Int)- (i:Int):=by rw[IntKind.wrap_i64];omega
 have hb1:(0:Int)≤(i:Int)+(m:Int):=by omega
 have hin:i≤n:=by omega
 have htn:((i:Int)+(m:Int)).toNat=i+m:=by omega
 have hb3:(i:Int)≤(n:Int):=by omega
 have hG63:G≤9223372036854775807:=by unfold maxLen at hGm;omega
 rw[←hq] at hrz⊢
 have hend: ∀W:World,W.heap=((W1.setRow q c1).setRow q c2).heap→W.os=w.os→W.tape=w.tape→W.output=w.output→
   W.ownsRow 0 144 2 (.slice (some ⟨q,0,none⟩) (n+m) G) (n+m) (cur.toList.take (i*2)++vs++mid)∧w.grownBy W none:=fun W hW e1 e2 e3=>by
  have hg2:W.heap[q]? =some (.cells c2 144 (0,0)):=by rw[hW];exact setRow_heap (W1.setRow q c1) q c1 c2 _ _ (setRow_heap W1 q ROW c1 _ _ hg1)
  have hs:w.heap.size≤W.heap.size:=by
   have:=(Array.getElem?_eq_some_iff.1 hg2).1
   omega
  refine⟨⟨?_,.inr ⟨q,G,c2,rfl,Nat.zero_le _,hg2,hGn,hGm,hc2l,?_⟩⟩,⟨e1,e2,e3,hs,fun k hk _=> ?_⟩⟩
  ·simp only[List.length_append,List.length_take,Array.length_toList,hml,hvl];omega
  ·have x1:c1.toList=cur.toList.take (i*2)++vs++ROW.toList.drop (i*2+vs.length):=by rw[hc1,hRt]
   have l1:(cur.toList.take (i*2)++vs).length=(i+m)*2:=by rw[List.length_append,List.length_take,Array.length_toList,hvl];omega
   have x2:c2.toList=cur.toList.take (i*2)++vs++mid++c1.toList.drop ((i+m)*2+mid.length):=by
    rw[hc2]
    show c1.toList.take ((i+m)*2)++mid++_=_
    rw[x1,←l1,List.take_left]
   rw[x2,show (n+m)*2=(cur.toList.take (i*2)++vs++mid).length by rw[List.length_append,l1,hml];omega,List.take_left]
  ·rw[hW,setRow_other _ q k c2 (by omega),setRow_other _ q k c1 (by omega)]
   exact hO1 k hk
 have Hmid:=Lib.hid hmid
 have Hq:=Lib.hid hq
 have Hend:=Lib.hid hend
 have HW1:=Lib.hid hW1
 clear hkk hik hold hROW hG hRl hmid hq hend hW1 hc1 hc2 hc1l hc2l hml hmin1 hmin2 hz hzs hzb hinf hRt hg1 hO1
 go_enter Tryz.func174,Tryz.ntmps174
 go_wp2_with (first
  |(at_builtin;refine Lib.wpList_append_run _ rfl _ _ _ _ rfl _ _ rfl rfl _ _ (hrz _) ?_)
  |(at_builtin;refine wpList_copy_runI _ rfl _ _ 24 24 rfl _ _ rfl rfl (hcpA _ rfl _ _) ?_))
 go_region_law_o (refine step_copy_runI rfl _ _ 24 24 rfl (.slice (some ⟨q,(i+m)*2,none⟩) (n+m- (i+m)) (G- (i+m))) (.slice (some ⟨b,i*2,none⟩) (n-i) (c-i)) (by simp [Act.eval,Act.put]) (by simp [Act.eval,Act.put]) (hcpB (W1.setRow q c1).drew rfl _ (G- (i+m)) (c-i)) ?_)
 go_wp2_with fail
 go_ret
 rw[←Hmid.out]
 exact⟨G,rfl,Hend.out _ rfl (by rw[HW1.out];rfl) (by rw[HW1.out];rfl) (by rw[HW1.out];rfl)⟩
theorem aFG (v:Value) (n i m vc:Nat) (v0:Option Addr) (xs vs:List Value) (w:World) (hin:i≤n) (hown:w.ownsRow 0 144 2 v n xs) (hby:(n+m)*32≤140737488355328)
  (h1: ∀u∈xs,u.oneCell'=true) (hv0:m=0∨∃vb voff,v0=some ⟨vb,voff,none⟩∧v.ownBlock≠some vb∧∀j u,vs[j]? =some u→w.cell? ⟨vb,voff+j,none⟩=some u)
  (hvl:vs.length=m*2) (h1v: ∀v∈vs,v.oneCell'=true):
  Calls Tryz.prog 174 #[v,.int .i64 i,.slice v0 m vc] w fun e w'=>
   ∃v',e= .returned v'∧w'.ownsRow 0 144 2 v' (n+m) (xs.take (i*2)++vs++xs.drop (i*2))∧(m=0→v'=v)∧(∀b,v'.ownBlock=some b→b=w.heap.size∨v.ownBlock=some b)∧w.grownBy w' v.ownBlock:=by
 have h63:n+m≤maxLen:=by unfold maxLen;omega
 rcases Nat.eq_zero_or_pos m with hm|hm
 ·subst hm
  have hvs:vs=[]:=List.length_eq_zero_iff.1 (by omega)
  subst hvs
  have hres:w.ownsRow 0 144 2 v (n+0) (xs.take (i*2)++[]++xs.drop (i*2)):=by
   rw[List.append_nil,List.take_append_drop];exact hown
  obtain⟨base,c,rfl,hnc,hc⟩: ∃base c,v= .slice base n c∧n≤c∧c≤maxLen:=by
   rcases hown.2 with⟨rfl,rfl⟩ |⟨b,c,cur,rfl,_,_,h2,h3,_⟩
   ·exact⟨none,0,rfl,Nat.le_refl _,by unfold maxLen;omega⟩
   ·exact⟨_,c,rfl,h2,h3⟩
  refine(aFD base n c i v0 vc w hin hnc hc).mono ?_
  rintro e w' ⟨rfl,rfl⟩
  exact⟨_,rfl,hres,fun _=>rfl,fun b hb=> .inr hb,World.grownBy.refl _ _⟩
 ·obtain⟨vb,voff,rfl,hvb,hvs⟩: ∃vb voff,v0=some ⟨vb,voff,none⟩∧v.ownBlock≠some vb∧∀j u,vs[j]? =some u→w.cell? ⟨vb,voff+j,none⟩=some u:=by
   rcases hv0 with h|h
   ·omega
   ·exact h
  have hxl:=hown.1
  rcases Nat.lt_or_ge i n with hlt|hge
  ·rcases hown.2 with⟨rfl,rfl⟩ |⟨b,c,cur,rfl,_,hbk,hnc,hcm,hcs,htk⟩
   ·omega
   ·have hb:vb≠b:=fun h=>hvb (by rw[h];rfl)
    have hx1:cur.toList.take (i*2)=xs.take (i*2):=by rw[←htk,List.take_take,Nat.min_eq_left (by omega)]
    have hx2:(cur.toList.drop (i*2)).take ((n-i)*2)=xs.drop (i*2):=by rw[aFA hin,htk]
    rcases Nat.lt_or_ge c (n+m) with hr|hr
    ·refine(aFF b n c i vb voff m vc cur vs w hlt hm hnc hr hby hbk hcs hvl hvs (by rw[htk];exact h1) h1v).mono ?_
     rintro e w' ⟨G,rfl,ho,hg⟩
     rw[hx1,hx2] at ho
     exact⟨_,rfl,ho,fun h=>by omega,fun b hb=> .inl (by simpa[Value.ownBlock] using hb.symm),⟨hg.os,hg.tape,hg.output,hg.size,fun k hk _=>hg.block k hk (by simp)⟩⟩
    ·refine(aFC b n c i vb voff m vc cur vs w hlt hm hr hcm hb hbk hcs hvl hvs (by rw[htk];exact h1) h1v).mono ?_
     rintro e w' ⟨rfl,cur',rfl,hs,ht⟩
     rw[hx1,hx2] at ht
     refine⟨_,rfl,⟨?_,.inr ⟨b,c,cur',rfl,Nat.zero_le _,setRow_heap w.drew b cur cur' _ _ hbk,hr,hcm,by rw[hs,hcs],ht⟩⟩,fun h=>by omega,fun b' hb'=> .inr hb',⟨rfl,rfl,rfl,by simp,fun k hk hne=>setRow_other w.drew b k cur' (fun h=>hne (by rw[h];rfl))⟩⟩
     simp only[List.length_append,List.length_take,List.length_drop,hxl,hvl];omega
  ·obtain rfl:i=n:=by omega
   refine(aFE v i vb voff m vc xs vs w hm hown h63 hby hvl hvs h1v).mono ?_
   rintro e w' ⟨q,cap,rfl,ho,hq,hg⟩
   refine⟨_,rfl,?_,fun h=>by omega,fun b hb=> ?_,hg⟩
   ·rw[←hxl,List.take_length,List.drop_length,List.append_nil];exact ho
   ·have hb:q=b:=by simpa[Value.ownBlock] using hb
    exact hb▸hq
theorem a7l {α:Type}{R:α→List Value→Prop}{c:Nat}: ∀{l:List α}{cs:List Value}(i:Nat),qR R c l cs→qR R c (l.take i) (cs.take (i*c))
 |_,_,0,_=>by simp [qR]
 |[],_,_+1,h=>by rw[show _=[] from h];simp [qR]
 |x::l,_,i+1,⟨c1,c2,e,h1,h2,h3⟩=>by
  refine⟨c1,c2.take (i*c),?_,h1,h2,a7l i h3⟩
  rw[e,Nat.succ_mul,Nat.add_comm,←h1,List.take_length_add_append]
theorem a7m {α:Type}{R:α→List Value→Prop}{c:Nat}: ∀{l:List α}{cs:List Value}(i:Nat),qR R c l cs→qR R c (l.drop i) (cs.drop (i*c))
 |_,_,0,h=>by simpa using h
 |[],_,_+1,h=>by rw[show _=[] from h];simp [qR]
 |x::l,_,i+1,⟨c1,c2,e,h1,h2,h3⟩=>by
  rw[e,show (i+1)*c=c1.length+i*c by rw[h1,Nat.succ_mul,Nat.add_comm],List.drop_length_add_append]
  exact a7m i h3
def yA {t:Type}(l:List t) (i:Int) (v:List t):List t:=List.take i.toNat l++v++List.drop i.toNat l
@[go_sem] def TP:List Slot→List Blk→Option Ret
 |[(.own 0 O,none),(.val (.int .i64) Z,none),(.val (.list (.pair .str (.pair .str .unit))) aA,none)],[.row 144 (.pair .str (.pair .str .unit)) aB aC]=>
  some ⟨[O=aC,0≤Z∧Z≤List.length aB,(List.length aB+List.length aA)*32≤140737488355328],[(.own 0 (List.length (yA aB Z aA)),none)],[.row 144 (.pair .str (.pair .str .unit)) (yA aB Z aA) (List.length (yA aB Z aA))]⟩
 |_,_=>none
set_option maxRecDepth 100000 in
theorem aFH:vZ Tryz.prog 174 TP:=by
 refine⟨fun _ _=>rfl,fun g w args vals L r hH ha hC hs=> ?_⟩
 unfold TP at hC
 split at hC
 ·rename_i n iI vl l n2
  cases hC
  obtain rfl:n=n2:=hs _ (by simp)
  obtain⟨hi0,hil⟩:=hs (0≤iI∧iI≤List.length l) (by simp)
  have hby:=hs ((List.length l+List.length vl)*32≤140737488355328) (by simp)
  clear hs
  obtain⟨va,_,rfl,ra,vb,_,rfl,rb,vc,_,rfl,rc,hv⟩:=ha
  cases hv
  have hg0:getH (enumH 0 [Blk.row 144 (.pair .str (.pair .str .unit)) l n]) 0=some (.row 144 (.pair .str (.pair .str .unit)) l n):=rfl
  obtain⟨hl,v,xs,hcur,hown,hF,hnone,hseal⟩:=hH.blk 0 _ hg0
  have hva:va=v:=by
   have:=ra.1.1
   rw[hcur] at this
   exact(Option.some.inj this).symm
  subst hva
  obtain⟨i,rfl⟩:=Int.eq_ofNat_of_zero_le hi0
  have hvb:vb= .int .i64 i:=tG rb.1
  subst hvb
  obtain⟨a,cap,rfl,hcap,hlist⟩:=AB rc.1
  have hRone: ∀(x:(Ty.pair .str (.pair .str .unit)).den) cs,Rd g w (.pair .str (.pair .str .unit)) x cs→∀v∈cs,v.oneCell'=true:=fun x cs h=>y5 h
  obtain⟨vs,hFv,hv0⟩: ∃vs,qR (Rd g w (.pair .str (.pair .str .unit))) 2 vl vs∧(vl.length=0∨∃vb voff,a=some ⟨vb,voff,none⟩∧va.ownBlock≠some vb∧∀j u,vs[j]? =some u→w.cell? ⟨vb,voff+j,none⟩=some u):=by
   rcases hlist with rfl|⟨b,o,rfl,hL⟩
   ·exact⟨[],rfl,.inl rfl⟩
   ·obtain⟨cs,h1,h2,h3⟩:=HE hL
    rcases Nat.eq_zero_or_pos vl.length with h0|h0
    ·exact⟨cs,h1,.inl h0⟩
    ·exact⟨cs,h1,.inr ⟨b,o,rfl,fun hb=>hseal b hb _ (h3 0 (Nat.mul_pos h0 (by decide))),h2⟩⟩
  have hvl:=DS hFv
  have hil2:(i:Int)≤(l.length:Int):=hil
  have hil':i≤n:=by omega
  subst hl
  refine(aFG va l.length i vl.length cap a xs vs w (by omega) hown hby (K0 hRone hF) hv0 hvl (K0 hRone hFv)).mono ?_
  rintro e w' ⟨v',rfl,hown',hm0,hob,hgr⟩
  have hlen:(yA l (i:Int) vl).length=l.length+vl.length:=by
   simp only[yA,Int.toNat_natCast,List.length_append,List.length_take,List.length_drop];omega
  have hF':qR (Rd g w (.pair .str (.pair .str .unit))) 2 (yA l (i:Int) vl) (xs.take (i*2)++vs++xs.drop (i*2)):=by
   unfold yA
   rw[Int.toNat_natCast]
   exact JS (JS (a7l i hF) hFv) (a7m i hF)
  have hsl: ∀b o,g.S b o→w'.cell? ⟨b,o,none⟩=w.cell? ⟨b,o,none⟩:=fun b o h=>World.cell?_of_block (a:=⟨b,o,none⟩) (hgr.block b (hH.sl b o h) (fun e=>hseal b e.symm o h))
  have hE:=EffOk.row (side:=[]) (rds:=[]) (s:=(.own 0 (yA l (i:Int) vl).length,none)) (val:=v') (k:=0) (g:=g) (w:=w) (H:=enumH 0 [Blk.row 144 (.pair .str (.pair .str .unit)) l l.length]) hH (e:=144) (t:= .pair .str (.pair .str .unit)) (l:=yA l (i:Int) vl) (n:=(yA l (i:Int) vl).length) (v:=v') rfl (by rw[hlen];exact hown') hF'
   (fun m hm=>hnone m (by omega)) (fun u hu=>by
    rcases Nat.eq_zero_or_pos vl.length with h0|h0
    ·rw[hlen,h0,Nat.add_zero,hcur] at hu
     rw[hm0 h0]
     exact(Option.some.inj hu).symm
    ·rw[hnone _ (by omega)] at hu;cases hu)
   (.inr ⟨va.ownBlock,hgr,fun b hb o=>⟨0,_,by simp,hg0,va,hcur,hb⟩⟩) hsl
   (fun b hb o hS=>by
    rcases hob b hb with h|h
    ·have:=hH.sl b o hS;omega
    ·exact hseal b h o hS)
   (fun b hb=>(hob b hb).imp (fun h=>by omega) fun h o=>⟨0,_,by simp,hg0,va,hcur,h⟩)
   ⟨⟨by simp [Gh.tok],by
    rw[hlen]
    rcases hown'.2 with⟨rfl,h⟩ |⟨b,cap',_,rfl,_,_,h,_⟩
    ·exact .inl ⟨rfl,h⟩
    ·exact .inr ⟨b,cap',rfl,h⟩⟩,trivial⟩
  refine⟨v',_,rfl,⟨fun b o h=>⟨hE.le.S b o h,hE.le.cell b o h⟩,hE.heap.ext ?_,hE.slot,hE.fr.mono fun b o ⟨i,blk,_,h1,h2⟩=>⟨i,blk,h1,h2⟩,fun i blk b o hi ho=> ?_,fun i t x ts h=> ?_,fun i t x ts u y us h _=> ?_,fun _ _ _ h=>h,fun i m u hi h=> ?_⟩⟩
  ·intro i
   match i with
   |0=>rfl
   |i+1=>rfl
  ·match i,hi with
   |0,hi=>
    cases hi
    exact(hE.perm 0 _ b o (by simp [idsOf]) rfl ho).imp id fun⟨i,blk,_,h1,h2⟩=>⟨i,blk,h1,h2⟩
   |i+1,hi=>simp at hi
  ·match i,h with
   |0,h=>cases h
   |i+1,h=>simp at h
  ·match i,h with
   |0,h=>cases h
   |i+1,h=>simp at h
  ·exact hE.le.cur i m u h
 ·cases hC
end Go.Proofs.YtfchbnahjcdiiaaGreatDoor
namespace Go.Proofs.YtfchbnahjcdiiaaGreatDoor
open Vc
set_option maxRecDepth 100000
set_option maxHeartbeats 4000000
set_option linter.unusedSimpArgs false
set_option linter.unusedVariables false
noncomputable section
@[reducible] def p9:Type:=((List UInt8)×((List UInt8)×Unit))
@[reducible] def pX:Type:=((List UInt8)×((List UInt8)×((List UInt8)×((List (List UInt8))×((List (List UInt8))×(Int×((List p9)×Unit)))))))
@[reducible,go_sem] def uJ:Ty:=(.pair .str (.pair .str (.pair .str (.pair (.list .str) (.pair (.list .str) (.pair (.int .i64) (.pair (.list (.pair .str (.pair .str .unit))) .unit)))))))
@[reducible,go_sem] def vF:Ty:=(.pair .str (.pair (.list .str) (.pair (.list (.pair .str (.pair .str .unit))) (.pair (.list uJ) .unit))))
@[reducible,go_sem] def AD:Ty:=(.pair .str (.pair (.list .str) (.pair .str .unit)))
@[reducible] def tZ:Type:=((List UInt8)×((List (List UInt8))×((List UInt8)×Unit)))
@[reducible,go_sem] def uU:Ty:=(.pair .mref (.pair (.list (.int .u8)) .unit))
@[reducible,go_sem] def sC:Ty:=(.pair .str (.pair (.int .i64) .unit))
@[reducible,go_sem] def CJ:Ty:=(.pair (.int .i64) (.pair .str (.pair (.int .i64) (.pair (.int .i64) .unit))))
@[reducible,go_sem] def q8:Ty:=(.pair sC (.pair CJ (.pair (.int .i64) (.pair (.int .i64) (.pair vF (.pair .mp (.pair (.list (.int .i64)) (.pair (.int .i64) .unit))))))))
@[reducible,go_sem] def rZ:Ty:=(.pair .str (.pair (.int .i64) (.pair (.int .i64) (.pair (.int .i64) (.pair vF (.pair (.list (.int .i64)) .unit))))))
@[reducible] def qA:Type:=(Int×((List UInt8)×(Int×(Int×Unit))))
@[reducible] def qB:Type:=((List UInt8)×((List (List UInt8))×((List p9)×((List pX)×Unit))))
@[reducible] def tD:Type:=((List UInt8)×(Int×(Int×(Int×(qB×((List Int)×Unit))))))
@[reducible,go_sem] def yT8:Ty:=(.pair .str (.pair .str (.pair .str (.pair (.list .str) (.pair (.rl 9 .str) (.pair (.int .i64) (.pair (.list (.pair .str (.pair .str .unit))) .unit)))))))
@[reducible,go_sem] def r8:Ty:=(.pair yT8 (.pair .bool (.pair .mp .unit)))
@[reducible,go_sem] def E2:Ty:=(.pair .bool (.pair .bool (.pair .bool .unit)))
@[reducible,go_sem] def KM:Ty:=(.pair (.int .i64) (.pair .str .unit))
@[reducible,go_sem] def a7o:Ty:=(.pair uJ (.pair .bool (.pair .mp .unit)))
@[reducible,go_sem] def q7:Nat×TI:=(9,⟨.str,0,0,false,[]⟩)
theorem q9:qM Tryz.prog q7.1 q7.2:=⟨by kernel_rfl,(show Tryz.prog.underlying _=_ from by kernel_rfl)⟩
@[reducible,go_sem] def uK:Nat×TI:=(23,⟨(.list .str),9,16,false,[]⟩)
theorem vG:qM Tryz.prog uK.1 uK.2:=⟨by kernel_rfl,(show _∧_∧_ from⟨by kernel_rfl,by kernel_rfl,by kernel_rfl⟩)⟩
@[reducible,go_sem] def KN:Nat×TI:=(34,⟨AD,0,0,false,[(1,9,1)]⟩)
theorem TQ:qM Tryz.prog KN.1 KN.2:=⟨by kernel_rfl,(show ((_∧∃_,_∧_)∨_)∧_ from⟨.inl ⟨rfl,_,Tryz.underlying34,(show _∧_∧_∧_ from⟨rfl,by kernel_rfl,by kernel_rfl,(show _∧_∧_∧_ from⟨rfl,by kernel_rfl,by kernel_rfl,(show _∧_∧_∧_ from⟨rfl,by kernel_rfl,by kernel_rfl,trivial⟩)⟩)⟩)⟩,(fun h=>absurd h (by decide))⟩)⟩
@[reducible,go_sem] def BF:Nat×TI:=(37,⟨AD,0,0,false,[(1,9,1)]⟩)
theorem E3:qM Tryz.prog BF.1 BF.2:=⟨by kernel_rfl,(show ((_∧∃_,_∧_)∨_)∧_ from⟨.inl ⟨rfl,_,Tryz.underlying37,(show _∧_∧_∧_ from⟨rfl,by kernel_rfl,by kernel_rfl,(show _∧_∧_∧_ from⟨rfl,by kernel_rfl,by kernel_rfl,(show _∧_∧_∧_ from⟨rfl,by kernel_rfl,by kernel_rfl,trivial⟩)⟩)⟩)⟩,(fun h=>absurd h (by decide))⟩)⟩
@[reducible,go_sem] def AE:Nat×TI:=(42,⟨(.list (.int .u8)),5,1,false,[]⟩)
theorem CK:qM Tryz.prog AE.1 AE.2:=⟨by kernel_rfl,(show _∧_∧_ from⟨by kernel_rfl,by kernel_rfl,by kernel_rfl⟩)⟩
@[reducible,go_sem] def G0:Nat×TI:=(77,⟨uU,0,0,false,[(1,5,1)]⟩)
theorem KO:qM Tryz.prog G0.1 G0.2:=⟨by kernel_rfl,(show ((_∧∃_,_∧_)∨_)∧_ from⟨.inl ⟨rfl,_,Tryz.underlying77,(show _∧_∧_∧_ from⟨rfl,by kernel_rfl,by kernel_rfl,(show _∧_∧_∧_ from⟨rfl,by kernel_rfl,by kernel_rfl,trivial⟩)⟩)⟩,(fun h=>absurd h (by decide))⟩)⟩
@[reducible,go_sem] def AJ:Nat×TI:=(24,⟨(.list (.pair .str (.pair .str .unit))),144,32,false,[]⟩)
theorem CO:qM Tryz.prog AJ.1 AJ.2:=⟨by kernel_rfl,(show _∧_∧_ from⟨by kernel_rfl,by kernel_rfl,by kernel_rfl⟩)⟩
@[reducible,go_sem] def BI:Nat×TI:=(144,⟨(.pair .str (.pair .str .unit)),0,1,false,[]⟩)
theorem E6:qM Tryz.prog BI.1 BI.2:=⟨by kernel_rfl,(show ((_∧∃_,_∧_)∨_)∧_ from⟨.inl ⟨rfl,_,Tryz.underlying144,(show _∧_∧_∧_ from⟨rfl,by kernel_rfl,by kernel_rfl,(show _∧_∧_∧_ from⟨rfl,by kernel_rfl,by kernel_rfl,trivial⟩)⟩)⟩,(fun _=>⟨by kernel_rfl,1,by decide,(.struct rfl Tryz.underlying144 (by kernel_rfl) (.cons (by decide) rfl (by kernel_rfl) (by kernel_rfl) (.str Tryz.underlying9) (.cons (by decide) rfl (by kernel_rfl) (by kernel_rfl) (.str Tryz.underlying9) .nil)))⟩)⟩)⟩
@[reducible,go_sem] def s5:Nat×TI:=(3,⟨(.int .i64),0,0,false,[]⟩)
theorem sG:qM Tryz.prog s5.1 s5.2:=⟨by kernel_rfl,(show Tryz.prog.underlying _=_ from by kernel_rfl)⟩
@[reducible,go_sem] def yU:Nat×TI:=(52,⟨uJ,0,0,false,[(3,9,1),(4,9,1),(6,144,2)]⟩)
theorem AI:qM Tryz.prog yU.1 yU.2:=⟨by kernel_rfl,(show ((_∧∃_,_∧_)∨_)∧_ from⟨.inl ⟨rfl,_,Tryz.underlying52,(show _∧_∧_∧_ from⟨rfl,by kernel_rfl,by kernel_rfl,(show _∧_∧_∧_ from⟨rfl,by kernel_rfl,by kernel_rfl,(show _∧_∧_∧_ from⟨rfl,by kernel_rfl,by kernel_rfl,(show _∧_∧_∧_ from⟨rfl,by kernel_rfl,by kernel_rfl,(show _∧_∧_∧_ from⟨rfl,by kernel_rfl,by kernel_rfl,(show _∧_∧_∧_ from⟨rfl,by kernel_rfl,by kernel_rfl,(show _∧_∧_∧_ from⟨rfl,by kernel_rfl,by kernel_rfl,trivial⟩)⟩)⟩)⟩)⟩)⟩)⟩)⟩,(fun h=>absurd h (by decide))⟩)⟩
@[reducible,go_sem] def zP:Nat×TI:=(5,⟨(.int .u8),0,0,false,[]⟩)
theorem BG:qM Tryz.prog zP.1 zP.2:=⟨by kernel_rfl,(show Tryz.prog.underlying _=_ from by kernel_rfl)⟩
@[reducible,go_sem] def HR:Nat×TI:=(21,⟨(.int .i32),0,0,false,[]⟩)
theorem OK:qM Tryz.prog HR.1 HR.2:=⟨by kernel_rfl,(show Tryz.prog.underlying _=_ from by kernel_rfl)⟩
@[reducible,go_sem] def BH:Nat×TI:=(4,⟨.bool,0,0,false,[]⟩)
theorem E4:qM Tryz.prog BH.1 BH.2:=⟨by kernel_rfl,(show Tryz.prog.underlying _=_ from by kernel_rfl)⟩
@[reducible,go_sem] def OL:Nat×TI:=(53,⟨.ref,0,0,false,[]⟩)
theorem a7p:qM Tryz.prog OL.1 OL.2:=⟨by kernel_rfl,(show∃_,_ from⟨_,Tryz.underlying53⟩)⟩
@[reducible,go_sem] def G1:Nat×TI:=(59,⟨.mp,9,4,false,[]⟩)
theorem KP:qM Tryz.prog G1.1 G1.2:=⟨by kernel_rfl,(show Tryz.prog.underlying _=_ from by kernel_rfl)⟩
@[reducible,go_sem] def uV:Nat×TI:=(62,⟨q8,0,0,false,[(9,9,1),(10,144,2),(11,52,7),(13,3,1)]⟩)
theorem w6:qM Tryz.prog uV.1 uV.2:=⟨by kernel_rfl,(show ((_∧∃_,_∧_)∨_)∧_ from⟨.inl ⟨rfl,_,Tryz.underlying62,(show _∧_∧_∧_ from⟨rfl,by kernel_rfl,by kernel_rfl,(show _∧_∧_∧_ from⟨rfl,by kernel_rfl,by kernel_rfl,(show _∧_∧_∧_ from⟨rfl,by kernel_rfl,by kernel_rfl,(show _∧_∧_∧_ from⟨rfl,by kernel_rfl,by kernel_rfl,(show _∧_∧_∧_ from⟨rfl,by kernel_rfl,by kernel_rfl,(show _∧_∧_∧_ from⟨rfl,by kernel_rfl,by kernel_rfl,(show _∧_∧_∧_ from⟨rfl,by kernel_rfl,by kernel_rfl,(show _∧_∧_∧_ from⟨rfl,by kernel_rfl,by kernel_rfl,trivial⟩)⟩)⟩)⟩)⟩)⟩)⟩)⟩)⟩,(fun h=>absurd h (by decide))⟩)⟩
@[reducible,go_sem] def vH:Nat×TI:=(28,⟨(.int .i64),0,0,false,[]⟩)
theorem wQ:qM Tryz.prog vH.1 vH.2:=⟨by kernel_rfl,(show Tryz.prog.underlying _=_ from by kernel_rfl)⟩
@[reducible,go_sem] def AF:Nat×TI:=(91,⟨rZ,0,0,false,[(5,9,1),(6,144,2),(7,52,7),(8,3,1)]⟩)
theorem CL:qM Tryz.prog AF.1 AF.2:=⟨by kernel_rfl,(show ((_∧∃_,_∧_)∨_)∧_ from⟨.inl ⟨rfl,_,Tryz.underlying91,(show _∧_∧_∧_ from⟨rfl,by kernel_rfl,by kernel_rfl,(show _∧_∧_∧_ from⟨rfl,by kernel_rfl,by kernel_rfl,(show _∧_∧_∧_ from⟨rfl,by kernel_rfl,by kernel_rfl,(show _∧_∧_∧_ from⟨rfl,by kernel_rfl,by kernel_rfl,(show _∧_∧_∧_ from⟨rfl,by kernel_rfl,by kernel_rfl,(show _∧_∧_∧_ from⟨rfl,by kernel_rfl,by kernel_rfl,trivial⟩)⟩)⟩)⟩)⟩)⟩)⟩,(fun h=>absurd h (by decide))⟩)⟩
@[reducible,go_sem] def AG:Nat×TI:=(134,⟨CJ,0,1,false,[]⟩)
theorem CM:qM Tryz.prog AG.1 AG.2:=⟨by kernel_rfl,(show ((_∧∃_,_∧_)∨_)∧_ from⟨.inl ⟨rfl,_,Tryz.underlying134,(show _∧_∧_∧_ from⟨rfl,by kernel_rfl,by kernel_rfl,(show _∧_∧_∧_ from⟨rfl,by kernel_rfl,by kernel_rfl,(show _∧_∧_∧_ from⟨rfl,by kernel_rfl,by kernel_rfl,(show _∧_∧_∧_ from⟨rfl,by kernel_rfl,by kernel_rfl,trivial⟩)⟩)⟩)⟩)⟩,(fun _=>⟨by kernel_rfl,1,by decide,(.struct rfl Tryz.underlying134 (by kernel_rfl) (.cons (by decide) rfl (by kernel_rfl) (by kernel_rfl) (.int Tryz.underlying3) (.cons (by decide) rfl (by kernel_rfl) (by kernel_rfl) (.str Tryz.underlying9) (.cons (by decide) rfl (by kernel_rfl) (by kernel_rfl) (.int Tryz.underlying3) (.cons (by decide) rfl (by kernel_rfl) (by kernel_rfl) (.int Tryz.underlying3) .nil)))))⟩)⟩)⟩
@[reducible,go_sem] def HS:Nat×TI:=(25,⟨(.list uJ),52,128,false,[]⟩)
theorem OM:qM Tryz.prog HS.1 HS.2:=⟨by kernel_rfl,(show _∧_∧_ from⟨by kernel_rfl,by kernel_rfl,by kernel_rfl⟩)⟩
@[reducible,go_sem] def AH:Nat×TI:=(27,⟨vF,0,0,false,[(1,9,1),(2,144,2),(3,52,7)]⟩)
theorem CN:qM Tryz.prog AH.1 AH.2:=⟨by kernel_rfl,(show ((_∧∃_,_∧_)∨_)∧_ from⟨.inl ⟨rfl,_,Tryz.underlying27,(show _∧_∧_∧_ from⟨rfl,by kernel_rfl,by kernel_rfl,(show _∧_∧_∧_ from⟨rfl,by kernel_rfl,by kernel_rfl,(show _∧_∧_∧_ from⟨rfl,by kernel_rfl,by kernel_rfl,(show _∧_∧_∧_ from⟨rfl,by kernel_rfl,by kernel_rfl,trivial⟩)⟩)⟩)⟩)⟩,(fun h=>absurd h (by decide))⟩)⟩
@[reducible,go_sem] def KQ:Nat×TI:=(24,⟨(.list (.pair .str (.pair .str .unit))),144,32,true,[]⟩)
theorem TR:qM Tryz.prog KQ.1 KQ.2:=⟨by kernel_rfl,(show _∧_∧_ from⟨by kernel_rfl,by kernel_rfl,by kernel_rfl⟩)⟩
@[reducible,go_sem] def wR:Nat×TI:=(58,⟨CJ,0,1,false,[]⟩)
theorem yB:qM Tryz.prog wR.1 wR.2:=⟨by kernel_rfl,(show ((_∧∃_,_∧_)∨_)∧_ from⟨.inl ⟨rfl,_,Tryz.underlying58,(show _∧_∧_∧_ from⟨rfl,by kernel_rfl,by kernel_rfl,(show _∧_∧_∧_ from⟨rfl,by kernel_rfl,by kernel_rfl,(show _∧_∧_∧_ from⟨rfl,by kernel_rfl,by kernel_rfl,(show _∧_∧_∧_ from⟨rfl,by kernel_rfl,by kernel_rfl,trivial⟩)⟩)⟩)⟩)⟩,(fun _=>⟨by kernel_rfl,1,by decide,(.struct rfl Tryz.underlying58 (by kernel_rfl) (.cons (by decide) rfl (by kernel_rfl) (by kernel_rfl) (.int Tryz.underlying3) (.cons (by decide) rfl (by kernel_rfl) (by kernel_rfl) (.str Tryz.underlying9) (.cons (by decide) rfl (by kernel_rfl) (by kernel_rfl) (.int Tryz.underlying3) (.cons (by decide) rfl (by kernel_rfl) (by kernel_rfl) (.int Tryz.underlying3) .nil)))))⟩)⟩)⟩
@[reducible,go_sem] def yV:Nat×TI:=(177,⟨r8,0,0,false,[(3,9,1),(6,144,2)]⟩)
theorem AK:qM Tryz.prog yV.1 yV.2:=⟨by kernel_rfl,(show ((_∧∃_,_∧_)∨_)∧_ from⟨.inl ⟨rfl,_,Tryz.underlying177,(show _∧_∧_∧_ from⟨rfl,by kernel_rfl,by kernel_rfl,(show _∧_∧_∧_ from⟨rfl,by kernel_rfl,by kernel_rfl,(show _∧_∧_∧_ from⟨rfl,by kernel_rfl,by kernel_rfl,trivial⟩)⟩)⟩)⟩,(fun h=>absurd h (by decide))⟩)⟩
@[reducible,go_sem] def ON:Nat×TI:=(178,⟨.fn,0,0,false,[]⟩)
theorem a7q:qM Tryz.prog ON.1 ON.2:=⟨by kernel_rfl,(show∃_ _ _,_ from⟨_,_,_,Tryz.underlying178⟩)⟩
@[reducible,go_sem] def OO:Nat×TI:=(180,⟨.mp,9,178,false,[]⟩)
theorem a7r:qM Tryz.prog OO.1 OO.2:=⟨by kernel_rfl,(show Tryz.prog.underlying _=_ from by kernel_rfl)⟩
@[reducible,go_sem] def AL:Nat×TI:=(60,⟨(.list (.int .i64)),3,8,false,[]⟩)
theorem CP:qM Tryz.prog AL.1 AL.2:=⟨by kernel_rfl,(show _∧_∧_ from⟨by kernel_rfl,by kernel_rfl,by kernel_rfl⟩)⟩
@[reducible,go_sem] def OP:Nat×TI:=(212,⟨(.int .u32),0,0,false,[]⟩)
theorem a7s:qM Tryz.prog OP.1 OP.2:=⟨by kernel_rfl,(show Tryz.prog.underlying _=_ from by kernel_rfl)⟩
@[reducible,go_sem] def OQ:Nat×TI:=(67,⟨(.list KM),100,24,false,[]⟩)
theorem a7t:qM Tryz.prog OQ.1 OQ.2:=⟨by kernel_rfl,(show _∧_∧_ from⟨by kernel_rfl,by kernel_rfl,by kernel_rfl⟩)⟩
@[reducible,go_sem] def TS:Nat×TI:=(100,⟨KM,0,1,false,[]⟩)
theorem aFI:qM Tryz.prog TS.1 TS.2:=⟨by kernel_rfl,(show ((_∧∃_,_∧_)∨_)∧_ from⟨.inl ⟨rfl,_,Tryz.underlying100,(show _∧_∧_∧_ from⟨rfl,by kernel_rfl,by kernel_rfl,(show _∧_∧_∧_ from⟨rfl,by kernel_rfl,by kernel_rfl,trivial⟩)⟩)⟩,(fun _=>⟨by kernel_rfl,1,by decide,(.struct rfl Tryz.underlying100 (by kernel_rfl) (.cons (by decide) rfl (by kernel_rfl) (by kernel_rfl) (.int Tryz.underlying3) (.cons (by decide) rfl (by kernel_rfl) (by kernel_rfl) (.str Tryz.underlying9) .nil)))⟩)⟩)⟩
@[reducible,go_sem] def AM:Nat×TI:=(52,⟨yT8,0,0,false,[(3,9,1),(6,144,2)]⟩)
theorem CQ:qM Tryz.prog AM.1 AM.2:=⟨by kernel_rfl,(show ((_∧∃_,_∧_)∨_)∧_ from⟨.inl ⟨rfl,_,Tryz.underlying52,(show _∧_∧_∧_ from⟨rfl,by kernel_rfl,by kernel_rfl,(show _∧_∧_∧_ from⟨rfl,by kernel_rfl,by kernel_rfl,(show _∧_∧_∧_ from⟨rfl,by kernel_rfl,by kernel_rfl,(show _∧_∧_∧_ from⟨rfl,by kernel_rfl,by kernel_rfl,(show _∧_∧_∧_ from⟨rfl,by kernel_rfl,by kernel_rfl,(show _∧_∧_∧_ from⟨rfl,by kernel_rfl,by kernel_rfl,(show _∧_∧_∧_ from⟨rfl,by kernel_rfl,by kernel_rfl,trivial⟩)⟩)⟩)⟩)⟩)⟩)⟩)⟩,(fun h=>absurd h (by decide))⟩)⟩
@[reducible,go_sem] def HT:Nat×TI:=(175,⟨.ref,0,0,false,[]⟩)
theorem OR:qM Tryz.prog HT.1 HT.2:=⟨by kernel_rfl,(show∃_,_ from⟨_,Tryz.underlying175⟩)⟩
@[reducible,go_sem] def KR:Nat×TI:=(56,⟨sC,0,1,false,[]⟩)
theorem TT:qM Tryz.prog KR.1 KR.2:=⟨by kernel_rfl,(show ((_∧∃_,_∧_)∨_)∧_ from⟨.inl ⟨rfl,_,Tryz.underlying56,(show _∧_∧_∧_ from⟨rfl,by kernel_rfl,by kernel_rfl,(show _∧_∧_∧_ from⟨rfl,by kernel_rfl,by kernel_rfl,trivial⟩)⟩)⟩,(fun _=>⟨by kernel_rfl,1,by decide,(.struct rfl Tryz.underlying56 (by kernel_rfl) (.cons (by decide) rfl (by kernel_rfl) (by kernel_rfl) (.str Tryz.underlying9) (.cons (by decide) rfl (by kernel_rfl) (by kernel_rfl) (.int Tryz.underlying3) .nil)))⟩)⟩)⟩
@[reducible,go_sem] def OS:Nat×TI:=(184,⟨E2,0,1,false,[]⟩)
theorem a7u:qM Tryz.prog OS.1 OS.2:=⟨by kernel_rfl,(show ((_∧∃_,_∧_)∨_)∧_ from⟨.inl ⟨rfl,_,Tryz.underlying184,(show _∧_∧_∧_ from⟨rfl,by kernel_rfl,by kernel_rfl,(show _∧_∧_∧_ from⟨rfl,by kernel_rfl,by kernel_rfl,(show _∧_∧_∧_ from⟨rfl,by kernel_rfl,by kernel_rfl,trivial⟩)⟩)⟩)⟩,(fun _=>⟨by kernel_rfl,1,by decide,(.struct rfl Tryz.underlying184 (by kernel_rfl) (.cons (by decide) rfl (by kernel_rfl) (by kernel_rfl) (.bool Tryz.underlying4) (.cons (by decide) rfl (by kernel_rfl) (by kernel_rfl) (.bool Tryz.underlying4) (.cons (by decide) rfl (by kernel_rfl) (by kernel_rfl) (.bool Tryz.underlying4) .nil))))⟩)⟩)⟩
@[reducible,go_sem] def TU:Nat×TI:=(177,⟨a7o,0,0,false,[(3,9,1),(4,9,1),(6,144,2)]⟩)
theorem aFJ:qM Tryz.prog TU.1 TU.2:=⟨by kernel_rfl,(show ((_∧∃_,_∧_)∨_)∧_ from⟨.inl ⟨rfl,_,Tryz.underlying177,(show _∧_∧_∧_ from⟨rfl,by kernel_rfl,by kernel_rfl,(show _∧_∧_∧_ from⟨rfl,by kernel_rfl,by kernel_rfl,(show _∧_∧_∧_ from⟨rfl,by kernel_rfl,by kernel_rfl,trivial⟩)⟩)⟩)⟩,(fun h=>absurd h (by decide))⟩)⟩
theorem pH:Tryz.prog.follows .mixedOrders=true:=by kernel_rfl
@[reducible,go_sem] def KS:Nat×Sig:=(84,⟨[.v,.v],TF,[],[],none⟩)
theorem OT:pI Tryz.prog KS:=⟨aFi,fun _ h=>by cases h⟩
@[reducible,go_sem] def a7v:Nat×Sig:=(185,⟨[.v],TH,[],[],none⟩)
theorem aFL:pI Tryz.prog a7v:=⟨aFk,fun _ h=>by cases h⟩
@[reducible,go_sem] def a7w:Nat×Sig:=(109,⟨[.v,.v],TK,[],[],none⟩)
theorem aFN:pI Tryz.prog a7w:=⟨aFo,fun _ h=>by cases h⟩
@[reducible,go_sem] def OU:Nat×Sig:=(52,⟨[.p uU [1]],TL,[],[],none⟩)
theorem TV:pI Tryz.prog OU:=⟨aFq,fun _ h=>by cases h⟩
@[reducible,go_sem] def TW:Nat×Sig:=(37,⟨[.p uU [1]],TN,[],[],none⟩)
theorem a7x:pI Tryz.prog TW:=⟨aFy,fun _ h=>by cases h⟩
@[reducible,go_sem] def a7y:Nat×Sig:=(174,⟨[.r,.v,.v],TP,[],[],none⟩)
theorem aFO:pI Tryz.prog a7y:=⟨aFH,fun _ h=>by cases h⟩
@[reducible,go_sem] def TX:Nat×Sig:=(96,⟨[.v],noC,[],[],some a7e⟩)
theorem aFP:pI Tryz.prog TX:=aFn
end
end Go.Proofs.YtfchbnahjcdiiaaGreatDoor
namespace Go.Proofs.YtfchbnahjcdiiaaGreatDoor
open Vc
theorem uW {σ ρ:Type}(f:σ→Option (σ⊕ρ)) (x:σ):pR f x=(f x).bind fun w=>match w with
  | .inl y=>pR f y
  | .inr r=>some r:=by
 cases h:f x with
 |none=>
  cases h2:pR f x with
  |none=>rfl
  |some r=>
   obtain⟨n,hn⟩:=KI h2
   cases n with
   |zero=>cases hn
   |succ n=>unfold iter at hn;rw[h] at hn;cases hn
 |some w=>
  cases w with
  |inl y=>exact KJ h
  |inr r=>exact w5 h
theorem wS {t:Ty}{l:List t.den}{i:Nat}(h:i<l.length):pY t l (i:Int)=l[i]:=by
 unfold pY
 rw[Int.toNat_natCast,List.getD_eq_getElem?_getD,List.getElem?_eq_getElem h];rfl
theorem vI {l:List UInt8}{i:Nat}(h:i<l.length):pA l (i:Int)=(l[i].toNat:Int):=by
 unfold pA
 rw[Int.toNat_natCast,List.getD_eq_getElem?_getD,List.getElem?_eq_getElem h];rfl
def sL {β:Type}(f:Nat→β) (b:β):Option Nat→β
 |some k=>f k
 |none=>b
theorem TY {α ρ:Type}{f:Int→Option (Int⊕(Unit⊕ρ))}{l:List α}(p:α→Bool) (g:Nat→ρ)
  (hf: ∀(i:Nat) (h:i<l.length),f i=if p l[i]=true then some (.inr (.inr (g i))) else some (.inl (i+1)))
  (he:f l.length=some (.inr (.inl ()))): ∀(n j:Nat),j+n=l.length→pR f j=some (sL (fun k=> .inr (g (j+k))) (.inl ()) ((l.drop j).findIdx? p))
 |0,j,hj=>by
  have:j=l.length:=by omega
  subst this
  rw[List.drop_length,uW,he]
  rfl
 |n+1,j,hj=>by
  have hlt:j<l.length:=by omega
  rw[uW,hf j hlt,List.drop_eq_getElem_cons hlt,List.findIdx?_cons]
  by_cases hp:p l[j]=true
  ·rw[if_pos hp,if_pos hp]
   rfl
  ·rw[if_neg hp,if_neg hp]
   show pR f ((j:Int)+1)=_
   have:=TY p g hf he n (j+1) (by omega)
   rw[show ((j:Int)+1)=((j+1:Nat):Int) by omega,this]
   cases(l.drop (j+1)).findIdx? p with
   |none=>rfl
   |some k=>
    show some (Sum.inr (g (j+1+k)))=some (Sum.inr (g (j+(k+1))))
    rw[show j+1+k=j+(k+1) by omega]
theorem BJ {α ρ:Type}{f:Int→Option (Int⊕(Unit⊕ρ))}{l:List α}(p:α→Bool) (g:Nat→ρ)
  (hf: ∀(i:Nat) (h:i<l.length),f i=if p l[i]=true then some (.inr (.inr (g i))) else some (.inl (i+1)))
  (he:f l.length=some (.inr (.inl ()))):pR f 0=some (sL (fun k=> .inr (g k)) (.inl ()) (l.findIdx? p)):=by
 have:=TY p g hf he l.length 0 (by omega)
 simpa using this
theorem a7z {s:List UInt8}{i:Nat}(h:i<s.length) (ha:s[i].toNat<128):s4 s i=(s[i].toNat:Int)∧wM s i=i+1:=by
 have h1:=Lib.decodeL_drop ⟨s.toArray⟩ i
 have h2:(⟨s.toArray⟩:ByteArray).data.toList.drop i=s[i]::s.drop (i+1):=by
  show s.drop i=_
  rw[List.drop_eq_getElem_cons h]
 rw[h2,Lib.decodeL_ascii _ _ ha] at h1
 unfold s4 wM RC
 rw[←h1,if_pos h]
 exact⟨rfl,rfl⟩
theorem aFQ {n b0 b1 b2 b3:Nat}(h:128≤b0):128≤(Lib.decodeN n b0 b1 b2 b3).1:=by
 unfold Lib.decodeN
 repeat' split
 all_goals first|omega|(dsimp only;omega)
theorem a7A {s:List UInt8}{i:Nat}(h:i<s.length) (ha:128≤s[i].toNat):128≤s4 s i:=by
 unfold s4
 rw[Lib.decode_at]
 have:(⟨s.toArray⟩:ByteArray).get! i=s[i]:=by
  show s.toArray[i]! =_
  simp [h]
 rw[this]
 exact Int.ofNat_le.2 (aFQ ha)
theorem a7B {ρ:Type}{f:Nat→Option (Nat⊕(Unit⊕ρ))}{s:List UInt8}(p:Int→Bool) (g:Nat→ρ) (hb: ∀c,128≤c→p c=true)
  (hf: ∀(i:Nat) (h:i<s.length),f i=if p (s4 s i)=true then some (.inr (.inr (g i))) else some (.inl (wM s i)))
  (he:f s.length=some (.inr (.inl ()))): ∀(n j:Nat),j+n=s.length→pR f j=some (sL (fun k=> .inr (g (j+k))) (.inl ()) ((s.drop j).findIdx? (fun b=>p b.toNat)))
 |0,j,hj=>by
  have:j=s.length:=by omega
  subst this
  rw[List.drop_length,uW,he]
  rfl
 |n+1,j,hj=>by
  have hlt:j<s.length:=by omega
  rw[uW,hf j hlt,List.drop_eq_getElem_cons hlt,List.findIdx?_cons]
  by_cases ha:s[j].toNat<128
  ·obtain⟨e1,e2⟩:=a7z hlt ha
   rw[e1,e2]
   by_cases hp:p (s[j].toNat:Int)=true
   ·rw[if_pos hp,if_pos hp]
    rfl
   ·rw[if_neg hp,if_neg hp]
    show pR f (j+1)=_
    rw[a7B p g hb hf he n (j+1) (by omega)]
    cases(s.drop (j+1)).findIdx? (fun b=>p b.toNat) with
    |none=>rfl
    |some k=>
     show some (Sum.inr (g (j+1+k)))=some (Sum.inr (g (j+(k+1))))
     rw[show j+1+k=j+(k+1) by omega]
  ·rw[if_pos (hb _ (a7A hlt (by omega))),if_pos (hb _ (by omega))]
   rfl
theorem a7C {ρ:Type}{f:Nat→Option (Nat⊕(Unit⊕ρ))}{s:List UInt8}(p:Int→Bool) (g:Nat→ρ) (hb: ∀c,128≤c→p c=true)
  (hf: ∀(i:Nat) (h:i<s.length),f i=if p (s4 s i)=true then some (.inr (.inr (g i))) else some (.inl (wM s i)))
  (he:f s.length=some (.inr (.inl ()))):pR f 0=some (sL (fun k=> .inr (g k)) (.inl ()) (s.findIdx? (fun b=>p b.toNat))):=by
 have:=a7B p g hb hf he s.length 0 (by omega)
 simpa using this
def pU {α:Type}(l:List α):Prop:=l.length≤1000000
end Go.Proofs.YtfchbnahjcdiiaaGreatDoor
namespace Go.Proofs.YtfchbnahjcdiiaaGreatDoor
open Vc
set_option maxRecDepth 100000
set_option maxHeartbeats 4000000
set_option linter.unusedSimpArgs false
set_option linter.unusedVariables false
noncomputable section
def a7D (O:tZ):Unit:=
 ()
section
variable (O:tZ)
@[reducible] def TZ:List Slot:=[(.val AD O,none)]
@[reducible] def U0:List Blk:=[]
@[go_sem] def U1:Ret:=⟨[],[(.val AD (O.1,(O.2.1,(O.2.2.1,()))),none)],[]⟩
def a7E:List Slot→List Blk→Option Ret:=pM (V:=tZ) (fun x=>TZ x) (fun x=>U0) fun x=>U1 x
@[go_sem] theorem aKN:a7E (no_index (TZ O)) (no_index U0)=some (U1 O):=pN (fun a0 b0 h1 h2=>by cases h1;cases h2;rfl) O
end
@[reducible,go_sem] def a7F:Nat×Sig:=(16,⟨[.v],a7E,[],[],none⟩)
theorem U2:Env Tryz.prog [q7,uK,KN,BF] (pE []):=⟨⟨q9,⟨vG,⟨TQ,⟨E3,trivial⟩⟩⟩⟩,pP,pH⟩
theorem aFR:pI Tryz.prog a7F:=by
 refine pO U2 Tryz.func16 (c:=_) rfl (N:=10) (by kernel_rfl) (ts:=[(2,some 37)]) rfl (fun _ _=>rfl) ?_
 intro O hs hrow
 dsimp only[TZ,U0,U1,pJ,enumH,pD,pG,pL,Nat.reduceAdd] at hs hrow⊢
 obtain⟨z0,hC0⟩: ∃z,(a7D O)=z:=⟨_,rfl⟩
 try rw[hC0]
 unfold a7D at hC0
 refine oS U2 ?_
 refine oS U2 ?_
 refine oV ?_
 cases hC0
 exact⟨[],by rfl,by rfl,by rfl⟩
def G2 (O:((List Int)×Unit)) (Z:(List UInt8)):Option Unit:=
 if List.length O.1+List.length Z≤140737488355328 then
  some (())
 else none
section
variable (O:(List UInt8)) (Z:((List Int)×Unit)) (aA:Nat)
@[reducible] def U3:List Slot:=[(.val .ref (some (0,0)),none),(.val .str O,none)]
@[reducible] def U4:List Blk:=[.cells uU ((some (0,0)),Z) [(1,1)],.grow 5 1 aA]
@[go_sem] def U5:Ret:=⟨[aA=(List.length Z.1),((G2 Z O)).isSome=true],[(.val (.int .i64) (List.length O:Int),none),(.any,none)],[.cells uU ((some (0,0)),((Z.1++s3 O),())) [(1,1)],.grow 5 1 (List.length (Z.1++s3 O))]⟩
def a7G:List Slot→List Blk→Option Ret:=pM (V:=((List UInt8)×((List Int)×Unit)×Nat)) (fun x=>U3 x.1) (fun x=>U4 x.2.1 x.2.2) fun x=>U5 x.1 x.2.1 x.2.2
@[go_sem] theorem aKO:a7G (no_index (U3 O)) (no_index (U4 Z aA))=some (U5 O Z aA):=pN (fun⟨a0,a1,a2⟩ ⟨b0,b1,b2⟩ h1 h2=>by cases h1;cases h2;rfl) (O,Z,aA)
end
@[reducible,go_sem] def a7H:Nat×Sig:=(36,⟨[.p uU [1],.v],a7G,[],[],none⟩)
theorem KT:Env Tryz.prog [q7,AE,G0] (pE [OU]):=⟨⟨q9,⟨CK,⟨KO,trivial⟩⟩⟩,p5 TV pP,pH⟩
theorem aFS:pI Tryz.prog a7H:=by
 refine pO KT Tryz.func36 (c:=_) rfl (N:=19) (by kernel_rfl) (ts:=[(4,none),(5,none)]) rfl (fun _ _=>rfl) ?_
 intro⟨O,Z,aA⟩ hs hrow
 dsimp only[U3,U4,U5,pJ,enumH,pD,pG,pL,Nat.reduceAdd] at hs hrow⊢
 obtain⟨rfl,hz⟩:=hs
 obtain⟨z0,hC0⟩:=Option.isSome_iff_exists.1 hz
 try rw[pW hC0]
 clear hz
 unfold G2 at hC0
 refine oS KT ?_
 refine oS KT ?_ (hp:=by exact(by first|exact rfl|exact trivial))
 obtain⟨hg1,hC0⟩:=oU hC0
 refine oS KT ?_ (hp:=by exact And.intro (by first|exact rfl|exact trivial) (hg1))
 refine oS KT ?_
 refine oV ?_
 cases hC0
 exact⟨[(0,0),(1,1)],by rfl,by rfl,by rfl⟩
attribute [irreducible] G2
def HU (O:(List (List UInt8))):Option Unit:=
 if oT ((List.length O:Int)- (1:Int)) then
  if 0≤(0:Int)∧(0:Int)<(List.length O:Int) then
   if 0≤(1:Int)∧(1:Int)≤((List.length O:Int)- (1:Int))∧((List.length O:Int)- (1:Int))≤(List.length O:Int) then
    if (List.length ([]:List (List UInt8))+List.length (oZ O (1:Int) ((List.length O:Int)- (1:Int))))*16≤140737488355328 then
     if 0≤((List.length O:Int)- (1:Int))∧((List.length O:Int)- (1:Int))<(List.length O:Int) then
      some (())
     else none
    else none
   else none
  else none
 else none
section
variable (O:(List (List UInt8)))
@[reducible] def U6:List Slot:=[(.val (.list .str) O,none)]
@[reducible] def U7:List Blk:=[]
@[go_sem] def U8:Ret:=⟨[((HU O)).isSome=true],[(.val AD ((pY .str O (0:Int)),((([]:List (List UInt8))++(oZ O (1:Int) ((List.length O:Int)- (1:Int)))),((pY .str O ((List.length O:Int)- (1:Int))),()))),none)],[]⟩
def a7I:List Slot→List Blk→Option Ret:=pM (V:=(List (List UInt8))) (fun x=>U6 x) (fun x=>U7) fun x=>U8 x
@[go_sem] theorem aKP:a7I (no_index (U6 O)) (no_index U7)=some (U8 O):=pN (fun a0 b0 h1 h2=>by cases h1;cases h2;rfl) O
end
@[reducible,go_sem] def a7J:Nat×Sig:=(49,⟨[.v],a7I,[],[],none⟩)
theorem OV:Env Tryz.prog [q7,uK,BF] (pE []):=⟨⟨q9,⟨vG,⟨E3,trivial⟩⟩⟩,pP,pH⟩
theorem aFT:pI Tryz.prog a7J:=by
 refine pO OV Tryz.func49 (c:=_) rfl (N:=20) (by kernel_rfl) (ts:=[(2,some 37)]) rfl (fun _ _=>rfl) ?_
 intro O hs hrow
 dsimp only[U6,U7,U8,pJ,enumH,pD,pG,pL,Nat.reduceAdd] at hs hrow⊢
 have hz:=hs
 obtain⟨z0,hC0⟩:=Option.isSome_iff_exists.1 hz
 try rw[pW hC0]
 clear hz hs
 unfold HU at hC0
 refine oS OV ?_
 obtain⟨hg1,hC0⟩:=oU hC0
 refine oS OV ?_ (hp:=by exact hg1)
 obtain⟨hg2,hC0⟩:=oU hC0
 obtain⟨hg3,hC0⟩:=oU hC0
 obtain⟨hg4,hC0⟩:=oU hC0
 obtain⟨hg5,hC0⟩:=oU hC0
 refine qK OV ?_ (hp:=by exact And.intro hg2 (And.intro hg3 (And.intro (by first|exact rfl|exact trivial) (And.intro hg4 (hg5)))))
 refine oV ?_
 cases hC0
 exact⟨[],by rfl,by rfl,by rfl⟩
attribute [irreducible] HU
def G3 (O:tZ):Option Unit:=
 if (List.length ([O.1]:List (List UInt8))+List.length O.2.1)*16≤140737488355328 then
  if (List.length (([O.1]:List (List UInt8))++O.2.1)+List.length ([O.2.2.1]:List (List UInt8)))*16≤140737488355328 then
   some (())
  else none
 else none
section
variable (O:tZ)
@[reducible] def U9:List Slot:=[(.val AD O,none)]
@[reducible] def UA:List Blk:=[]
@[go_sem] def UB:Ret:=⟨[((G3 O)).isSome=true],[(.val (.list .str) ((([O.1]:List (List UInt8))++O.2.1)++([O.2.2.1]:List (List UInt8))),some 0)],[.grow 9 1 (List.length ((([O.1]:List (List UInt8))++O.2.1)++([O.2.2.1]:List (List UInt8))))]⟩
def a7K:List Slot→List Blk→Option Ret:=pM (V:=tZ) (fun x=>U9 x) (fun x=>UA) fun x=>UB x
@[go_sem] theorem aKQ:a7K (no_index (U9 O)) (no_index UA)=some (UB O):=pN (fun a0 b0 h1 h2=>by cases h1;cases h2;rfl) O
end
@[reducible,go_sem] def a7L:Nat×Sig:=(50,⟨[.v],a7K,[],[],none⟩)
theorem UC:Env Tryz.prog [q7,uK,BF] (pE []):=⟨⟨q9,⟨vG,⟨E3,trivial⟩⟩⟩,pP,pH⟩
theorem aFU:pI Tryz.prog a7L:=by
 refine pO UC Tryz.func50 (c:=_) rfl (N:=13) (by kernel_rfl) (ts:=[(2,none)]) rfl (fun _ _=>rfl) ?_
 intro O hs hrow
 dsimp only[U9,UA,UB,pJ,enumH,pD,pG,pL,Nat.reduceAdd] at hs hrow⊢
 have hz:=hs
 obtain⟨z0,hC0⟩:=Option.isSome_iff_exists.1 hz
 try rw[pW hC0]
 clear hz hs
 unfold G3 at hC0
 refine oS UC ?_
 obtain⟨hg1,hC0⟩:=oU hC0
 obtain⟨hg2,hC0⟩:=oU hC0
 refine qK UC ?_ (hp:=by exact And.intro (by first|exact rfl|exact trivial) (And.intro hg1 (And.intro (by first|exact rfl|exact trivial) (hg2))))
 refine oV ?_
 cases hC0
 exact⟨[(0,64)],by rfl,by rfl,by rfl⟩
attribute [irreducible] G3
def a7M (O:Int):Unit:=
 ()
section
variable (O:Int)
@[reducible] def UD:List Slot:=[(.val (.int .u8) O,none)]
@[reducible] def UE:List Blk:=[]
@[go_sem] def UF:Ret:=⟨[],[(.val .bool (((decide ((97:Int)≤O))&&(decide (O≤(122:Int))))||((decide ((65:Int)≤O))&&(decide (O≤(90:Int))))),none)],[]⟩
def a7N:List Slot→List Blk→Option Ret:=pM (V:=Int) (fun x=>UD x) (fun x=>UE) fun x=>UF x
@[go_sem] theorem aKR:a7N (no_index (UD O)) (no_index UE)=some (UF O):=pN (fun a0 b0 h1 h2=>by cases h1;cases h2;rfl) O
end
@[reducible,go_sem] def UG:Nat×Sig:=(66,⟨[.v],a7N,[],[],none⟩)
theorem UH:Env Tryz.prog [] (pE []):=⟨trivial,pP,pH⟩
theorem a7O:pI Tryz.prog UG:=by
 refine pO UH Tryz.func66 (c:=_) rfl (N:=17) (by kernel_rfl) (ts:=[(2,none)]) rfl (fun _ _=>rfl) ?_
 intro O hs hrow
 dsimp only[UD,UE,UF,pJ,enumH,pD,pG,pL,Nat.reduceAdd] at hs hrow⊢
 obtain⟨z0,hC0⟩: ∃z,(a7M O)=z:=⟨_,rfl⟩
 try rw[hC0]
 unfold a7M at hC0
 refine oS UH ?_
 refine oS UH ?_ (hp:=by exact And.intro (fun hh=>hh) (And.intro (fun hh=>pZ hh) (And.intro (fun hh=>hh) (And.intro (fun hh=>hh) (And.intro (fun hh=>hh) (And.intro (fun hh=>hh) (And.intro (fun hG hh=>CI hG hh) ((fun hh=>sF hh)))))))))
 refine oV ?_
 cases hC0
 exact⟨[],by rfl,by rfl,by rfl⟩
end
end Go.Proofs.YtfchbnahjcdiiaaGreatDoor
namespace Go.Proofs.YtfchbnahjcdiiaaGreatDoor
open Vc
set_option maxRecDepth 100000
set_option maxHeartbeats 4000000
set_option linter.unusedSimpArgs false
set_option linter.unusedVariables false
noncomputable section
def a7P (O:Int):Unit:=
 ()
section
variable (O:Int)
@[reducible] def UI:List Slot:=[(.val (.int .i32) O,none)]
@[reducible] def UJ:List Blk:=[]
@[go_sem] def UK:Ret:=⟨[],[(.val .bool ((decide ((127:Int)<O))||(((((!(((decide ((97:Int)≤(IntKind.wrap .u8 O)))&&(decide ((IntKind.wrap .u8 O)≤(122:Int))))||((decide ((65:Int)≤(IntKind.wrap .u8 O)))&&(decide ((IntKind.wrap .u8 O)≤(90:Int))))))&&((decide (O<(48:Int)))||(decide ((57:Int)<O))))&&(!decide (O=(45:Int))))&&(!decide (O=(95:Int))))&&(!decide (O=(46:Int))))),none)],[]⟩
def a7Q:List Slot→List Blk→Option Ret:=pM (V:=Int) (fun x=>UI x) (fun x=>UJ) fun x=>UK x
@[go_sem] theorem aKS:a7Q (no_index (UI O)) (no_index UJ)=some (UK O):=pN (fun a0 b0 h1 h2=>by cases h1;cases h2;rfl) O
end
@[reducible,go_sem] def a7R:Nat×Sig:=(68,⟨[.v],a7Q,[],[],none⟩)
theorem UL:Env Tryz.prog [zP,HR] (pE [UG]):=⟨⟨BG,⟨OK,trivial⟩⟩,p5 a7O pP,pH⟩
theorem aFV:pI Tryz.prog a7R:=by
 refine pO UL Tryz.func68 (c:=_) rfl (N:=31) (by kernel_rfl) (ts:=[(2,none)]) rfl (fun _ _=>rfl) ?_
 intro O hs hrow
 dsimp only[UI,UJ,UK,pJ,enumH,pD,pG,pL,Nat.reduceAdd] at hs hrow⊢
 obtain⟨z0,hC0⟩: ∃z,(a7P O)=z:=⟨_,rfl⟩
 try rw[hC0]
 unfold a7P at hC0
 refine oS UL ?_
 refine oS UL ?_ (hp:=by exact And.intro (fun hh=>hh) (And.intro (fun hh=>hh) (And.intro (fun hh=>hh) (And.intro (fun hh=>hh) (And.intro (fun hh=>hh) (And.intro (fun hh=>hh) (And.intro (fun hh=>hh) (And.intro (fun hh=>hh) (And.intro (fun hG hh=>y9 hG hh) (And.intro (fun hh=>hh) (And.intro (fun hG hh=>CI hG hh) (And.intro (fun hh=>hh) (And.intro (fun hh=>hh) (And.intro (fun hh=>hh) (And.intro (fun hG hh=>CI hG hh) (And.intro (fun hh=>hh) (And.intro (fun hh=>hh) (And.intro (fun hh=>hh) (And.intro (fun hG hh=>CI hG hh) (And.intro (fun hh=>hh) (And.intro (fun hh=>hh) (And.intro (fun hh=>hh) (And.intro (fun hG hh=>CI hG hh) ((fun hh=>sF hh)))))))))))))))))))))))))
 refine oV ?_
 cases hC0
 exact⟨[],by rfl,by rfl,by rfl⟩
def KU (O:(List UInt8)):Nat→Option (Nat⊕(Unit⊕Bool)):=fun Z=>
 if (decide (Z<List.length O))=true then
  if (decide (Z<List.length O))=true then
   if (((((decide ((s4 O Z)<(97:Int)))||(decide ((122:Int)<(s4 O Z))))&&((decide ((s4 O Z)<(65:Int)))||(decide ((90:Int)<(s4 O Z)))))&&((decide ((s4 O Z)<(48:Int)))||(decide ((57:Int)<(s4 O Z)))))&&(!decide ((s4 O Z)=(45:Int))))=true then
    some (.inr (.inr (false)))
   else
    some (.inl (wM O Z))
  else none
 else
  some (.inr (.inl ()))
def E8 (O:(List UInt8)):Option Bool:=
 qT (pR (KU O) 0) fun _=>
 some (((decide ((1:Int)≤(List.length O:Int)))&&(decide ((List.length O:Int)≤(40:Int)))))
section
variable (O:(List UInt8))
@[reducible] def UM:List Slot:=[(.val .str O,none)]
@[reducible] def UN:List Blk:=[]
@[go_sem] def UO:Ret:=⟨[((E8 O)).isSome=true],[(.val .bool (val (E8 O)),none)],[]⟩
def a7S:List Slot→List Blk→Option Ret:=pM (V:=(List UInt8)) (fun x=>UM x) (fun x=>UN) fun x=>UO x
@[go_sem] theorem aKT:a7S (no_index (UM O)) (no_index UN)=some (UO O):=pN (fun a0 b0 h1 h2=>by cases h1;cases h2;rfl) O
end
@[reducible,go_sem] def a7T:Nat×Sig:=(71,⟨[.v],a7S,[],[],none⟩)
theorem E9:Env Tryz.prog [q7] (pE []):=⟨⟨q9,trivial⟩,pP,pH⟩
theorem aFW:pI Tryz.prog a7T:=by
 refine pO E9 Tryz.func71 (c:=_) rfl (N:=44) (by kernel_rfl) (ts:=[(2,none)]) rfl (fun _ _=>rfl) ?_
 intro O hs hrow
 dsimp only[UM,UN,UO,pJ,enumH,pD,pG,pL,Nat.reduceAdd] at hs hrow⊢
 have hz:=hs
 obtain⟨z0,hC0⟩:=Option.isSome_iff_exists.1 hz
 try rw[pW hC0]
 clear hz hs
 unfold E8 at hC0
 refine oS E9 ?_
 refine p4 ?_
 refine oS E9 ?_
 refine pT ?_
 obtain⟨y1,hy1,hC0⟩:=sX hC0
 refine rH 0 (fun s=> ∃v,y1= .inl v∧s=(fun _=>⟨[(0,(.val .str O,none))],[],0,44,0⟩) v) ?_ ?_
 ·refine rG hy1 (fun x=>⟨[(0,(.val .str O,none)),(6,(.val .ref (some (0,0)),none))],[(0,.iter O x)],1,44,0⟩) ⟨[0,6],[(0,32)]⟩ (by rfl) ?_
  intro Z w1 n1 hC1 hN1
  unfold KU at hC1
  dsimp only at hC1⊢
  refine oS E9 ?_
  refine p4 ?_
  refine oX hC1 (fun hC1 hc1=> ?_) (fun hC1 hc1=> ?_)
  ·refine p6 (oW (pT ?_))
   obtain⟨hg1,hC1⟩:=oU hC1
   refine oS E9 ?_ (hp:=by exact hg1)
   refine oS E9 ?_ (hp:=by exact And.intro (fun hh=>hh) (And.intro (fun hh=>sF hh) (And.intro (fun hh=>hh) (And.intro (fun hh=>hh) (And.intro (fun hh=>hh) (And.intro (fun hh=>hh) (And.intro (fun hG hh=>y9 hG hh) (And.intro (fun hh=>pZ hh) (And.intro (fun hh=>hh) (And.intro (fun hh=>hh) (And.intro (fun hh=>hh) (And.intro (fun hh=>hh) (And.intro (fun hG hh=>y9 hG hh) (And.intro (fun hh=>pZ hh) (And.intro (fun hh=>hh) ((fun hh=>pZ hh)))))))))))))))))
   refine oX hC1 (fun hC1 hc2=> ?_) (fun hC1 hc2=> ?_)
   ·refine oS E9 ?_
    refine oV (pS (sK (sJ (pS (pC ?_)))))
    cases hC1
    cases hN1
    dsimp only at hC0
    cases hC0
    exact⟨[],by rfl,by rfl,by rfl⟩
   ·refine p6 (pB ?_)
    cases hC1
    exact qG ⟨⟨[0,6],[(0,0)]⟩,_,by rfl,hN1⟩
  ·refine qW (r7 (qZ ?_))
   cases hC1
   cases hN1
   exact qY ⟨⟨[0],[]⟩,_,rfl,by rfl⟩
 ·rintro _ ⟨v,rfl,rfl⟩
  dsimp only at hC0⊢
  refine rE (oW ?_)
  refine oS E9 ?_ (hp:=by exact And.intro (fun hh=>hh) (And.intro (fun hh=>hh) ((fun hh=>pZ hh))))
  refine oV ?_
  cases hC0
  exact⟨[],by rfl,by rfl,by rfl⟩
attribute [irreducible] E8
def a7U (O:(List UInt8)):Unit:=
 ()
section
variable (O:(List UInt8))
@[reducible] def UP:List Slot:=[(.val .str O,none)]
@[reducible] def UQ:List Blk:=[]
@[go_sem] def UR:Ret:=⟨[],[(.val .bool false,none)],[]⟩
def a7V:List Slot→List Blk→Option Ret:=pM (V:=(List UInt8)) (fun x=>UP x) (fun x=>UQ) fun x=>UR
@[go_sem] theorem aKU:a7V (no_index (UP O)) (no_index UQ)=some UR:=pN (fun a0 b0 h1 h2=>by cases h1;cases h2;rfl) O
end
@[reducible,go_sem] def OW:Nat×Sig:=(72,⟨[.v],a7V,[],[],none⟩)
theorem US:Env Tryz.prog [] (pE []):=⟨trivial,pP,pH⟩
theorem UT:pI Tryz.prog OW:=by
 refine pO US Tryz.func72 (c:=_) rfl (N:=3) (by kernel_rfl) (ts:=[(2,none)]) rfl (fun _ _=>rfl) ?_
 intro O hs hrow
 dsimp only[UP,UQ,UR,pJ,enumH,pD,pG,pL,Nat.reduceAdd] at hs hrow⊢
 obtain⟨z0,hC0⟩: ∃z,(a7U O)=z:=⟨_,rfl⟩
 try rw[hC0]
 unfold a7U at hC0
 refine oS US ?_
 refine oS US ?_
 refine oV ?_
 cases hC0
 exact⟨[],by rfl,by rfl,by rfl⟩
def a7W (O:(List UInt8)):Unit:=
 ()
section
variable (O:(List UInt8))
@[reducible] def UU:List Slot:=[(.val .str O,none)]
@[reducible] def UV:List Blk:=[]
@[go_sem] def UW:Ret:=⟨[],[(.val .bool ((!decide (O=([]:List UInt8)))&&(decide ((List.length O:Int)≤(200:Int)))),none)],[]⟩
def a7X:List Slot→List Blk→Option Ret:=pM (V:=(List UInt8)) (fun x=>UU x) (fun x=>UV) fun x=>UW x
@[go_sem] theorem aKV:a7X (no_index (UU O)) (no_index UV)=some (UW O):=pN (fun a0 b0 h1 h2=>by cases h1;cases h2;rfl) O
end
@[reducible,go_sem] def a7Y:Nat×Sig:=(74,⟨[.v],a7X,[],[],none⟩)
theorem UX:Env Tryz.prog [q7] (pE []):=⟨⟨q9,trivial⟩,pP,pH⟩
theorem aFX:pI Tryz.prog a7Y:=by
 refine pO UX Tryz.func74 (c:=_) rfl (N:=10) (by kernel_rfl) (ts:=[(2,none)]) rfl (fun _ _=>rfl) ?_
 intro O hs hrow
 dsimp only[UU,UV,UW,pJ,enumH,pD,pG,pL,Nat.reduceAdd] at hs hrow⊢
 obtain⟨z0,hC0⟩: ∃z,(a7W O)=z:=⟨_,rfl⟩
 try rw[hC0]
 unfold a7W at hC0
 refine oS UX ?_
 refine oS UX ?_ (hp:=by exact And.intro (fun hh=>hh) (And.intro (fun hh=>hh) ((fun hh=>pZ hh))))
 refine oV ?_
 cases hC0
 exact⟨[],by rfl,by rfl,by rfl⟩
def a71 (O:(List UInt8)) (Z:((List UInt8)×(Int×Unit))) (aA:qA) (aB:Int) (aC:Int) (aD:qB) (aE:((List Int)×(Int×Unit))) (aF:(List ((List UInt8)×Bool))):Unit:=
 ()
section
variable (O:(List UInt8)) (Z:((List UInt8)×(Int×Unit))) (aA:qA) (aB:Int) (aC:Int) (aD:qB) (aE:((List Int)×(Int×Unit))) (aF:Nat) (aG:Nat) (aH:(List ((List UInt8)×Bool)))
@[reducible] def V1:List Slot:=[(.val .str O,none),(.val .ref (some (0,0)),none)]
@[reducible] def V2:List Blk:=[.cells .ref (some (1,0)) [],.cells q8 (Z,(aA,(aB,(aC,(aD,((some 4),aE)))))) [(11,2),(13,3)],.grow 52 7 aF,.grow 3 1 aG,.map .str .bool aH]
@[go_sem] def V3:Ret:=⟨[aF=(List.length aD.2.2.2.1),aG=(List.length aE.1)],[(.val .bool (qE .str .bool aH O),none)],[.cells .ref (some (1,0)) [],.cells q8 ((Z.1,(Z.2.1,())),((aA.1,(aA.2.1,(aA.2.2.1,(aA.2.2.2.1,())))),(aB,(aC,((aD.1,(aD.2.1,(aD.2.2.1,(aD.2.2.2.1,())))),((some 4),(aE.1,(aE.2.1,())))))))) [(11,2),(13,3)],.grow 52 7 (List.length aD.2.2.2.1),.grow 3 1 (List.length aE.1),.map .str .bool aH]⟩
def a73:List Slot→List Blk→Option Ret:=pM (V:=((List UInt8)×((List UInt8)×(Int×Unit))×qA×Int×Int×qB×((List Int)×(Int×Unit))×Nat×Nat×(List ((List UInt8)×Bool)))) (fun x=>V1 x.1) (fun x=>V2 x.2.1 x.2.2.1 x.2.2.2.1 x.2.2.2.2.1 x.2.2.2.2.2.1 x.2.2.2.2.2.2.1 x.2.2.2.2.2.2.2.1 x.2.2.2.2.2.2.2.2.1 x.2.2.2.2.2.2.2.2.2) fun x=>V3 x.1 x.2.1 x.2.2.1 x.2.2.2.1 x.2.2.2.2.1 x.2.2.2.2.2.1 x.2.2.2.2.2.2.1 x.2.2.2.2.2.2.2.1 x.2.2.2.2.2.2.2.2.1 x.2.2.2.2.2.2.2.2.2
@[go_sem] theorem aKX:a73 (no_index (V1 O)) (no_index (V2 Z aA aB aC aD aE aF aG aH))=some (V3 O Z aA aB aC aD aE aF aG aH):=pN (fun⟨a0,a1,a2,a3,a4,a5,a6,a7,a8,a9⟩ ⟨b0,b1,b2,b3,b4,b5,b6,b7,b8,b9⟩ h1 h2=>by cases h1;cases h2;rfl) (O,Z,aA,aB,aC,aD,aE,aF,aG,aH)
end
@[reducible,go_sem] def a74:Nat×Sig:=(75,⟨[.v,.p .ref []],a73,[(0,0,.p q8 [11,13]),(1,12,.m)],[0,1,2,3,4],none⟩)
theorem V4:Env Tryz.prog [BH,q7,OL,G1,uV] (pE []):=⟨⟨E4,⟨q9,⟨a7p,⟨KP,⟨w6,trivial⟩⟩⟩⟩⟩,pP,pH⟩
theorem aFY:pI Tryz.prog a74:=by
 refine pO V4 Tryz.func75 (c:=_) rfl (N:=10) (by kernel_rfl) (ts:=[(3,none)]) rfl (fun _ _=>rfl) ?_
 intro⟨O,Z,aA,aB,aC,aD,aE,aF,aG,aH⟩ hs hrow
 dsimp only[V1,V2,V3,pJ,enumH,pD,pG,pL,Nat.reduceAdd] at hs hrow⊢
 obtain⟨rfl,rfl⟩:=hs
 obtain⟨z0,hC0⟩: ∃z,(a71 O Z aA aB aC aD aE aH)=z:=⟨_,rfl⟩
 try rw[hC0]
 unfold a71 at hC0
 refine oS V4 ?_
 refine oS V4 ?_
 refine oV ?_
 cases hC0
 exact⟨[(0,0),(1,1),(2,2),(3,3),(4,4)],by rfl,by rfl,by rfl⟩
def tQ (O:tD) (Z:qA) (aA:Int):(Int×Int):=
 if (decide (O.2.2.2.1=(0:Int)))=true then
  (Z.2.2.1,aA)
 else
  (O.2.2.1,O.2.2.2.1)
section
variable (O:tD) (Z:qA) (aA:Int)
@[reducible] def UY:List Slot:=[(.val rZ O,none),(.val CJ Z,none),(.val (.int .i64) aA,none)]
@[reducible] def UZ:List Blk:=[]
@[go_sem] def V0:Ret:=⟨[],[(.val rZ (O.1,(O.2.1,((tQ O Z aA).1,((tQ O Z aA).2,((O.2.2.2.2.1.1,(O.2.2.2.2.1.2.1,(O.2.2.2.2.1.2.2.1,(O.2.2.2.2.1.2.2.2.1,())))),(O.2.2.2.2.2.1,())))))),none)],[]⟩
def a7Z:List Slot→List Blk→Option Ret:=pM (V:=(tD×qA×Int)) (fun x=>UY x.1 x.2.1 x.2.2) (fun x=>UZ) fun x=>V0 x.1 x.2.1 x.2.2
@[go_sem] theorem aKW:a7Z (no_index (UY O Z aA)) (no_index UZ)=some (V0 O Z aA):=pN (fun⟨a0,a1,a2⟩ ⟨b0,b1,b2⟩ h1 h2=>by cases h1;cases h2;rfl) (O,Z,aA)
end
@[reducible,go_sem] def EA:Nat×Sig:=(78,⟨[.v,.v,.v],a7Z,[],[],none⟩)
theorem HV:Env Tryz.prog [s5,vH,AF,AG] (pE []):=⟨⟨sG,⟨wQ,⟨CL,⟨CM,trivial⟩⟩⟩⟩,pP,pH⟩
theorem G4:pI Tryz.prog EA:=by
 refine pO HV Tryz.func78 (c:=_) rfl (N:=16) (by kernel_rfl) (ts:=[(6,some 91)]) rfl (fun _ _=>rfl) ?_
 intro⟨O,Z,aA⟩ hs hrow
 dsimp only[UY,UZ,V0,pJ,enumH,pD,pG,pL,Nat.reduceAdd] at hs hrow⊢
 obtain⟨z0,hC0⟩: ∃z,(tQ O Z aA)=z:=⟨_,rfl⟩
 try rw[hC0]
 unfold tQ at hC0
 refine oS HV ?_
 refine p4 ?_
 refine oS HV ?_
 refine oX hC0 (fun hC0 hc1=> ?_) (fun hC0 hc1=> ?_)
 ·refine pF HV ?_
  refine oW ?_
  refine oS HV ?_
  refine oV ?_
  cases hC0
  exact⟨[],by rfl,by rfl,by rfl⟩
 ·refine p6 (oW ?_)
  refine oS HV ?_
  refine oV ?_
  cases hC0
  exact⟨[],by rfl,by rfl,by rfl⟩
def EB (O:(List UInt8)) (Z:Int) (aA:(List UInt8)):Option Unit:=
 if oT ((List.length O:Int)-Z) then
  if (((decide ((List.length aA:Int)≤((List.length O:Int)-Z)))==true)=true→oT (Z+(List.length aA:Int))) then
   if (((decide ((List.length aA:Int)≤((List.length O:Int)-Z)))==true)=true→0≤Z∧Z≤(Z+(List.length aA:Int))∧(Z+(List.length aA:Int))≤(List.length O:Int)) then
    some (())
   else none
  else none
 else none
section
variable (O:(List UInt8)) (Z:Int) (aA:(List UInt8))
@[reducible] def V5:List Slot:=[(.val .str O,none),(.val (.int .i64) Z,none),(.val .str aA,none)]
@[reducible] def V6:List Blk:=[]
@[go_sem] def V7:Ret:=⟨[((EB O Z aA)).isSome=true],[(.val .bool ((decide ((List.length aA:Int)≤((List.length O:Int)-Z)))&&(decide ((oZ O Z (Z+(List.length aA:Int)))=aA))),none)],[]⟩
def a75:List Slot→List Blk→Option Ret:=pM (V:=((List UInt8)×Int×(List UInt8))) (fun x=>V5 x.1 x.2.1 x.2.2) (fun x=>V6) fun x=>V7 x.1 x.2.1 x.2.2
@[go_sem] theorem aKY:a75 (no_index (V5 O Z aA)) (no_index V6)=some (V7 O Z aA):=pN (fun⟨a0,a1,a2⟩ ⟨b0,b1,b2⟩ h1 h2=>by cases h1;cases h2;rfl) (O,Z,aA)
end
@[reducible,go_sem] def a76:Nat×Sig:=(80,⟨[.v,.v,.v],a75,[],[],none⟩)
theorem V8:Env Tryz.prog [q7] (pE []):=⟨⟨q9,trivial⟩,pP,pH⟩
theorem aFZ:pI Tryz.prog a76:=by
 refine pO V8 Tryz.func80 (c:=_) rfl (N:=25) (by kernel_rfl) (ts:=[(6,none)]) rfl (fun _ _=>rfl) ?_
 intro⟨O,Z,aA⟩ hs hrow
 dsimp only[V5,V6,V7,pJ,enumH,pD,pG,pL,Nat.reduceAdd] at hs hrow⊢
 have hz:=hs
 obtain⟨z0,hC0⟩:=Option.isSome_iff_exists.1 hz
 try rw[pW hC0]
 clear hz hs
 unfold EB at hC0
 refine oS V8 ?_
 obtain⟨hg1,hC0⟩:=oU hC0
 obtain⟨hg2,hC0⟩:=oU hC0
 obtain⟨hg3,hC0⟩:=oU hC0
 refine oS V8 ?_ (hp:=by exact And.intro hg1 (And.intro (fun hh=>hh) (And.intro (fun hh=>hh) (And.intro (fun hh=>hh) (And.intro hg2 (And.intro (fun hh=>hh) (And.intro (fun hh=>hh) (And.intro (fun hh=>hh) (And.intro hg3 (And.intro (fun hh=>hh) (And.intro (fun hh=>hh) ((fun hh=>pZ hh)))))))))))))
 refine oV ?_
 cases hC0
 exact⟨[],by rfl,by rfl,by rfl⟩
attribute [irreducible] EB
def KV (O:qB) (Z:(List UInt8)):Int→Option (Int⊕(Unit⊕(Int×Bool))):=fun aA=>
 if (decide (aA<(List.length O.2.2.2.1:Int)))=true then
  if 0≤aA∧aA<(List.length O.2.2.2.1:Int) then
   if (decide ((pY uJ O.2.2.2.1 aA).1=Z))=true then
    some (.inr (.inr ((aA,true))))
   else
    if oT (aA+(1:Int)) then
     some (.inl (aA+(1:Int)))
    else none
  else none
 else
  some (.inr (.inl ()))
def EC (O:qB) (Z:(List UInt8)):Option (Int×Bool):=
 qT (pR (KV O Z) (0:Int)) fun _=>
 some (((0:Int),false))
section
variable (O:qB) (Z:(List UInt8))
@[reducible] def V9:List Slot:=[(.val vF O,none),(.val .str Z,none)]
@[reducible] def VA:List Blk:=[]
@[go_sem] def VB:Ret:=⟨[((EC O Z)).isSome=true],[(.val (.int .i64) ((val (EC O Z)).1),none),(.val .bool ((val (EC O Z)).2),none)],[]⟩
def a77:List Slot→List Blk→Option Ret:=pM (V:=(qB×(List UInt8))) (fun x=>V9 x.1 x.2) (fun x=>VA) fun x=>VB x.1 x.2
@[go_sem] theorem aKZ:a77 (no_index (V9 O Z)) (no_index VA)=some (VB O Z):=pN (fun⟨a0,a1⟩ ⟨b0,b1⟩ h1 h2=>by cases h1;cases h2;rfl) (O,Z)
end
@[reducible,go_sem] def a78:Nat×Sig:=(81,⟨[.v,.v],a77,[],[],none⟩)
theorem ED:Env Tryz.prog [q7,HS,AH,yU] (pE []):=⟨⟨q9,⟨OM,⟨CN,⟨AI,trivial⟩⟩⟩⟩,pP,pH⟩
theorem aF0:pI Tryz.prog a78:=by
 refine pO ED Tryz.func81 (c:=_) rfl (N:=23) (by kernel_rfl) (ts:=[(4,none),(5,none)]) rfl (fun _ _=>rfl) ?_
 intro⟨O,Z⟩ hs hrow
 dsimp only[V9,VA,VB,pJ,enumH,pD,pG,pL,Nat.reduceAdd] at hs hrow⊢
 have hz:=hs
 obtain⟨z0,hC0⟩:=Option.isSome_iff_exists.1 hz
 try rw[pW hC0]
 clear hz hs
 unfold EC at hC0
 refine oS ED ?_
 refine p4 ?_
 refine oS ED ?_
 refine pT ?_
 obtain⟨y1,hy1,hC0⟩:=sX hC0
 refine rH 0 (fun s=> ∃v,y1= .inl v∧s=(fun _=>⟨[],[],0,23,0⟩) v) ?_ ?_
 ·refine rG hy1 (fun x=>⟨[(1,(.val .str Z,none)),(2,(.val .ref (some (0,0)),none)),(6,(.val (.int .i64) x,none))],[(0,.cells vF O [])],1,23,0⟩) ⟨[1,2,6],[(0,0)]⟩ (by rfl) ?_
  intro aA w1 n1 hC1 hN1
  unfold KV at hC1
  dsimp only at hC1⊢
  refine p4 ?_
  refine oS ED ?_
  refine oX hC1 (fun hC1 hc1=> ?_) (fun hC1 hc1=> ?_)
  ·refine p6 (oW (p4 (pT ?_)))
   obtain⟨hg1,hC1⟩:=oU hC1
   refine oS ED ?_ (hp:=by exact hg1)
   refine oX hC1 (fun hC1 hc2=> ?_) (fun hC1 hc2=> ?_)
   ·refine oS ED ?_
    refine oV (pS (pC (sK (sJ (pS (pC ?_))))))
    cases hC1
    cases hN1
    dsimp only at hC0
    cases hC0
    exact⟨[],by rfl,by rfl,by rfl⟩
   ·refine p6 (pB (oW ?_))
    obtain⟨hg2,hC1⟩:=oU hC1
    refine pF ED ?_ (hp:=by exact hg2)
    cases hC1
    exact qG ⟨⟨[1,2,6],[(0,0)]⟩,_,by rfl,hN1⟩
  ·refine qW (r7 (qZ ?_))
   cases hC1
   cases hN1
   exact qY ⟨⟨[],[]⟩,_,rfl,by rfl⟩
 ·rintro _ ⟨v,rfl,rfl⟩
  dsimp only at hC0⊢
  refine rE (oW ?_)
  refine oS ED ?_
  refine oV ?_
  cases hC0
  exact⟨[],by rfl,by rfl,by rfl⟩
attribute [irreducible] EC
def a8d (O:Int):Unit:=
 ()
section
variable (O:Int)
@[reducible] def VI:List Slot:=[(.val (.int .u8) O,none)]
@[reducible] def VJ:List Blk:=[]
@[go_sem] def VK:Ret:=⟨[],[(.val .bool ((decide ((97:Int)≤O))&&(decide (O≤(122:Int)))),none)],[]⟩
def a8e:List Slot→List Blk→Option Ret:=pM (V:=Int) (fun x=>VI x) (fun x=>VJ) fun x=>VK x
@[go_sem] theorem aK2:a8e (no_index (VI O)) (no_index VJ)=some (VK O):=pN (fun a0 b0 h1 h2=>by cases h1;cases h2;rfl) O
end
@[reducible,go_sem] def VL:Nat×Sig:=(118,⟨[.v],a8e,[],[],none⟩)
theorem VM:Env Tryz.prog [] (pE []):=⟨trivial,pP,pH⟩
theorem a8f:pI Tryz.prog VL:=by
 refine pO VM Tryz.func118 (c:=_) rfl (N:=9) (by kernel_rfl) (ts:=[(2,none)]) rfl (fun _ _=>rfl) ?_
 intro O hs hrow
 dsimp only[VI,VJ,VK,pJ,enumH,pD,pG,pL,Nat.reduceAdd] at hs hrow⊢
 obtain⟨z0,hC0⟩: ∃z,(a8d O)=z:=⟨_,rfl⟩
 try rw[hC0]
 unfold a8d at hC0
 refine oS VM ?_
 refine oS VM ?_ (hp:=by exact And.intro (fun hh=>hh) ((fun hh=>pZ hh)))
 refine oV ?_
 cases hC0
 exact⟨[],by rfl,by rfl,by rfl⟩
end
end Go.Proofs.YtfchbnahjcdiiaaGreatDoor
namespace Go.Proofs.YtfchbnahjcdiiaaGreatDoor
open Vc
set_option maxRecDepth 100000
set_option maxHeartbeats 4000000
set_option linter.unusedSimpArgs false
set_option linter.unusedVariables false
noncomputable section
def KW (O:(List p9)) (Z:(List UInt8)):Int→Option (Int⊕(Unit⊕((List UInt8)×Bool))):=fun aA=>
 if (decide (aA<(List.length O:Int)))=true then
  if 0≤aA∧aA<(List.length O:Int) then
   if (decide ((pY (.pair .str (.pair .str .unit)) O aA).1=Z))=true then
    if 0≤aA∧aA<(List.length O:Int) then
     some (.inr (.inr (((pY (.pair .str (.pair .str .unit)) O aA).2.1,true))))
    else none
   else
    if oT (aA+(1:Int)) then
     some (.inl (aA+(1:Int)))
    else none
  else none
 else
  some (.inr (.inl ()))
def EE (O:(List p9)) (Z:(List UInt8)):Option ((List UInt8)×Bool):=
 qT (pR (KW O Z) (0:Int)) fun _=>
 some ((([]:List UInt8),false))
section
variable (O:(List p9)) (Z:(List UInt8))
@[reducible] def VC:List Slot:=[(.val (.list (.pair .str (.pair .str .unit))) O,none),(.val .str Z,none)]
@[reducible] def VD:List Blk:=[]
@[go_sem] def VE:Ret:=⟨[((EE O Z)).isSome=true],[(.val .str ((val (EE O Z)).1),none),(.val .bool ((val (EE O Z)).2),none)],[]⟩
def a79:List Slot→List Blk→Option Ret:=pM (V:=((List p9)×(List UInt8))) (fun x=>VC x.1 x.2) (fun x=>VD) fun x=>VE x.1 x.2
@[go_sem] theorem aK0:a79 (no_index (VC O Z)) (no_index VD)=some (VE O Z):=pN (fun⟨a0,a1⟩ ⟨b0,b1⟩ h1 h2=>by cases h1;cases h2;rfl) (O,Z)
end
@[reducible,go_sem] def a8a:Nat×Sig:=(107,⟨[.v,.v],a79,[],[],none⟩)
theorem EF:Env Tryz.prog [q7,AJ,BI] (pE []):=⟨⟨q9,⟨CO,⟨E6,trivial⟩⟩⟩,pP,pH⟩
theorem aF1:pI Tryz.prog a8a:=by
 refine pO EF Tryz.func107 (c:=_) rfl (N:=25) (by kernel_rfl) (ts:=[(4,none),(5,none)]) rfl (fun _ _=>rfl) ?_
 intro⟨O,Z⟩ hs hrow
 dsimp only[VC,VD,VE,pJ,enumH,pD,pG,pL,Nat.reduceAdd] at hs hrow⊢
 have hz:=hs
 obtain⟨z0,hC0⟩:=Option.isSome_iff_exists.1 hz
 try rw[pW hC0]
 clear hz hs
 unfold EE at hC0
 refine oS EF ?_
 refine p4 ?_
 refine oS EF ?_
 refine pT ?_
 obtain⟨y1,hy1,hC0⟩:=sX hC0
 refine rH 0 (fun s=> ∃v,y1= .inl v∧s=(fun _=>⟨[],[],0,25,0⟩) v) ?_ ?_
 ·refine rG hy1 (fun x=>⟨[(0,(.val (.list (.pair .str (.pair .str .unit))) O,none)),(1,(.val .str Z,none)),(6,(.val (.int .i64) x,none))],[],0,25,0⟩) ⟨[0,1,6],[]⟩ (by rfl) ?_
  intro aA w1 n1 hC1 hN1
  unfold KW at hC1
  dsimp only at hC1⊢
  refine p4 ?_
  refine oS EF ?_
  refine oX hC1 (fun hC1 hc1=> ?_) (fun hC1 hc1=> ?_)
  ·refine p6 (oW (p4 (pT ?_)))
   obtain⟨hg1,hC1⟩:=oU hC1
   refine oS EF ?_ (hp:=by exact hg1)
   refine oX hC1 (fun hC1 hc2=> ?_) (fun hC1 hc2=> ?_)
   ·obtain⟨hg2,hC1⟩:=oU hC1
    refine oS EF ?_ (hp:=by exact hg2)
    refine oV (pS (pC (sK (sJ (pS (pC ?_))))))
    cases hC1
    cases hN1
    dsimp only at hC0
    cases hC0
    exact⟨[],by rfl,by rfl,by rfl⟩
   ·refine p6 (pB (oW ?_))
    obtain⟨hg3,hC1⟩:=oU hC1
    refine pF EF ?_ (hp:=by exact hg3)
    cases hC1
    exact qG ⟨⟨[0,1,6],[]⟩,_,by rfl,hN1⟩
  ·refine qW (r7 (qZ ?_))
   cases hC1
   cases hN1
   exact qY ⟨⟨[],[]⟩,_,rfl,by rfl⟩
 ·rintro _ ⟨v,rfl,rfl⟩
  dsimp only at hC0⊢
  refine rE (oW ?_)
  refine oS EF ?_
  refine oV ?_
  cases hC0
  exact⟨[],by rfl,by rfl,by rfl⟩
attribute [irreducible] EE
def KX (O:(List p9)) (Z:(List UInt8)) (aA:(List UInt8)):Int→Option (Int⊕(Unit⊕(List p9))):=fun aB=>
 if (decide (aB<(((List.length (([]:List p9)++O)):Nat):Int)))=true then
  if 0≤aB∧aB<(((List.length (([]:List p9)++O)):Nat):Int) then
   if (decide ((pY (.pair .str (.pair .str .unit)) (([]:List p9)++O) aB).1=Z))=true then
    if 0≤aB∧aB<(((List.length (([]:List p9)++O)):Nat):Int) then
     some (.inr (.inr ((List.set (([]:List p9)++O) (Int.toNat aB) ((pY (.pair .str (.pair .str .unit)) (([]:List p9)++O) aB).1,(aA,(pY (.pair .str (.pair .str .unit)) (([]:List p9)++O) aB).2.2))))))
    else none
   else
    if oT (aB+(1:Int)) then
     some (.inl (aB+(1:Int)))
    else none
  else none
 else
  some (.inr (.inl ()))
def G5 (O:(List p9)) (Z:(List UInt8)):Int→Option (Int⊕Int):=fun aA=>
 if (((decide (aA<(List.length O:Int)))==true)=true→0≤aA∧aA<(List.length O:Int)) then
  if ((decide (aA<(List.length O:Int)))&&(Op.bytesLess (pY (.pair .str (.pair .str .unit)) O aA).1 Z||decide ((pY (.pair .str (.pair .str .unit)) O aA).1=Z)))=true then
   if oT (aA+(1:Int)) then
    some (.inl (aA+(1:Int)))
   else none
  else
   some (.inr aA)
 else none
def EG (O:(List p9)) (Z:(List UInt8)) (aA:(List UInt8)):Option (List p9):=
 if (0+List.length O)*32≤140737488355328 then
  qT (pR (KX O Z aA) (0:Int)) fun _=>
  qD (pR (G5 O Z) (0:Int)) fun aB=>
  if 0≤(0:Int)∧(0:Int)≤aB∧aB≤(List.length O:Int) then
   if (0+List.length (oZ O (0:Int) aB))*32≤140737488355328 then
    if ((List.length (([]:List p9)++(oZ O (0:Int) aB)))+List.length ([(Z,(aA,()))]:List p9))*32≤140737488355328 then
     if 0≤aB∧aB≤(List.length O:Int)∧(List.length O:Int)≤(List.length O:Int) then
      if ((List.length ((([]:List p9)++(oZ O (0:Int) aB))++([(Z,(aA,()))]:List p9)))+List.length (oZ O aB (List.length O:Int)))*32≤140737488355328 then
       some ((((([]:List p9)++(oZ O (0:Int) aB))++([(Z,(aA,()))]:List p9))++(oZ O aB (List.length O:Int))))
      else none
     else none
    else none
   else none
  else none
 else none
section
variable (O:(List p9)) (Z:(List UInt8)) (aA:(List UInt8))
@[reducible] def VF:List Slot:=[(.val (.list (.pair .str (.pair .str .unit))) O,none),(.val .str Z,none),(.val .str aA,none)]
@[reducible] def VG:List Blk:=[]
@[go_sem] def VH:Ret:=⟨[((EG O Z aA)).isSome=true],[(.val (.list (.pair .str (.pair .str .unit))) (val (EG O Z aA)),some 0)],[.grow 144 2 (List.length (val (EG O Z aA)))]⟩
def a8b:List Slot→List Blk→Option Ret:=pM (V:=((List p9)×(List UInt8)×(List UInt8))) (fun x=>VF x.1 x.2.1 x.2.2) (fun x=>VG) fun x=>VH x.1 x.2.1 x.2.2
@[go_sem] theorem aK1:a8b (no_index (VF O Z aA)) (no_index VG)=some (VH O Z aA):=pN (fun⟨a0,a1,a2⟩ ⟨b0,b1,b2⟩ h1 h2=>by cases h1;cases h2;rfl) (O,Z,aA)
end
@[reducible,go_sem] def a8c:Nat×Sig:=(108,⟨[.v,.v,.v],a8b,[],[],none⟩)
theorem yW:Env Tryz.prog [q7,KQ,BI] (pE []):=⟨⟨q9,⟨TR,⟨E6,trivial⟩⟩⟩,pP,pH⟩
theorem aF2:pI Tryz.prog a8c:=by
 refine pO yW Tryz.func108 (c:=_) rfl (N:=61) (by kernel_rfl) (ts:=[(6,none)]) rfl (fun _ _=>rfl) ?_
 intro⟨O,Z,aA⟩ hs hrow
 dsimp only[VF,VG,VH,pJ,enumH,pD,pG,pL,Nat.reduceAdd] at hs hrow⊢
 have hz:=hs
 obtain⟨z0,hC0⟩:=Option.isSome_iff_exists.1 hz
 try rw[pW hC0]
 clear hz hs
 unfold EG at hC0
 refine oS yW ?_
 obtain⟨hg1,hC0⟩:=oU hC0
 refine oS yW ?_ (hp:=by exact And.intro (by first|exact rfl|exact trivial) (hg1))
 refine p4 ?_
 refine oS yW ?_
 refine pT ?_
 obtain⟨y1,hy1,hC0⟩:=sX hC0
 refine rH 0 (fun s=> ∃v,y1= .inl v∧s=(fun _=>⟨[(0,(.val (.list (.pair .str (.pair .str .unit))) O,none)),(1,(.val .str Z,none)),(2,(.val .str aA,none))],[],0,61,0⟩) v) ?_ ?_
 ·refine rG hy1 (fun x=>⟨[(0,(.val (.list (.pair .str (.pair .str .unit))) O,none)),(1,(.val .str Z,none)),(2,(.val .str aA,none)),(7,(.own 0 (List.length (([]:List p9)++O)),none)),(8,(.val (.int .i64) x,none))],[(0,.row 144 (.pair .str (.pair .str .unit)) (([]:List p9)++O) (List.length (([]:List p9)++O)))],1,61,0⟩) ⟨[0,1,2,7,8],[(0,16)]⟩ (by rfl) ?_
  intro aB w1 n1 hC1 hN1
  unfold KX at hC1
  dsimp only at hC1⊢
  refine p4 ?_
  refine oS yW ?_
  refine oX hC1 (fun hC1 hc1=> ?_) (fun hC1 hc1=> ?_)
  ·refine p6 (oW (p4 (pT ?_)))
   obtain⟨hg2,hC1⟩:=oU hC1
   refine oS yW ?_ (hp:=by exact And.intro hg2 ((by first|exact rfl|exact trivial)))
   refine oX hC1 (fun hC1 hc2=> ?_) (fun hC1 hc2=> ?_)
   ·obtain⟨hg3,hC1⟩:=oU hC1
    refine oS yW ?_ (hp:=by exact And.intro hg3 ((by first|exact rfl|exact trivial)))
    refine oS yW ?_
    refine KE 0 rfl (by repeat' (first|exact trivial|apply And.intro|exact(fun _=>rfl) |exact(fun h=>absurd h (by decide)))) ?_
    refine oV (pS (pC (sK (sJ (pS (pC ?_))))))
    cases hC1
    cases hN1
    dsimp only at hC0
    cases hC0
    exact⟨[(0,0)],by rfl,by rfl,by rfl⟩
   ·refine p6 (pB (oW ?_))
    obtain⟨hg4,hC1⟩:=oU hC1
    refine pF yW ?_ (hp:=by exact hg4)
    cases hC1
    exact qG ⟨⟨[0,1,2,7,8],[(0,0)]⟩,_,by rfl,hN1⟩
  ·refine qW (r7 (qZ ?_))
   cases hC1
   cases hN1
   exact qY ⟨⟨[0,1,2],[]⟩,_,rfl,by rfl⟩
 ·rintro _ ⟨v,rfl,rfl⟩
  dsimp only at hC0⊢
  refine rE (oW ?_)
  refine oS yW ?_
  refine p4 (pT ?_)
  obtain⟨aC,hy1,hC0⟩:=oY hC0
  refine rH 2 (fun s=>s=(fun x=>⟨[(0,(.val (.list (.pair .str (.pair .str .unit))) O,none)),(1,(.val .str Z,none)),(2,(.val .str aA,none)),(9,(.val (.int .i64) x,none))],[],0,61,0⟩) aC) ?_ ?_
  ·refine rG hy1 (fun x=>⟨[(0,(.val (.list (.pair .str (.pair .str .unit))) O,none)),(1,(.val .str Z,none)),(2,(.val .str aA,none)),(9,(.val (.int .i64) x,none))],[],0,61,0⟩) ⟨[0,1,2,9],[]⟩ (by rfl) ?_
   intro aD w1 n1 hC1 hN1
   unfold G5 at hC1
   dsimp only at hC1⊢
   refine p4 ?_
   obtain⟨hg5,hC1⟩:=oU hC1
   refine oS yW ?_ (hp:=by exact And.intro (fun hh=>hh) (And.intro (fun hh=>hh) (And.intro hg5 (And.intro (fun hh=>hh) (And.intro (fun hh=>hh) (And.intro (fun hh=>hh) (And.intro (fun hh=>hh) ((fun hh=>pZ hh)))))))))
   refine oX hC1 (fun hC1 hc3=> ?_) (fun hC1 hc3=> ?_)
   ·refine p6 (oW (pT ?_))
    obtain⟨hg6,hC1⟩:=oU hC1
    refine pF yW ?_ (hp:=by exact hg6)
    refine pB ?_
    cases hC1
    exact qG ⟨⟨[0,1,2,9],[]⟩,_,by rfl,hN1⟩
   ·refine qW (r7 (qZ ?_))
    cases hC1
    cases hN1
    exact qY ⟨⟨[0,1,2,9],[]⟩,by rfl⟩
  ·rintro _ rfl
   dsimp only at hC0⊢
   refine rE (oW ?_)
   obtain⟨hg7,hC0⟩:=oU hC0
   obtain⟨hg8,hC0⟩:=oU hC0
   obtain⟨hg9,hC0⟩:=oU hC0
   obtain⟨hg10,hC0⟩:=oU hC0
   obtain⟨hg11,hC0⟩:=oU hC0
   refine qK yW ?_ (hp:=by exact And.intro hg7 (And.intro (by first|exact rfl|exact trivial) (And.intro hg8 (And.intro (by first|exact rfl|exact trivial) (And.intro hg9 (And.intro hg10 (And.intro (by first|exact rfl|exact trivial) (hg11))))))))
   refine OF ⟨[0,1,2,9,48,49,50,52,53,54,55,57,58,59,60,6],[(0,0),(128,128)]⟩ ?_
   simp only[go_sem,Nat.max_def]
   refine KE 0 rfl (by repeat' (first|exact trivial|apply And.intro|exact(fun _=>rfl) |exact(fun h=>absurd h (by decide)))) ?_
   refine oV ?_
   cases hC0
   exact⟨[(0,0)],by rfl,by rfl,by rfl⟩
attribute [irreducible] EG
def a8g (O:((List UInt8)×(Int×Unit))) (Z:qA) (aA:Int) (aB:Int) (aC:qB) (aD:((List Int)×(Int×Unit))) (aE:Int) (aF:(List UInt8)) (aG:(List ((List UInt8)×Bool))):Unit:=
 ()
section
variable (O:Int) (Z:(List UInt8)) (aA:((List UInt8)×(Int×Unit))) (aB:qA) (aC:Int) (aD:Int) (aE:qB) (aF:((List Int)×(Int×Unit))) (aG:Nat) (aH:Nat) (aI:(List ((List UInt8)×Bool)))
@[reducible] def VN:List Slot:=[(.val .ref (some (0,0)),none),(.val (.int .i64) O,none),(.val .str Z,none)]
@[reducible] def VO:List Blk:=[.cells q8 (aA,(aB,(aC,(aD,(aE,((some 3),aF)))))) [(11,1),(13,2)],.grow 52 7 aG,.grow 3 1 aH,.map .str .bool aI]
@[go_sem] def VP:Ret:=⟨[aG=(List.length aE.2.2.2.1),aH=(List.length aF.1)],[(.val .bool (((decide (aD=(0:Int)))&&(decide (aB.1=O)))&&(decide (aB.2.1=Z))),none)],[.cells q8 ((aA.1,(aA.2.1,())),((aB.1,(aB.2.1,(aB.2.2.1,(aB.2.2.2.1,())))),(aC,(aD,((aE.1,(aE.2.1,(aE.2.2.1,(aE.2.2.2.1,())))),((some 3),(aF.1,(aF.2.1,())))))))) [(11,1),(13,2)],.grow 52 7 (List.length aE.2.2.2.1),.grow 3 1 (List.length aF.1),.map .str .bool aI]⟩
def a8h:List Slot→List Blk→Option Ret:=pM (V:=(Int×(List UInt8)×((List UInt8)×(Int×Unit))×qA×Int×Int×qB×((List Int)×(Int×Unit))×Nat×Nat×(List ((List UInt8)×Bool)))) (fun x=>VN x.1 x.2.1) (fun x=>VO x.2.2.1 x.2.2.2.1 x.2.2.2.2.1 x.2.2.2.2.2.1 x.2.2.2.2.2.2.1 x.2.2.2.2.2.2.2.1 x.2.2.2.2.2.2.2.2.1 x.2.2.2.2.2.2.2.2.2.1 x.2.2.2.2.2.2.2.2.2.2) fun x=>VP x.1 x.2.1 x.2.2.1 x.2.2.2.1 x.2.2.2.2.1 x.2.2.2.2.2.1 x.2.2.2.2.2.2.1 x.2.2.2.2.2.2.2.1 x.2.2.2.2.2.2.2.2.1 x.2.2.2.2.2.2.2.2.2.1 x.2.2.2.2.2.2.2.2.2.2
@[go_sem] theorem aK3:a8h (no_index (VN O Z)) (no_index (VO aA aB aC aD aE aF aG aH aI))=some (VP O Z aA aB aC aD aE aF aG aH aI):=pN (fun⟨a0,a1,a2,a3,a4,a5,a6,a7,a8,a9,a10⟩ ⟨b0,b1,b2,b3,b4,b5,b6,b7,b8,b9,b10⟩ h1 h2=>by cases h1;cases h2;rfl) (O,Z,aA,aB,aC,aD,aE,aF,aG,aH,aI)
end
@[reducible,go_sem] def a8i:Nat×Sig:=(113,⟨[.p q8 [11,13],.v,.v],a8h,[(0,12,.m)],[0,1,2,3],none⟩)
theorem VQ:Env Tryz.prog [s5,q7,vH,wR,uV] (pE []):=⟨⟨sG,⟨q9,⟨wQ,⟨yB,⟨w6,trivial⟩⟩⟩⟩⟩,pP,pH⟩
theorem aF3:pI Tryz.prog a8i:=by
 refine pO VQ Tryz.func113 (c:=_) rfl (N:=30) (by kernel_rfl) (ts:=[(6,none)]) rfl (fun _ _=>rfl) ?_
 intro⟨O,Z,aA,aB,aC,aD,aE,aF,aG,aH,aI⟩ hs hrow
 dsimp only[VN,VO,VP,pJ,enumH,pD,pG,pL,Nat.reduceAdd] at hs hrow⊢
 obtain⟨rfl,rfl⟩:=hs
 obtain⟨z0,hC0⟩: ∃z,(a8g aA aB aC aD aE aF O Z aI)=z:=⟨_,rfl⟩
 try rw[hC0]
 unfold a8g at hC0
 refine oS VQ ?_
 refine oS VQ ?_ (hp:=by exact And.intro (fun hh=>hh) (And.intro (fun hh=>hh) (And.intro (fun hh=>hh) (And.intro (fun hh=>hh) (And.intro (fun hh=>hh) (And.intro (fun hh=>hh) (And.intro (fun hh=>pZ hh) (And.intro (fun hh=>hh) (And.intro (fun hh=>hh) (And.intro (fun hh=>hh) (And.intro (fun hh=>hh) (And.intro (fun hh=>hh) (And.intro (fun hh=>hh) ((fun hh=>pZ hh)))))))))))))))
 refine oV ?_
 cases hC0
 exact⟨[(0,0),(1,1),(2,2),(3,3)],by rfl,by rfl,by rfl⟩
def s7 (O:((List UInt8)×(Int×Unit))) (Z:qA) (aA:Int) (aB:Int) (aC:qB) (aD:((List Int)×(Int×Unit))) (aE:Int) (aF:(List ((List UInt8)×Bool))):(Int×Int):=
 if (decide (aB=(0:Int)))=true then
  (Z.2.2.1,aE)
 else
  (aA,aB)
section
variable (O:Int) (Z:((List UInt8)×(Int×Unit))) (aA:qA) (aB:Int) (aC:Int) (aD:qB) (aE:((List Int)×(Int×Unit))) (aF:Nat) (aG:Nat) (aH:(List ((List UInt8)×Bool)))
@[reducible] def VR:List Slot:=[(.val .ref (some (0,0)),none),(.val (.int .i64) O,none)]
@[reducible] def VS:List Blk:=[.cells q8 (Z,(aA,(aB,(aC,(aD,((some 3),aE)))))) [(11,1),(13,2)],.grow 52 7 aF,.grow 3 1 aG,.map .str .bool aH]
@[go_sem] def VT:Ret:=⟨[aF=(List.length aD.2.2.2.1),aG=(List.length aE.1)],[],[.cells q8 ((Z.1,(Z.2.1,())),((aA.1,(aA.2.1,(aA.2.2.1,(aA.2.2.2.1,())))),((s7 Z aA aB aC aD aE O aH).1,((s7 Z aA aB aC aD aE O aH).2,((aD.1,(aD.2.1,(aD.2.2.1,(aD.2.2.2.1,())))),((some 3),(aE.1,(aE.2.1,())))))))) [(11,1),(13,2)],.grow 52 7 (List.length aD.2.2.2.1),.grow 3 1 (List.length aE.1),.map .str .bool aH]⟩
def a8j:List Slot→List Blk→Option Ret:=pM (V:=(Int×((List UInt8)×(Int×Unit))×qA×Int×Int×qB×((List Int)×(Int×Unit))×Nat×Nat×(List ((List UInt8)×Bool)))) (fun x=>VR x.1) (fun x=>VS x.2.1 x.2.2.1 x.2.2.2.1 x.2.2.2.2.1 x.2.2.2.2.2.1 x.2.2.2.2.2.2.1 x.2.2.2.2.2.2.2.1 x.2.2.2.2.2.2.2.2.1 x.2.2.2.2.2.2.2.2.2) fun x=>VT x.1 x.2.1 x.2.2.1 x.2.2.2.1 x.2.2.2.2.1 x.2.2.2.2.2.1 x.2.2.2.2.2.2.1 x.2.2.2.2.2.2.2.1 x.2.2.2.2.2.2.2.2.1 x.2.2.2.2.2.2.2.2.2
@[go_sem] theorem aK4:a8j (no_index (VR O)) (no_index (VS Z aA aB aC aD aE aF aG aH))=some (VT O Z aA aB aC aD aE aF aG aH):=pN (fun⟨a0,a1,a2,a3,a4,a5,a6,a7,a8,a9⟩ ⟨b0,b1,b2,b3,b4,b5,b6,b7,b8,b9⟩ h1 h2=>by cases h1;cases h2;rfl) (O,Z,aA,aB,aC,aD,aE,aF,aG,aH)
end
@[reducible,go_sem] def wT:Nat×Sig:=(114,⟨[.p q8 [11,13],.v],a8j,[(0,12,.m)],[1,2,3],none⟩)
theorem VU:Env Tryz.prog [s5,vH,wR,uV] (pE []):=⟨⟨sG,⟨wQ,⟨yB,⟨w6,trivial⟩⟩⟩⟩,pP,pH⟩
theorem BK:pI Tryz.prog wT:=by
 refine pO VU Tryz.func114 (c:=_) rfl (N:=21) (by kernel_rfl) (ts:=[]) rfl (fun _ _=>rfl) ?_
 intro⟨O,Z,aA,aB,aC,aD,aE,aF,aG,aH⟩ hs hrow
 dsimp only[VR,VS,VT,pJ,enumH,pD,pG,pL,Nat.reduceAdd] at hs hrow⊢
 obtain⟨rfl,rfl⟩:=hs
 obtain⟨z0,hC0⟩: ∃z,(s7 Z aA aB aC aD aE O aH)=z:=⟨_,rfl⟩
 try rw[hC0]
 unfold s7 at hC0
 refine oS VU ?_
 refine oX hC0 (fun hC0 hc1=> ?_) (fun hC0 hc1=> ?_)
 ·refine pF VU ?_
  cases hC0
  exact⟨[(0,0),(1,1),(2,2),(3,3)],by rfl,by rfl,by rfl⟩
 ·refine p6 ?_
  cases hC0
  exact⟨[(0,0),(1,1),(2,2),(3,3)],by rfl,by rfl,by rfl⟩
def a8m (O:Int):Unit:=
 ()
section
variable (O:Int)
@[reducible] def VZ:List Slot:=[(.val (.int .u8) O,none)]
@[reducible] def W0:List Blk:=[]
@[go_sem] def W2:Ret:=⟨[],[(.val .bool ((decide ((48:Int)≤O))&&(decide (O≤(57:Int)))),none)],[]⟩
def a8n:List Slot→List Blk→Option Ret:=pM (V:=Int) (fun x=>VZ x) (fun x=>W0) fun x=>W2 x
@[go_sem] theorem aK6:a8n (no_index (VZ O)) (no_index W0)=some (W2 O):=pN (fun a0 b0 h1 h2=>by cases h1;cases h2;rfl) O
end
@[reducible,go_sem] def W3:Nat×Sig:=(119,⟨[.v],a8n,[],[],none⟩)
theorem W4:Env Tryz.prog [] (pE []):=⟨trivial,pP,pH⟩
theorem a8o:pI Tryz.prog W3:=by
 refine pO W4 Tryz.func119 (c:=_) rfl (N:=9) (by kernel_rfl) (ts:=[(2,none)]) rfl (fun _ _=>rfl) ?_
 intro O hs hrow
 dsimp only[VZ,W0,W2,pJ,enumH,pD,pG,pL,Nat.reduceAdd] at hs hrow⊢
 obtain⟨z0,hC0⟩: ∃z,(a8m O)=z:=⟨_,rfl⟩
 try rw[hC0]
 unfold a8m at hC0
 refine oS W4 ?_
 refine oS W4 ?_ (hp:=by exact And.intro (fun hh=>hh) ((fun hh=>pZ hh)))
 refine oV ?_
 cases hC0
 exact⟨[],by rfl,by rfl,by rfl⟩
def a8t (O:Int):Unit:=
 ()
section
variable (O:Int)
@[reducible] def WD:List Slot:=[(.val (.int .i64) O,none)]
@[reducible] def WE:List Blk:=[]
@[go_sem] def WF:Ret:=⟨[],[(.val .bool ((decide ((1:Int)≤O))&&(decide (O≤(4:Int)))),none)],[]⟩
def a8u:List Slot→List Blk→Option Ret:=pM (V:=Int) (fun x=>WD x) (fun x=>WE) fun x=>WF x
@[go_sem] theorem aK9:a8u (no_index (WD O)) (no_index WE)=some (WF O):=pN (fun a0 b0 h1 h2=>by cases h1;cases h2;rfl) O
end
@[reducible,go_sem] def WG:Nat×Sig:=(124,⟨[.v],a8u,[],[],none⟩)
theorem WH:Env Tryz.prog [] (pE []):=⟨trivial,pP,pH⟩
theorem a8v:pI Tryz.prog WG:=by
 refine pO WH Tryz.func124 (c:=_) rfl (N:=9) (by kernel_rfl) (ts:=[(2,none)]) rfl (fun _ _=>rfl) ?_
 intro O hs hrow
 dsimp only[WD,WE,WF,pJ,enumH,pD,pG,pL,Nat.reduceAdd] at hs hrow⊢
 obtain⟨z0,hC0⟩: ∃z,(a8t O)=z:=⟨_,rfl⟩
 try rw[hC0]
 unfold a8t at hC0
 refine oS WH ?_
 refine oS WH ?_ (hp:=by exact And.intro (fun hh=>hh) ((fun hh=>pZ hh)))
 refine oV ?_
 cases hC0
 exact⟨[],by rfl,by rfl,by rfl⟩
end
end Go.Proofs.YtfchbnahjcdiiaaGreatDoor
namespace Go.Proofs.YtfchbnahjcdiiaaGreatDoor
open Vc
set_option maxRecDepth 100000
set_option maxHeartbeats 4000000
set_option linter.unusedSimpArgs false
set_option linter.unusedVariables false
noncomputable section
def uE (O:(List UInt8)) (Z:(List UInt8)) (aA:(List UInt8)) (aB:(List (List UInt8))) (aC:(Int×((List p9)×Unit))) (aD:Bool) (aE:(List (List UInt8))) (aF:(List ((List UInt8)×Bool))):(List ((List UInt8)×(Option Nat))):=
 if aD=true then
  (rB .str .fn ([102,108,97,103]:List UInt8) (some 152) (rB .str .fn ([115,116,97,116,101]:List UInt8) (some 151) (rB .str .fn ([116,97,114,103,101,116]:List UInt8) (some 150) (rB .str .fn ([115,111,117,114,99,101]:List UInt8) (some 149) (rB .str .fn ([102,105,101,108,100]:List UInt8) (some 148) (rB .str .fn ([99,111,109,109,101,110,116]:List UInt8) (some 147) ([]:List ((List UInt8)×(Option Nat)))))))))
 else
  (rB .str .fn ([102,105,101,108,100]:List UInt8) (some 148) (rB .str .fn ([99,111,109,109,101,110,116]:List UInt8) (some 147) ([]:List ((List UInt8)×(Option Nat)))))
section
variable (O:(List UInt8)) (Z:(List UInt8)) (aA:(List UInt8)) (aB:(List (List UInt8))) (aC:Nat) (aD:(Int×((List p9)×Unit))) (aE:Bool) (aF:Nat) (aG:Nat) (aH:(List (List UInt8))) (aI:Nat) (aJ:(List ((List UInt8)×Bool)))
@[reducible] def VV:List Slot:=[(.val .ref (some (0,0)),none)]
@[reducible] def VW:List Blk:=[.cells r8 ((O,(Z,(aA,(aB,((some (3,aC)),aD))))),(aE,((some 4),()))) [(3,1),(6,2)],.grow 9 1 aF,.grow 144 2 aG,.row 9 .str aH aI,.map .str .bool aJ]
@[go_sem] def VX:Ret:=⟨[aF=(List.length aB),aG=(List.length aD.2.1),aC=aI],[(.val .mp (some 5),none)],[.cells r8 ((O,(Z,(aA,(aB,((some (3,(List.length aH))),(aD.1,(aD.2.1,()))))))),(aE,((some 4),()))) [(3,1),(6,2)],.grow 9 1 (List.length aB),.grow 144 2 (List.length aD.2.1),.row 9 .str aH (List.length aH),.map .str .bool aJ,.map .str .fn (uE O Z aA aB aD aE aH aJ)]⟩
def a8k:List Slot→List Blk→Option Ret:=pM (V:=((List UInt8)×(List UInt8)×(List UInt8)×(List (List UInt8))×Nat×(Int×((List p9)×Unit))×Bool×Nat×Nat×(List (List UInt8))×Nat×(List ((List UInt8)×Bool)))) (fun x=>VV) (fun x=>VW x.1 x.2.1 x.2.2.1 x.2.2.2.1 x.2.2.2.2.1 x.2.2.2.2.2.1 x.2.2.2.2.2.2.1 x.2.2.2.2.2.2.2.1 x.2.2.2.2.2.2.2.2.1 x.2.2.2.2.2.2.2.2.2.1 x.2.2.2.2.2.2.2.2.2.2.1 x.2.2.2.2.2.2.2.2.2.2.2) fun x=>VX x.1 x.2.1 x.2.2.1 x.2.2.2.1 x.2.2.2.2.1 x.2.2.2.2.2.1 x.2.2.2.2.2.2.1 x.2.2.2.2.2.2.2.1 x.2.2.2.2.2.2.2.2.1 x.2.2.2.2.2.2.2.2.2.1 x.2.2.2.2.2.2.2.2.2.2.1 x.2.2.2.2.2.2.2.2.2.2.2
@[go_sem] theorem aK5:a8k (no_index VV) (no_index (VW O Z aA aB aC aD aE aF aG aH aI aJ))=some (VX O Z aA aB aC aD aE aF aG aH aI aJ):=pN (fun⟨a0,a1,a2,a3,a4,a5,a6,a7,a8,a9,a10,a11⟩ ⟨b0,b1,b2,b3,b4,b5,b6,b7,b8,b9,b10,b11⟩ h1 h2=>by cases h1;cases h2;rfl) (O,Z,aA,aB,aC,aD,aE,aF,aG,aH,aI,aJ)
end
@[reducible,go_sem] def VY:Nat×Sig:=(116,⟨[.p r8 [3,6]],a8k,[(0,4,.r),(0,8,.m)],[0,1,2,3,4],none⟩)
theorem a8l:Env Tryz.prog [] (pE []):=⟨trivial,pP,pH⟩
theorem HW:Env Tryz.prog [BH,q7,yV,ON,OO] (pE []):=⟨⟨E4,⟨q9,⟨AK,⟨a7q,⟨a7r,trivial⟩⟩⟩⟩⟩,a8l.Γ,pH⟩
theorem aF4:pI Tryz.prog VY:=by
 refine pO a8l Tryz.func116 (c:=_) rfl (N:=15) (by kernel_rfl) (ts:=[(2,none)]) rfl (fun _ _=>rfl) ?_
 intro⟨O,Z,aA,aB,aC,aD,aE,aF,aG,aH,aI,aJ⟩ hs hrow
 dsimp only[VV,VW,VX,pJ,enumH,pD,pG,pL,Nat.reduceAdd] at hs hrow⊢
 obtain⟨rfl,rfl,rfl⟩:=hs
 obtain⟨rfl,_⟩:=hrow
 obtain⟨z0,hC0⟩: ∃z,(uE O Z aA aB aD aE aH aJ)=z:=⟨_,rfl⟩
 try rw[hC0]
 unfold uE at hC0
 refine oS HW ?_
 refine oS HW ?_
 refine p4 ?_
 refine oS HW ?_
 refine oX hC0 (fun hC0 hc1=> ?_) (fun hC0 hc1=> ?_)
 ·refine pF HW ?_
  refine oW ?_
  refine oS HW ?_
  refine oV ?_
  cases hC0
  exact⟨[(0,0),(1,1),(2,2),(3,3),(4,4),(5,21)],by rfl,by rfl,by rfl⟩
 ·refine p6 (oW ?_)
  refine oS HW ?_
  refine oV ?_
  cases hC0
  exact⟨[(0,0),(1,1),(2,2),(3,3),(4,4),(5,21)],by rfl,by rfl,by rfl⟩
def HX (O:(List UInt8)) (Z:(List UInt8)):Option Unit:=
 if (((decide ((List.length Z:Int)≤(List.length O:Int)))==true)=true→0≤(0:Int)∧(0:Int)≤(List.length Z:Int)∧(List.length Z:Int)≤(List.length O:Int)) then
  some (())
 else none
section
variable (O:(List UInt8)) (Z:(List UInt8))
@[reducible] def W5:List Slot:=[(.val .str O,none),(.val .str Z,none)]
@[reducible] def W6:List Blk:=[]
@[go_sem] def W7:Ret:=⟨[((HX O Z)).isSome=true],[(.val .bool ((decide ((List.length Z:Int)≤(List.length O:Int)))&&(decide ((oZ O (0:Int) (List.length Z:Int))=Z))),none)],[]⟩
def a8p:List Slot→List Blk→Option Ret:=pM (V:=((List UInt8)×(List UInt8))) (fun x=>W5 x.1 x.2) (fun x=>W6) fun x=>W7 x.1 x.2
@[go_sem] theorem aK7:a8p (no_index (W5 O Z)) (no_index W6)=some (W7 O Z):=pN (fun⟨a0,a1⟩ ⟨b0,b1⟩ h1 h2=>by cases h1;cases h2;rfl) (O,Z)
end
@[reducible,go_sem] def W8:Nat×Sig:=(122,⟨[.v,.v],a8p,[],[],none⟩)
theorem W9:Env Tryz.prog [q7] (pE []):=⟨⟨q9,trivial⟩,pP,pH⟩
theorem a8q:pI Tryz.prog W8:=by
 refine pO W9 Tryz.func122 (c:=_) rfl (N:=18) (by kernel_rfl) (ts:=[(4,none)]) rfl (fun _ _=>rfl) ?_
 intro⟨O,Z⟩ hs hrow
 dsimp only[W5,W6,W7,pJ,enumH,pD,pG,pL,Nat.reduceAdd] at hs hrow⊢
 have hz:=hs
 obtain⟨z0,hC0⟩:=Option.isSome_iff_exists.1 hz
 try rw[pW hC0]
 clear hz hs
 unfold HX at hC0
 refine oS W9 ?_
 obtain⟨hg1,hC0⟩:=oU hC0
 refine oS W9 ?_ (hp:=by exact And.intro (fun hh=>hh) (And.intro (fun hh=>hh) (And.intro (fun hh=>hh) (And.intro hg1 (And.intro (fun hh=>hh) (And.intro (fun hh=>hh) ((fun hh=>pZ hh))))))))
 refine oV ?_
 cases hC0
 exact⟨[],by rfl,by rfl,by rfl⟩
attribute [irreducible] HX
def HY (O:(List UInt8)) (Z:(List UInt8)):Option ((List UInt8)×Bool):=
 (HX O Z).bind fun aA=>
 if (!((decide ((List.length Z:Int)≤(List.length O:Int)))&&(decide ((oZ O (0:Int) (List.length Z:Int))=Z))))=true then
  some ((O,false))
 else
  if 0≤(List.length Z:Int)∧(List.length Z:Int)≤(List.length O:Int)∧(List.length O:Int)≤(List.length O:Int) then
   some (((oZ O (List.length Z:Int) (List.length O:Int)),true))
  else none
section
variable (O:(List UInt8)) (Z:(List UInt8))
@[reducible] def WA:List Slot:=[(.val .str O,none),(.val .str Z,none)]
@[reducible] def WB:List Blk:=[]
@[go_sem] def WC:Ret:=⟨[((HY O Z)).isSome=true],[(.val .str ((val (HY O Z)).1),none),(.val .bool ((val (HY O Z)).2),none)],[]⟩
def a8r:List Slot→List Blk→Option Ret:=pM (V:=((List UInt8)×(List UInt8))) (fun x=>WA x.1 x.2) (fun x=>WB) fun x=>WC x.1 x.2
@[go_sem] theorem aK8:a8r (no_index (WA O Z)) (no_index WB)=some (WC O Z):=pN (fun⟨a0,a1⟩ ⟨b0,b1⟩ h1 h2=>by cases h1;cases h2;rfl) (O,Z)
end
@[reducible,go_sem] def a8s:Nat×Sig:=(123,⟨[.v,.v],a8r,[],[],none⟩)
theorem KY:Env Tryz.prog [q7] (pE [W8]):=⟨⟨q9,trivial⟩,p5 a8q pP,pH⟩
theorem aF5:pI Tryz.prog a8s:=by
 refine pO KY Tryz.func123 (c:=_) rfl (N:=15) (by kernel_rfl) (ts:=[(4,none),(5,none)]) rfl (fun _ _=>rfl) ?_
 intro⟨O,Z⟩ hs hrow
 dsimp only[WA,WB,WC,pJ,enumH,pD,pG,pL,Nat.reduceAdd] at hs hrow⊢
 have hz:=hs
 obtain⟨z0,hC0⟩:=Option.isSome_iff_exists.1 hz
 try rw[pW hC0]
 clear hz hs
 unfold HY at hC0
 refine oS KY ?_
 refine p4 ?_
 obtain⟨aA,hv1,hw1,hC0⟩:=p8 hC0
 try simp only[go_sem] at hw1
 refine oS KY ?_ (hp:=by exact(p7 hv1)) (h:=by simp only[go_sem,hw1];rfl)
 refine oX hC0 (fun hC0 hc1=> ?_) (fun hC0 hc1=> ?_)
 ·refine oS KY ?_
  refine oV (pC ?_)
  cases hC0
  exact⟨[],by rfl,by rfl,by rfl⟩
 ·refine p6 (oW ?_)
  obtain⟨hg2,hC0⟩:=oU hC0
  refine oS KY ?_ (hp:=by exact hg2)
  refine oV ?_
  cases hC0
  exact⟨[],by rfl,by rfl,by rfl⟩
attribute [irreducible] HY
def HZ (O:(List UInt8)):Nat→Option (Nat⊕(Unit⊕Bool)):=fun Z=>
 if (decide (Z<List.length O))=true then
  if (decide (Z<List.length O))=true then
   if (decide (Z<List.length O))=true then
    if ((decide ((97:Int)≤(s4 O Z)))&&(decide ((s4 O Z)≤(122:Int))))=true then
     some (.inl (wM O Z))
    else
     if ((decide ((0:Int)<((Z:Nat):Int)))&&(((((decide ((48:Int)≤(s4 O Z)))&&(decide ((s4 O Z)≤(57:Int))))||(decide ((s4 O Z)=(45:Int))))||(decide ((s4 O Z)=(95:Int))))||(decide ((s4 O Z)=(46:Int)))))=true then
      some (.inl (wM O Z))
     else
      some (.inr (.inr (false)))
   else none
  else none
 else
  some (.inr (.inl ()))
def BL (O:(List UInt8)):Option Bool:=
 qT (pR (HZ O) 0) fun _=>
 some (((decide ((1:Int)≤(List.length O:Int)))&&(decide ((List.length O:Int)≤(40:Int)))))
section
variable (O:(List UInt8))
@[reducible] def WM:List Slot:=[(.val .str O,none)]
@[reducible] def WN:List Blk:=[]
@[go_sem] def WO:Ret:=⟨[((BL O)).isSome=true],[(.val .bool (val (BL O)),none)],[]⟩
def a8y:List Slot→List Blk→Option Ret:=pM (V:=(List UInt8)) (fun x=>WM x) (fun x=>WN) fun x=>WO x
@[go_sem] theorem aLb:a8y (no_index (WM O)) (no_index WN)=some (WO O):=pN (fun a0 b0 h1 h2=>by cases h1;cases h2;rfl) O
end
@[reducible,go_sem] def L1:Nat×Sig:=(128,⟨[.v],a8y,[],[],none⟩)
theorem BM:Env Tryz.prog [q7] (pE []):=⟨⟨q9,trivial⟩,pP,pH⟩
theorem a8z:pI Tryz.prog L1:=by
 refine pO BM Tryz.func128 (c:=_) rfl (N:=51) (by kernel_rfl) (ts:=[(2,none)]) rfl (fun _ _=>rfl) ?_
 intro O hs hrow
 dsimp only[WM,WN,WO,pJ,enumH,pD,pG,pL,Nat.reduceAdd] at hs hrow⊢
 have hz:=hs
 obtain⟨z0,hC0⟩:=Option.isSome_iff_exists.1 hz
 try rw[pW hC0]
 clear hz hs
 unfold BL at hC0
 refine oS BM ?_
 refine p4 ?_
 refine oS BM ?_
 refine pT ?_
 obtain⟨y1,hy1,hC0⟩:=sX hC0
 refine rH 0 (fun s=> ∃v,y1= .inl v∧s=(fun _=>⟨[(0,(.val .str O,none))],[],0,51,0⟩) v) ?_ ?_
 ·refine rG hy1 (fun x=>⟨[(0,(.val .str O,none)),(7,(.val .ref (some (0,0)),none))],[(0,.iter O x)],1,51,0⟩) ⟨[0,7],[(0,32)]⟩ (by rfl) ?_
  intro Z w1 n1 hC1 hN1
  unfold HZ at hC1
  dsimp only at hC1⊢
  refine oS BM ?_
  refine p4 ?_
  refine oX hC1 (fun hC1 hc1=> ?_) (fun hC1 hc1=> ?_)
  ·refine p6 (oW (pT ?_))
   obtain⟨hg1,hC1⟩:=oU hC1
   obtain⟨hg2,hC1⟩:=oU hC1
   refine oS BM ?_ (hp:=by exact And.intro hg1 (hg2))
   refine oS BM ?_ (hp:=by exact And.intro (fun hh=>hh) ((fun hh=>pZ hh)))
   refine pT ?_
   refine oS BM ?_
   refine oX hC1 (fun hC1 hc2=> ?_) (fun hC1 hc2=> ?_)
   ·refine p6 (pB (pB ?_))
    cases hC1
    exact qG ⟨⟨[0,7],[(0,0)]⟩,_,by rfl,hN1⟩
   ·refine oS BM ?_ (hp:=by exact And.intro (fun hh=>hh) (And.intro (fun hh=>hh) (And.intro (fun hh=>hh) (And.intro (fun hh=>hh) (And.intro (fun hG hh=>CI hG hh) (And.intro (fun hh=>hh) (And.intro (fun hh=>hh) (And.intro (fun hh=>hh) (And.intro (fun hG hh=>y9 hG hh) (And.intro (fun hh=>hh) (And.intro (fun hh=>hh) (And.intro (fun hh=>hh) (And.intro (fun hG hh=>y9 hG hh) (And.intro (fun hh=>hh) (And.intro (fun hh=>hh) (And.intro (fun hh=>hh) (And.intro (fun hG hh=>y9 hG hh) ((fun hh=>pZ hh)))))))))))))))))))
    refine oX hC1 (fun hC1 hc3=> ?_) (fun hC1 hc3=> ?_)
    ·refine p6 (pB (pB ?_))
     cases hC1
     exact qG ⟨⟨[0,7],[(0,0)]⟩,_,by rfl,hN1⟩
    ·refine oS BM ?_
     refine oV (pS (pS (sK (sJ (pS (pC ?_))))))
     cases hC1
     cases hN1
     dsimp only at hC0
     cases hC0
     exact⟨[],by rfl,by rfl,by rfl⟩
  ·refine qW (r7 (qZ ?_))
   cases hC1
   cases hN1
   exact qY ⟨⟨[0],[]⟩,_,rfl,by rfl⟩
 ·rintro _ ⟨v,rfl,rfl⟩
  dsimp only at hC0⊢
  refine rE (oW ?_)
  refine oS BM ?_ (hp:=by exact And.intro (fun hh=>hh) (And.intro (fun hh=>hh) ((fun hh=>pZ hh))))
  refine oV ?_
  cases hC0
  exact⟨[],by rfl,by rfl,by rfl⟩
attribute [irreducible] BL
def L2 (O:(List (List UInt8))) (Z:(List UInt8)):Int→Option (Int⊕(Unit⊕Int)):=fun aA=>
 if (decide (aA<(List.length O:Int)))=true then
  if 0≤aA∧aA<(List.length O:Int) then
   if (decide (Z=(pY .str O aA)))=true then
    some (.inr (.inr (aA)))
   else
    if oT (aA+(1:Int)) then
     some (.inl (aA+(1:Int)))
    else none
  else none
 else
  some (.inr (.inl ()))
def yX (O:(List (List UInt8))) (Z:(List UInt8)):Option Int:=
 qT (pR (L2 O Z) (0:Int)) fun _=>
 some ((-1:Int))
section
variable (O:(List (List UInt8))) (Z:(List UInt8))
@[reducible] def WP:List Slot:=[(.val (.list .str) O,none),(.val .str Z,none)]
@[reducible] def WQ:List Blk:=[]
@[go_sem] def WR:Ret:=⟨[((yX O Z)).isSome=true],[(.val (.int .i64) (val (yX O Z)),none)],[]⟩
def a8A:List Slot→List Blk→Option Ret:=pM (V:=((List (List UInt8))×(List UInt8))) (fun x=>WP x.1 x.2) (fun x=>WQ) fun x=>WR x.1 x.2
@[go_sem] theorem aLc:a8A (no_index (WP O Z)) (no_index WQ)=some (WR O Z):=pN (fun⟨a0,a1⟩ ⟨b0,b1⟩ h1 h2=>by cases h1;cases h2;rfl) (O,Z)
end
@[reducible,go_sem] def OX:Nat×Sig:=(135,⟨[.v,.v],a8A,[],[],none⟩)
theorem CR:Env Tryz.prog [q7,uK] (pE []):=⟨⟨q9,⟨vG,trivial⟩⟩,pP,pH⟩
theorem a8B:pI Tryz.prog OX:=by
 refine pO CR Tryz.func135 (c:=_) rfl (N:=19) (by kernel_rfl) (ts:=[(4,none)]) rfl (fun _ _=>rfl) ?_
 intro⟨O,Z⟩ hs hrow
 dsimp only[WP,WQ,WR,pJ,enumH,pD,pG,pL,Nat.reduceAdd] at hs hrow⊢
 have hz:=hs
 obtain⟨z0,hC0⟩:=Option.isSome_iff_exists.1 hz
 try rw[pW hC0]
 clear hz hs
 unfold yX at hC0
 refine oS CR ?_
 refine p4 ?_
 refine oS CR ?_
 refine pT ?_
 obtain⟨y1,hy1,hC0⟩:=sX hC0
 refine rH 0 (fun s=> ∃v,y1= .inl v∧s=(fun _=>⟨[],[],0,19,0⟩) v) ?_ ?_
 ·refine rG hy1 (fun x=>⟨[(0,(.val (.list .str) O,none)),(1,(.val .str Z,none)),(7,(.val (.int .i64) (List.length O:Int),none)),(8,(.val (.int .i64) x,none))],[],0,19,0⟩) ⟨[0,1,7,8],[]⟩ (by rfl) ?_
  intro aA w1 n1 hC1 hN1
  unfold L2 at hC1
  dsimp only at hC1⊢
  refine oS CR ?_
  refine p4 ?_
  refine oX hC1 (fun hC1 hc1=> ?_) (fun hC1 hc1=> ?_)
  ·refine p6 (oW (p4 (pT ?_)))
   refine oS CR ?_
   obtain⟨hg1,hC1⟩:=oU hC1
   refine oS CR ?_ (hp:=by exact hg1)
   refine oX hC1 (fun hC1 hc2=> ?_) (fun hC1 hc2=> ?_)
   ·refine oS CR ?_
    refine oV (pS (pC (sK (sJ (pS (pC ?_))))))
    cases hC1
    cases hN1
    dsimp only at hC0
    cases hC0
    exact⟨[],by rfl,by rfl,by rfl⟩
   ·refine p6 (pB (oW ?_))
    obtain⟨hg2,hC1⟩:=oU hC1
    refine pF CR ?_ (hp:=by exact hg2)
    cases hC1
    exact qG ⟨⟨[0,1,7,8],[]⟩,_,by rfl,hN1⟩
  ·refine qW (r7 (qZ ?_))
   cases hC1
   cases hN1
   exact qY ⟨⟨[],[]⟩,_,rfl,by rfl⟩
 ·rintro _ ⟨v,rfl,rfl⟩
  dsimp only at hC0⊢
  refine rE (oW ?_)
  refine oS CR ?_
  refine oV ?_
  cases hC0
  exact⟨[],by rfl,by rfl,by rfl⟩
attribute [irreducible] yX
def L3 (O:Int):Option Unit:=
 if 0≤O∧O<(List.length ([([110,101,119]:List UInt8),([102,117,122,122,121]:List UInt8),([116,114,97,110,115,108,97,116,101,100]:List UInt8),([114,101,118,105,101,119,101,100]:List UInt8),([111,98,115,111,108,101,116,101]:List UInt8)]:List (List UInt8)):Int) then
  some (())
 else none
section
variable (O:Int)
@[reducible] def WS:List Slot:=[(.val (.int .i64) O,none)]
@[reducible] def WT:List Blk:=[]
@[go_sem] def WU:Ret:=⟨[((L3 O)).isSome=true],[(.val .str (pY .str ([([110,101,119]:List UInt8),([102,117,122,122,121]:List UInt8),([116,114,97,110,115,108,97,116,101,100]:List UInt8),([114,101,118,105,101,119,101,100]:List UInt8),([111,98,115,111,108,101,116,101]:List UInt8)]:List (List UInt8)) O),none)],[]⟩
def a8C:List Slot→List Blk→Option Ret:=pM (V:=Int) (fun x=>WS x) (fun x=>WT) fun x=>WU x
@[go_sem] theorem aLd:a8C (no_index (WS O)) (no_index WT)=some (WU O):=pN (fun a0 b0 h1 h2=>by cases h1;cases h2;rfl) O
end
@[reducible,go_sem] def a8D:Nat×Sig:=(140,⟨[.v],a8C,[],[],none⟩)
theorem OY:Env Tryz.prog [q7,uK] (pE []):=⟨⟨q9,⟨vG,trivial⟩⟩,pP,pH⟩
theorem aF7:pI Tryz.prog a8D:=by
 refine pO OY Tryz.func140 (c:=_) rfl (N:=9) (by kernel_rfl) (ts:=[(2,none)]) rfl (fun _ _=>rfl) ?_
 intro O hs hrow
 dsimp only[WS,WT,WU,pJ,enumH,pD,pG,pL,Nat.reduceAdd] at hs hrow⊢
 have hz:=hs
 obtain⟨z0,hC0⟩:=Option.isSome_iff_exists.1 hz
 try rw[pW hC0]
 clear hz hs
 unfold L3 at hC0
 refine oS OY ?_
 refine oS OY ?_
 obtain⟨hg1,hC0⟩:=oU hC0
 refine oS OY ?_ (hp:=by exact hg1)
 refine oV ?_
 cases hC0
 exact⟨[],by rfl,by rfl,by rfl⟩
attribute [irreducible] L3
def KZ (O:(List UInt8)):Option Unit:=
 if List.length O≤9223372036854775807 then
  some (())
 else none
section
variable (O:(List UInt8))
@[reducible] def WI:List Slot:=[(.val .str O,none)]
@[reducible] def WJ:List Blk:=[]
@[go_sem] def WK:Ret:=⟨[((KZ O)).isSome=true],[(.val .bool (Lib.validD O),none)],[]⟩
def a8w:List Slot→List Blk→Option Ret:=pM (V:=(List UInt8)) (fun x=>WI x) (fun x=>WJ) fun x=>WK x
@[go_sem] theorem aLa:a8w (no_index (WI O)) (no_index WJ)=some (WK O):=pN (fun a0 b0 h1 h2=>by cases h1;cases h2;rfl) O
end
@[reducible,go_sem] def a8x:Nat×Sig:=(146,⟨[.v],a8w,[],[],none⟩)
theorem WL:Env Tryz.prog [] (pE [a7v]):=⟨trivial,p5 aFL pP,pH⟩
theorem aF6:pI Tryz.prog a8x:=by
 refine pO WL Tryz.func146 (c:=_) rfl (N:=5) (by kernel_rfl) (ts:=[(2,none)]) rfl (fun _ _=>rfl) ?_
 intro O hs hrow
 dsimp only[WI,WJ,WK,pJ,enumH,pD,pG,pL,Nat.reduceAdd] at hs hrow⊢
 have hz:=hs
 obtain⟨z0,hC0⟩:=Option.isSome_iff_exists.1 hz
 try rw[pW hC0]
 clear hz hs
 unfold KZ at hC0
 refine oS WL ?_
 obtain⟨hg1,hC0⟩:=oU hC0
 refine oS WL ?_ (hp:=by exact hg1)
 refine oV ?_
 cases hC0
 exact⟨[],by rfl,by rfl,by rfl⟩
attribute [irreducible] KZ
end
end Go.Proofs.YtfchbnahjcdiiaaGreatDoor
namespace Go.Proofs.YtfchbnahjcdiiaaGreatDoor
open Vc
set_option maxRecDepth 100000
set_option maxHeartbeats 4000000
set_option linter.unusedSimpArgs false
set_option linter.unusedVariables false
noncomputable section
def G6 (O:Int) (Z:Int):Bool:=
 if (decide (O=(1:Int)))=true then
  (decide (Z=(10:Int)))
 else
  q6 (σ:=Bool) (
    if (decide (O=(2:Int)))=true then
     (decide (O=(2:Int)))
    else
     (decide (O=(3:Int)))
   ) fun aA=>
  if aA=true then
   ((decide (Z=(10:Int)))||(decide (Z=(34:Int))))
  else
   ((decide (Z=(60:Int)))||(decide (Z=(34:Int))))
section
variable (O:Int) (Z:Int)
@[reducible] def WV:List Slot:=[(.val (.int .i64) O,none),(.val (.int .u8) Z,none)]
@[reducible] def WW:List Blk:=[]
@[go_sem] def WX:Ret:=⟨[],[(.val .bool (G6 O Z),none)],[]⟩
def a8E:List Slot→List Blk→Option Ret:=pM (V:=(Int×Int)) (fun x=>WV x.1 x.2) (fun x=>WW) fun x=>WX x.1 x.2
@[go_sem] theorem aLe:a8E (no_index (WV O Z)) (no_index WW)=some (WX O Z):=pN (fun⟨a0,a1⟩ ⟨b0,b1⟩ h1 h2=>by cases h1;cases h2;rfl) (O,Z)
end
@[reducible,go_sem] def a8F:Nat×Sig:=(144,⟨[.v,.v],a8E,[],[],none⟩)
theorem CS:Env Tryz.prog [] (pE []):=⟨trivial,pP,pH⟩
theorem aF8:pI Tryz.prog a8F:=by
 refine pO CS Tryz.func144 (c:=_) rfl (N:=25) (by kernel_rfl) (ts:=[(4,none)]) rfl (fun _ _=>rfl) ?_
 intro⟨O,Z⟩ hs hrow
 dsimp only[WV,WW,WX,pJ,enumH,pD,pG,pL,Nat.reduceAdd] at hs hrow⊢
 obtain⟨z0,hC0⟩: ∃z,(G6 O Z)=z:=⟨_,rfl⟩
 try rw[hC0]
 unfold G6 at hC0
 refine oS CS ?_
 refine p4 ?_
 refine oS CS ?_
 refine pT ?_
 refine oS CS ?_
 refine oX hC0 (fun hC0 hc1=> ?_) (fun hC0 hc1=> ?_)
 ·refine oS CS ?_
  refine oV (pS (pC ?_))
  cases hC0
  exact⟨[],by rfl,by rfl,by rfl⟩
 ·refine p4 ?_
  refine oS CS ?_
  obtain⟨aA,hC1,hC0⟩:=rI hC0
  refine y8 (fun s=>s=(fun x=>⟨[(1,(.val (.int .u8) Z,none)),(10,(.val .bool x,none))],[],0,25,0⟩) aA) ?_ ?_
  ·refine oX hC1 (fun hC1 hc2=> ?_) (fun hC1 hc2=> ?_)
   ·refine p6 ?_
    cases hC1
    exact rK ⟨⟨[1,10],[]⟩,by rfl⟩
   ·refine pF CS ?_
    cases hC1
    exact rK ⟨⟨[1,10],[]⟩,by rfl⟩
  ·rintro _ rfl
   dsimp only at hC0⊢
   refine oW ?_
   refine oX hC0 (fun hC0 hc3=> ?_) (fun hC0 hc3=> ?_)
   ·refine oS CS ?_ (hp:=by exact And.intro (fun hh=>hh) ((fun hh=>sF hh)))
    refine oV (pS (pC ?_))
    cases hC0
    exact⟨[],by rfl,by rfl,by rfl⟩
   ·refine p6 (pB (oW ?_))
    refine oS CS ?_ (hp:=by exact And.intro (fun hh=>hh) ((fun hh=>sF hh)))
    refine oV ?_
    cases hC0
    exact⟨[],by rfl,by rfl,by rfl⟩
def G7 (O:((List Int)×Unit)) (Z:Int):Option Unit:=
 if (List.length O.1+List.length ([Z]:List Int))*1≤140737488355328 then
  some (())
 else none
section
variable (O:Int) (Z:((List Int)×Unit)) (aA:Nat)
@[reducible] def WY:List Slot:=[(.val .ref (some (0,0)),none),(.val (.int .u8) O,none)]
@[reducible] def WZ:List Blk:=[.cells uU ((some (0,0)),Z) [(1,1)],.grow 5 1 aA]
@[go_sem] def X0:Ret:=⟨[aA=(List.length Z.1),((G7 Z O)).isSome=true],[(.any,none)],[.cells uU ((some (0,0)),((Z.1++([O]:List Int)),())) [(1,1)],.grow 5 1 (List.length (Z.1++([O]:List Int)))]⟩
def a8G:List Slot→List Blk→Option Ret:=pM (V:=(Int×((List Int)×Unit)×Nat)) (fun x=>WY x.1) (fun x=>WZ x.2.1 x.2.2) fun x=>X0 x.1 x.2.1 x.2.2
@[go_sem] theorem aLf:a8G (no_index (WY O)) (no_index (WZ Z aA))=some (X0 O Z aA):=pN (fun⟨a0,a1,a2⟩ ⟨b0,b1,b2⟩ h1 h2=>by cases h1;cases h2;rfl) (O,Z,aA)
end
@[reducible,go_sem] def a8H:Nat×Sig:=(145,⟨[.p uU [1],.v],a8G,[],[],none⟩)
theorem L4:Env Tryz.prog [AE,G0] (pE [OU]):=⟨⟨CK,⟨KO,trivial⟩⟩,p5 TV pP,pH⟩
theorem aF9:pI Tryz.prog a8H:=by
 refine pO L4 Tryz.func145 (c:=_) rfl (N:=17) (by kernel_rfl) (ts:=[(4,none)]) rfl (fun _ _=>rfl) ?_
 intro⟨O,Z,aA⟩ hs hrow
 dsimp only[WY,WZ,X0,pJ,enumH,pD,pG,pL,Nat.reduceAdd] at hs hrow⊢
 obtain⟨rfl,hz⟩:=hs
 obtain⟨z0,hC0⟩:=Option.isSome_iff_exists.1 hz
 try rw[pW hC0]
 clear hz
 unfold G7 at hC0
 refine oS L4 ?_
 refine oS L4 ?_ (hp:=by exact(by first|exact rfl|exact trivial))
 obtain⟨hg1,hC0⟩:=oU hC0
 refine oS L4 ?_ (hp:=by exact And.intro (by first|exact rfl|exact trivial) (hg1))
 refine oS L4 ?_
 refine oV ?_
 cases hC0
 exact⟨[(0,0),(1,1)],by rfl,by rfl,by rfl⟩
attribute [irreducible] G7
def a8I (O:Int):Unit:=
 ()
section
variable (O:Int)
@[reducible] def X1:List Slot:=[(.val (.int .u8) O,none)]
@[reducible] def X2:List Blk:=[]
@[go_sem] def X3:Ret:=⟨[],[(.val .bool (((decide ((97:Int)≤O))&&(decide (O≤(122:Int))))||((decide ((65:Int)≤O))&&(decide (O≤(90:Int))))),none)],[]⟩
def a8J:List Slot→List Blk→Option Ret:=pM (V:=Int) (fun x=>X1 x) (fun x=>X2) fun x=>X3 x
@[go_sem] theorem aLg:a8J (no_index (X1 O)) (no_index X2)=some (X3 O):=pN (fun a0 b0 h1 h2=>by cases h1;cases h2;rfl) O
end
@[reducible,go_sem] def a8K:Nat×Sig:=(153,⟨[.v],a8J,[],[],none⟩)
theorem X4:Env Tryz.prog [] (pE []):=⟨trivial,pP,pH⟩
theorem aGa:pI Tryz.prog a8K:=by
 refine pO X4 Tryz.func153 (c:=_) rfl (N:=17) (by kernel_rfl) (ts:=[(2,none)]) rfl (fun _ _=>rfl) ?_
 intro O hs hrow
 dsimp only[X1,X2,X3,pJ,enumH,pD,pG,pL,Nat.reduceAdd] at hs hrow⊢
 obtain⟨z0,hC0⟩: ∃z,(a8I O)=z:=⟨_,rfl⟩
 try rw[hC0]
 unfold a8I at hC0
 refine oS X4 ?_
 refine oS X4 ?_ (hp:=by exact And.intro (fun hh=>hh) (And.intro (fun hh=>pZ hh) (And.intro (fun hh=>hh) (And.intro (fun hh=>hh) (And.intro (fun hh=>hh) (And.intro (fun hh=>hh) (And.intro (fun hG hh=>CI hG hh) ((fun hh=>sF hh)))))))))
 refine oV ?_
 cases hC0
 exact⟨[],by rfl,by rfl,by rfl⟩
def a8L (O:p9) (Z:(List UInt8)):Unit:=
 ()
section
variable (O:p9) (Z:(List UInt8))
@[reducible] def X5:List Slot:=[(.val (.pair .str (.pair .str .unit)) O,none),(.val .ref (some (0,0)),none)]
@[reducible] def X6:List Blk:=[.cells .str Z []]
@[go_sem] def X7:Ret:=⟨[],[(.val .bool (!(Op.bytesLess O.1 Z||decide (O.1=Z))),none)],[.cells .str Z []]⟩
def a8M:List Slot→List Blk→Option Ret:=pM (V:=(p9×(List UInt8))) (fun x=>X5 x.1) (fun x=>X6 x.2) fun x=>X7 x.1 x.2
@[go_sem] theorem aLh:a8M (no_index (X5 O)) (no_index (X6 Z))=some (X7 O Z):=pN (fun⟨a0,a1⟩ ⟨b0,b1⟩ h1 h2=>by cases h1;cases h2;rfl) (O,Z)
end
@[reducible,go_sem] def a8N:Nat×Sig:=(173,⟨[.v,.p .str []],a8M,[],[0],none⟩)
theorem X8:Env Tryz.prog [q7,BI] (pE []):=⟨⟨q9,⟨E6,trivial⟩⟩,pP,pH⟩
theorem aGb:pI Tryz.prog a8N:=by
 refine pO X8 Tryz.func173 (c:=_) rfl (N:=8) (by kernel_rfl) (ts:=[(3,none)]) rfl (fun _ _=>rfl) ?_
 intro⟨O,Z⟩ hs hrow
 dsimp only[X5,X6,X7,pJ,enumH,pD,pG,pL,Nat.reduceAdd] at hs hrow⊢
 obtain⟨z0,hC0⟩: ∃z,(a8L O Z)=z:=⟨_,rfl⟩
 try rw[hC0]
 unfold a8L at hC0
 refine oS X8 ?_
 refine oS X8 ?_
 refine oV ?_
 cases hC0
 exact⟨[(0,0)],by rfl,by rfl,by rfl⟩
def a8O (O:Int):Unit:=
 ()
section
variable (O:Int)
@[reducible] def X9:List Slot:=[(.val (.int .i64) O,none)]
@[reducible] def XA:List Blk:=[]
@[go_sem] def XB:Ret:=⟨[],[(.val .bool ((decide ((1:Int)≤O))&&(decide (O≤(4:Int)))),none)],[]⟩
def a8P:List Slot→List Blk→Option Ret:=pM (V:=Int) (fun x=>X9 x) (fun x=>XA) fun x=>XB x
@[go_sem] theorem aLi:a8P (no_index (X9 O)) (no_index XA)=some (XB O):=pN (fun a0 b0 h1 h2=>by cases h1;cases h2;rfl) O
end
@[reducible,go_sem] def XC:Nat×Sig:=(175,⟨[.v],a8P,[],[],none⟩)
theorem XD:Env Tryz.prog [] (pE []):=⟨trivial,pP,pH⟩
theorem a8Q:pI Tryz.prog XC:=by
 refine pO XD Tryz.func175 (c:=_) rfl (N:=9) (by kernel_rfl) (ts:=[(2,none)]) rfl (fun _ _=>rfl) ?_
 intro O hs hrow
 dsimp only[X9,XA,XB,pJ,enumH,pD,pG,pL,Nat.reduceAdd] at hs hrow⊢
 obtain⟨z0,hC0⟩: ∃z,(a8O O)=z:=⟨_,rfl⟩
 try rw[hC0]
 unfold a8O at hC0
 refine oS XD ?_
 refine oS XD ?_ (hp:=by exact And.intro (fun hh=>hh) ((fun hh=>pZ hh)))
 refine oV ?_
 cases hC0
 exact⟨[],by rfl,by rfl,by rfl⟩
def L5 (O:Int) (Z:(List UInt8)):Int→Option (Int⊕(Unit⊕Bool)):=fun aA=>
 if (decide (aA<(List.length Z:Int)))=true then
  if 0≤aA∧aA<(List.length Z:Int) then
   if (decide ((pA Z aA)=O))=true then
    some (.inr (.inr (true)))
   else
    if oT (aA+(1:Int)) then
     some (.inl (aA+(1:Int)))
    else none
  else none
 else
  some (.inr (.inl ()))
def CT (O:Int) (Z:(List UInt8)):Option Bool:=
 qT (pR (L5 O Z) (0:Int)) fun _=>
 some (false)
section
variable (O:Int) (Z:(List UInt8))
@[reducible] def XI:List Slot:=[(.val (.int .u8) O,none),(.val .str Z,none)]
@[reducible] def XJ:List Blk:=[]
@[go_sem] def XK:Ret:=⟨[((CT O Z)).isSome=true],[(.val .bool (val (CT O Z)),none)],[]⟩
def a8U:List Slot→List Blk→Option Ret:=pM (V:=(Int×(List UInt8))) (fun x=>XI x.1 x.2) (fun x=>XJ) fun x=>XK x.1 x.2
@[go_sem] theorem aLk:a8U (no_index (XI O Z)) (no_index XJ)=some (XK O Z):=pN (fun⟨a0,a1⟩ ⟨b0,b1⟩ h1 h2=>by cases h1;cases h2;rfl) (O,Z)
end
@[reducible,go_sem] def XL:Nat×Sig:=(178,⟨[.v,.v],a8U,[],[],none⟩)
theorem EH:Env Tryz.prog [q7] (pE []):=⟨⟨q9,trivial⟩,pP,pH⟩
theorem a8V:pI Tryz.prog XL:=by
 refine pO EH Tryz.func178 (c:=_) rfl (N:=17) (by kernel_rfl) (ts:=[(4,none)]) rfl (fun _ _=>rfl) ?_
 intro⟨O,Z⟩ hs hrow
 dsimp only[XI,XJ,XK,pJ,enumH,pD,pG,pL,Nat.reduceAdd] at hs hrow⊢
 have hz:=hs
 obtain⟨z0,hC0⟩:=Option.isSome_iff_exists.1 hz
 try rw[pW hC0]
 clear hz hs
 unfold CT at hC0
 refine oS EH ?_
 refine p4 ?_
 refine oS EH ?_
 refine pT ?_
 obtain⟨y1,hy1,hC0⟩:=sX hC0
 refine rH 0 (fun s=> ∃v,y1= .inl v∧s=(fun _=>⟨[],[],0,17,0⟩) v) ?_ ?_
 ·refine rG hy1 (fun x=>⟨[(0,(.val (.int .u8) O,none)),(1,(.val .str Z,none)),(5,(.val (.int .i64) x,none))],[],0,17,0⟩) ⟨[0,1,5],[]⟩ (by rfl) ?_
  intro aA w1 n1 hC1 hN1
  unfold L5 at hC1
  dsimp only at hC1⊢
  refine p4 ?_
  refine oS EH ?_
  refine oX hC1 (fun hC1 hc1=> ?_) (fun hC1 hc1=> ?_)
  ·refine p6 (oW (p4 (pT ?_)))
   obtain⟨hg1,hC1⟩:=oU hC1
   refine oS EH ?_ (hp:=by exact hg1)
   refine oX hC1 (fun hC1 hc2=> ?_) (fun hC1 hc2=> ?_)
   ·refine oS EH ?_
    refine oV (pS (pC (sK (sJ (pS (pC ?_))))))
    cases hC1
    cases hN1
    dsimp only at hC0
    cases hC0
    exact⟨[],by rfl,by rfl,by rfl⟩
   ·refine p6 (pB (oW ?_))
    obtain⟨hg2,hC1⟩:=oU hC1
    refine pF EH ?_ (hp:=by exact hg2)
    cases hC1
    exact qG ⟨⟨[0,1,5],[]⟩,_,by rfl,hN1⟩
  ·refine qW (r7 (qZ ?_))
   cases hC1
   cases hN1
   exact qY ⟨⟨[],[]⟩,_,rfl,by rfl⟩
 ·rintro _ ⟨v,rfl,rfl⟩
  dsimp only at hC0⊢
  refine rE (oW ?_)
  refine oS EH ?_
  refine oV ?_
  cases hC0
  exact⟨[],by rfl,by rfl,by rfl⟩
attribute [irreducible] CT
def I0 (O:(List UInt8)) (Z:Int):(Int×Int)→Option ((Int×Int)⊕(Int⊕(Int×Bool))):=fun(aA,aB)=>
 if (decide (aB<(List.length O:Int)))=true then
  if 0≤aB∧aB<(List.length O:Int) then
   if 0≤aB∧aB<(List.length O:Int) then
    if (((decide ((65:Int)≤(pA O aB)))==true)=true→0≤aB∧aB<(List.length O:Int)) then
     qD (σ:=Int) (
       if ((decide ((65:Int)≤(pA O aB)))&&(decide ((pA O aB)≤(70:Int))))=true then
        if 0≤aB∧aB<(List.length O:Int) then
         if oT ((IntKind.wrap .i64 (IntKind.wrap .u8 ((pA O aB)- (65:Int))))+(10:Int)) then
          some (((IntKind.wrap .i64 (IntKind.wrap .u8 ((pA O aB)- (65:Int))))+(10:Int)))
         else none
        else none
       else
        some ((rV ([48,49,50,51,52,53,54,55,56,57,97,98,99,100,101,102]:List UInt8) (pA O aB)))
      ) fun aC=>
     if ((decide (aC<(0:Int)))||(decide (Z≤aC)))=true then
      some (.inr (.inr (((0:Int),false))))
     else
      if oT (aA*Z) then
       if oT ((aA*Z)+aC) then
        if oT (aB+(1:Int)) then
         some (.inl (((aA*Z)+aC),(aB+(1:Int))))
        else none
       else none
      else none
    else none
   else none
  else none
 else
  some (.inr (.inl aA))
def BN (O:(List UInt8)) (Z:Int):Option (Int×Bool):=
 qT (pR (I0 O Z) ((0:Int),(0:Int))) fun aA=>
 some ((aA,(!decide (O=([]:List UInt8)))))
section
variable (O:(List UInt8)) (Z:Int)
@[reducible] def XM:List Slot:=[(.val .str O,none),(.val (.int .i64) Z,none)]
@[reducible] def XN:List Blk:=[]
@[go_sem] def XO:Ret:=⟨[((BN O Z)).isSome=true],[(.val (.int .i64) ((val (BN O Z)).1),none),(.val .bool ((val (BN O Z)).2),none)],[]⟩
def a8W:List Slot→List Blk→Option Ret:=pM (V:=((List UInt8)×Int)) (fun x=>XM x.1 x.2) (fun x=>XN) fun x=>XO x.1 x.2
@[go_sem] theorem aLl:a8W (no_index (XM O Z)) (no_index XN)=some (XO O Z):=pN (fun⟨a0,a1⟩ ⟨b0,b1⟩ h1 h2=>by cases h1;cases h2;rfl) (O,Z)
end
@[reducible,go_sem] def XP:Nat×Sig:=(183,⟨[.v,.v],a8W,[],[],none⟩)
theorem yC:Env Tryz.prog [s5,zP,q7] (pE [KS]):=⟨⟨sG,⟨BG,⟨q9,trivial⟩⟩⟩,p5 OT pP,pH⟩
theorem a8X:pI Tryz.prog XP:=by
 refine pO yC Tryz.func183 (c:=_) rfl (N:=50) (by kernel_rfl) (ts:=[(4,none),(5,none)]) rfl (fun _ _=>rfl) ?_
 intro⟨O,Z⟩ hs hrow
 dsimp only[XM,XN,XO,pJ,enumH,pD,pG,pL,Nat.reduceAdd] at hs hrow⊢
 have hz:=hs
 obtain⟨z0,hC0⟩:=Option.isSome_iff_exists.1 hz
 try rw[pW hC0]
 clear hz hs
 unfold BN at hC0
 refine oS yC ?_
 refine oS yC ?_
 refine p4 ?_
 refine oS yC ?_
 refine pT ?_
 obtain⟨y1,hy1,hC0⟩:=sX hC0
 refine rH 0 (fun s=> ∃v,y1= .inl v∧s=(fun x=>⟨[(0,(.val .str O,none)),(6,(.val (.int .i64) x,none))],[],0,50,0⟩) v) ?_ ?_
 ·refine rG hy1 (fun x=>⟨[(0,(.val .str O,none)),(1,(.val (.int .i64) Z,none)),(6,(.val (.int .i64) x.1,none)),(10,(.val (.int .i64) (List.length O:Int),none)),(11,(.val (.int .i64) x.2,none))],[],0,50,0⟩) ⟨[0,1,6,10,11],[]⟩ (by rfl) ?_
  intro x1 w1 n1 hC1 hN1
  obtain⟨aA,aB⟩:=x1
  unfold I0 at hC1
  dsimp only at hC1⊢
  refine oS yC ?_
  refine p4 ?_
  refine oX hC1 (fun hC1 hc1=> ?_) (fun hC1 hc1=> ?_)
  ·refine p6 (oW (p4 (pT ?_)))
   refine oS yC ?_
   obtain⟨hg1,hC1⟩:=oU hC1
   refine oS yC ?_ (hp:=by exact hg1)
   refine p4 ?_
   obtain⟨hg2,hC1⟩:=oU hC1
   obtain⟨hg3,hC1⟩:=oU hC1
   refine oS yC ?_ (hp:=by exact And.intro hg2 (And.intro (fun hh=>hh) (And.intro (fun hh=>hh) (And.intro hg3 (And.intro (fun hh=>hh) ((fun hh=>pZ hh)))))))
   obtain⟨aC,hC2,hC1⟩:=oY hC1
   refine y8 (fun s=>s=(fun x=>⟨[(0,(.val .str O,none)),(1,(.val (.int .i64) Z,none)),(6,(.val (.int .i64) aA,none)),(8,(.val (.int .i64) x,none)),(10,(.val (.int .i64) (List.length O:Int),none)),(11,(.val (.int .i64) aB,none))],[],0,50,0⟩) aC) ?_ ?_
   ·refine oX hC2 (fun hC2 hc2=> ?_) (fun hC2 hc2=> ?_)
    ·obtain⟨hg4,hC2⟩:=oU hC2
     obtain⟨hg5,hC2⟩:=oU hC2
     refine pF yC ?_ (hp:=by exact And.intro hg4 (hg5))
     cases hC2
     exact rK ⟨⟨[0,1,6,8,10,11],[]⟩,by rfl⟩
    ·refine p6 ?_
     cases hC2
     exact rK ⟨⟨[0,1,6,8,10,11],[]⟩,by rfl⟩
   ·rintro _ rfl
    dsimp only at hC1⊢
    refine oW (p4 ?_)
    refine oS yC ?_ (hp:=by exact And.intro (fun hh=>hh) (And.intro (fun hh=>hh) ((fun hh=>sF hh))))
    refine oX hC1 (fun hC1 hc3=> ?_) (fun hC1 hc3=> ?_)
    ·refine oS yC ?_
     refine oV (pC (pS (pC (sK (sJ (pS (pC ?_)))))))
     cases hC1
     cases hN1
     dsimp only at hC0
     cases hC0
     exact⟨[],by rfl,by rfl,by rfl⟩
    ·refine p6 (oW ?_)
     obtain⟨hg6,hC1⟩:=oU hC1
     obtain⟨hg7,hC1⟩:=oU hC1
     refine pF yC ?_ (hp:=by exact And.intro hg6 (hg7))
     refine pB (oW ?_)
     obtain⟨hg8,hC1⟩:=oU hC1
     refine pF yC ?_ (hp:=by exact hg8)
     cases hC1
     exact qG ⟨⟨[0,1,6,10,11],[]⟩,_,by rfl,hN1⟩
  ·refine qW (r7 (qZ ?_))
   cases hC1
   cases hN1
   exact qY ⟨⟨[0,6],[]⟩,_,rfl,by rfl⟩
 ·rintro _ ⟨aD,rfl,rfl⟩
  dsimp only at hC0⊢
  refine rE (oW ?_)
  refine oS yC ?_
  refine oV ?_
  cases hC0
  exact⟨[],by rfl,by rfl,by rfl⟩
attribute [irreducible] BN
def a8R:Unit:=
 ()
section
@[reducible] def XE:List Slot:=[]
@[reducible] def XF:List Blk:=[]
@[go_sem] def XG:Ret:=⟨[],[(.val (.list .str) ([([110,101,119]:List UInt8),([102,117,122,122,121]:List UInt8),([116,114,97,110,115,108,97,116,101,100]:List UInt8),([114,101,118,105,101,119,101,100]:List UInt8),([111,98,115,111,108,101,116,101]:List UInt8)]:List (List UInt8)),some 0)],[.grow 9 1 (List.length ([([110,101,119]:List UInt8),([102,117,122,122,121]:List UInt8),([116,114,97,110,115,108,97,116,101,100]:List UInt8),([114,101,118,105,101,119,101,100]:List UInt8),([111,98,115,111,108,101,116,101]:List UInt8)]:List (List UInt8)))]⟩
def a8S:List Slot→List Blk→Option Ret:=pM (V:=Unit) (fun x=>XE) (fun x=>XF) fun x=>XG
@[go_sem] theorem aLj:a8S (no_index XE) (no_index XF)=some XG:=pN (fun _ _ h1 h2=>by cases h1;cases h2;rfl) ()
end
@[reducible,go_sem] def OZ:Nat×Sig:=(191,⟨[],a8S,[],[],none⟩)
theorem XH:Env Tryz.prog [uK] (pE []):=⟨⟨vG,trivial⟩,pP,pH⟩
theorem a8T:pI Tryz.prog OZ:=by
 refine pO XH Tryz.func191 (c:=_) rfl (N:=2) (by kernel_rfl) (ts:=[(0,none)]) rfl (fun _ _=>rfl) ?_
 intro⟨⟩ hs hrow
 dsimp only[XE,XF,XG,pJ,enumH,pD,pG,pL,Nat.reduceAdd] at hs hrow⊢
 obtain⟨z0,hC0⟩: ∃z,a8R=z:=⟨_,rfl⟩
 try rw[hC0]
 unfold a8R at hC0
 refine oS XH ?_
 refine oS XH ?_
 refine oV ?_
 cases hC0
 exact⟨[(0,16)],by rfl,by rfl,by rfl⟩
def a80 (O:p9) (Z:(List UInt8)):Unit:=
 ()
section
variable (O:p9) (Z:(List UInt8))
@[reducible] def XT:List Slot:=[(.val (.pair .str (.pair .str .unit)) O,none),(.val .ref (some (0,0)),none)]
@[reducible] def XU:List Blk:=[.cells .str Z []]
@[go_sem] def XV:Ret:=⟨[],[(.val .bool (decide (O.1=Z)),none)],[.cells .str Z []]⟩
def a81:List Slot→List Blk→Option Ret:=pM (V:=(p9×(List UInt8))) (fun x=>XT x.1) (fun x=>XU x.2) fun x=>XV x.1 x.2
@[go_sem] theorem aLn:a81 (no_index (XT O)) (no_index (XU Z))=some (XV O Z):=pN (fun⟨a0,a1⟩ ⟨b0,b1⟩ h1 h2=>by cases h1;cases h2;rfl) (O,Z)
end
@[reducible,go_sem] def a82:Nat×Sig:=(201,⟨[.v,.p .str []],a81,[],[0],none⟩)
theorem XW:Env Tryz.prog [q7,BI] (pE []):=⟨⟨q9,⟨E6,trivial⟩⟩,pP,pH⟩
theorem aGd:pI Tryz.prog a82:=by
 refine pO XW Tryz.func201 (c:=_) rfl (N:=8) (by kernel_rfl) (ts:=[(3,none)]) rfl (fun _ _=>rfl) ?_
 intro⟨O,Z⟩ hs hrow
 dsimp only[XT,XU,XV,pJ,enumH,pD,pG,pL,Nat.reduceAdd] at hs hrow⊢
 obtain⟨z0,hC0⟩: ∃z,(a80 O Z)=z:=⟨_,rfl⟩
 try rw[hC0]
 unfold a80 at hC0
 refine oS XW ?_
 refine oS XW ?_
 refine oV ?_
 cases hC0
 exact⟨[(0,0)],by rfl,by rfl,by rfl⟩
end
end Go.Proofs.YtfchbnahjcdiiaaGreatDoor
namespace Go.Proofs.YtfchbnahjcdiiaaGreatDoor
open Vc
set_option maxRecDepth 100000
set_option maxHeartbeats 4000000
set_option linter.unusedSimpArgs false
set_option linter.unusedVariables false
noncomputable section
def L6 (O:(List (List UInt8))) (Z:(List UInt8)):Int→Option (Int⊕(Unit⊕Bool)):=fun aA=>
 if (decide (aA<(List.length O:Int)))=true then
  if 0≤aA∧aA<(List.length O:Int) then
   if (decide ((pY .str O aA)=Z))=true then
    some (.inr (.inr (true)))
   else
    if oT (aA+(1:Int)) then
     some (.inl (aA+(1:Int)))
    else none
  else none
 else
  some (.inr (.inl ()))
def G8 (O:(List (List UInt8))) (Z:(List UInt8)):Option Bool:=
 qT (pR (L6 O Z) (0:Int)) fun _=>
 some (false)
section
variable (O:(List (List UInt8))) (Z:(List UInt8))
@[reducible] def XQ:List Slot:=[(.val (.list .str) O,none),(.val .str Z,none)]
@[reducible] def XR:List Blk:=[]
@[go_sem] def XS:Ret:=⟨[((G8 O Z)).isSome=true],[(.val .bool (val (G8 O Z)),none)],[]⟩
def a8Y:List Slot→List Blk→Option Ret:=pM (V:=((List (List UInt8))×(List UInt8))) (fun x=>XQ x.1 x.2) (fun x=>XR) fun x=>XS x.1 x.2
@[go_sem] theorem aLm:a8Y (no_index (XQ O Z)) (no_index XR)=some (XS O Z):=pN (fun⟨a0,a1⟩ ⟨b0,b1⟩ h1 h2=>by cases h1;cases h2;rfl) (O,Z)
end
@[reducible,go_sem] def a8Z:Nat×Sig:=(193,⟨[.v,.v],a8Y,[],[],none⟩)
theorem EI:Env Tryz.prog [q7,uK] (pE []):=⟨⟨q9,⟨vG,trivial⟩⟩,pP,pH⟩
theorem aGc:pI Tryz.prog a8Z:=by
 refine pO EI Tryz.func193 (c:=_) rfl (N:=18) (by kernel_rfl) (ts:=[(4,none)]) rfl (fun _ _=>rfl) ?_
 intro⟨O,Z⟩ hs hrow
 dsimp only[XQ,XR,XS,pJ,enumH,pD,pG,pL,Nat.reduceAdd] at hs hrow⊢
 have hz:=hs
 obtain⟨z0,hC0⟩:=Option.isSome_iff_exists.1 hz
 try rw[pW hC0]
 clear hz hs
 unfold G8 at hC0
 refine oS EI ?_
 refine p4 ?_
 refine oS EI ?_
 refine pT ?_
 obtain⟨y1,hy1,hC0⟩:=sX hC0
 refine rH 0 (fun s=> ∃v,y1= .inl v∧s=(fun _=>⟨[],[],0,18,0⟩) v) ?_ ?_
 ·refine rG hy1 (fun x=>⟨[(0,(.val (.list .str) O,none)),(1,(.val .str Z,none)),(5,(.val (.int .i64) x,none))],[],0,18,0⟩) ⟨[0,1,5],[]⟩ (by rfl) ?_
  intro aA w1 n1 hC1 hN1
  unfold L6 at hC1
  dsimp only at hC1⊢
  refine p4 ?_
  refine oS EI ?_
  refine oX hC1 (fun hC1 hc1=> ?_) (fun hC1 hc1=> ?_)
  ·refine p6 (oW (p4 (pT ?_)))
   obtain⟨hg1,hC1⟩:=oU hC1
   refine oS EI ?_ (hp:=by exact hg1)
   refine oX hC1 (fun hC1 hc2=> ?_) (fun hC1 hc2=> ?_)
   ·refine oS EI ?_
    refine oV (pS (pC (sK (sJ (pS (pC ?_))))))
    cases hC1
    cases hN1
    dsimp only at hC0
    cases hC0
    exact⟨[],by rfl,by rfl,by rfl⟩
   ·refine p6 (pB (oW ?_))
    obtain⟨hg2,hC1⟩:=oU hC1
    refine pF EI ?_ (hp:=by exact hg2)
    cases hC1
    exact qG ⟨⟨[0,1,5],[]⟩,_,by rfl,hN1⟩
  ·refine qW (r7 (qZ ?_))
   cases hC1
   cases hN1
   exact qY ⟨⟨[],[]⟩,_,rfl,by rfl⟩
 ·rintro _ ⟨v,rfl,rfl⟩
  dsimp only at hC0⊢
  refine rE (oW ?_)
  refine oS EI ?_
  refine oV ?_
  cases hC0
  exact⟨[],by rfl,by rfl,by rfl⟩
attribute [irreducible] G8
def a83 (O:Int):Unit:=
 ()
section
variable (O:Int)
@[reducible] def XX:List Slot:=[(.val (.int .i64) O,none)]
@[reducible] def XY:List Blk:=[]
@[go_sem] def XZ:Ret:=⟨[],[(.val .bool (((decide ((0:Int)≤O))&&(decide (O≤(1114111:Int))))&&((decide (O<(55296:Int)))||(decide ((57343:Int)<O)))),none)],[]⟩
def a84:List Slot→List Blk→Option Ret:=pM (V:=Int) (fun x=>XX x) (fun x=>XY) fun x=>XZ x
@[go_sem] theorem aLo:a84 (no_index (XX O)) (no_index XY)=some (XZ O):=pN (fun a0 b0 h1 h2=>by cases h1;cases h2;rfl) O
end
@[reducible,go_sem] def L7:Nat×Sig:=(205,⟨[.v],a84,[],[],none⟩)
theorem Y0:Env Tryz.prog [] (pE []):=⟨trivial,pP,pH⟩
theorem P0:pI Tryz.prog L7:=by
 refine pO Y0 Tryz.func205 (c:=_) rfl (N:=17) (by kernel_rfl) (ts:=[(2,none)]) rfl (fun _ _=>rfl) ?_
 intro O hs hrow
 dsimp only[XX,XY,XZ,pJ,enumH,pD,pG,pL,Nat.reduceAdd] at hs hrow⊢
 obtain⟨z0,hC0⟩: ∃z,(a83 O)=z:=⟨_,rfl⟩
 try rw[hC0]
 unfold a83 at hC0
 refine oS Y0 ?_
 refine oS Y0 ?_ (hp:=by exact And.intro (fun hh=>hh) (And.intro (fun hh=>pZ hh) (And.intro (fun hh=>hh) (And.intro (fun hh=>hh) (And.intro (fun hh=>hh) (And.intro (fun hh=>hh) (And.intro (fun hG hh=>y9 hG hh) ((fun hh=>pZ hh)))))))))
 refine oV ?_
 cases hC0
 exact⟨[],by rfl,by rfl,by rfl⟩
def yD (O:Int):Option (List UInt8):=
 if (decide (O<(128:Int)))=true then
  some ((rA ([(IntKind.wrap .u8 O)]:List Int)))
 else
  if (decide (O<(2048:Int)))=true then
   if oT ((192:Int)+(IntKind.wrap .i64 (Int.tdiv O (64:Int)))) then
    if oT ((128:Int)+(Int.tmod O (64:Int))) then
     some ((rA ([(IntKind.wrap .u8 ((192:Int)+(IntKind.wrap .i64 (Int.tdiv O (64:Int))))),(IntKind.wrap .u8 ((128:Int)+(Int.tmod O (64:Int))))]:List Int)))
    else none
   else none
  else
   if (decide (O<(65536:Int)))=true then
    if oT ((224:Int)+(IntKind.wrap .i64 (Int.tdiv O (4096:Int)))) then
     if oT ((128:Int)+(Int.tmod (IntKind.wrap .i64 (Int.tdiv O (64:Int))) (64:Int))) then
      if oT ((128:Int)+(Int.tmod O (64:Int))) then
       some ((rA ([(IntKind.wrap .u8 ((224:Int)+(IntKind.wrap .i64 (Int.tdiv O (4096:Int))))),(IntKind.wrap .u8 ((128:Int)+(Int.tmod (IntKind.wrap .i64 (Int.tdiv O (64:Int))) (64:Int)))),(IntKind.wrap .u8 ((128:Int)+(Int.tmod O (64:Int))))]:List Int)))
      else none
     else none
    else none
   else
    if oT ((240:Int)+(IntKind.wrap .i64 (Int.tdiv O (262144:Int)))) then
     if oT ((128:Int)+(Int.tmod (IntKind.wrap .i64 (Int.tdiv O (4096:Int))) (64:Int))) then
      if oT ((128:Int)+(Int.tmod (IntKind.wrap .i64 (Int.tdiv O (64:Int))) (64:Int))) then
       if oT ((128:Int)+(Int.tmod O (64:Int))) then
        some ((rA ([(IntKind.wrap .u8 ((240:Int)+(IntKind.wrap .i64 (Int.tdiv O (262144:Int))))),(IntKind.wrap .u8 ((128:Int)+(Int.tmod (IntKind.wrap .i64 (Int.tdiv O (4096:Int))) (64:Int)))),(IntKind.wrap .u8 ((128:Int)+(Int.tmod (IntKind.wrap .i64 (Int.tdiv O (64:Int))) (64:Int)))),(IntKind.wrap .u8 ((128:Int)+(Int.tmod O (64:Int))))]:List Int)))
       else none
      else none
     else none
    else none
section
variable (O:Int)
@[reducible] def Y1:List Slot:=[(.val (.int .i64) O,none)]
@[reducible] def Y2:List Blk:=[]
@[go_sem] def Y3:Ret:=⟨[((yD O)).isSome=true],[(.val .str (val (yD O)),none)],[]⟩
def a85:List Slot→List Blk→Option Ret:=pM (V:=Int) (fun x=>Y1 x) (fun x=>Y2) fun x=>Y3 x
@[go_sem] theorem aLp:a85 (no_index (Y1 O)) (no_index Y2)=some (Y3 O):=pN (fun a0 b0 h1 h2=>by cases h1;cases h2;rfl) O
end
@[reducible,go_sem] def L8:Nat×Sig:=(206,⟨[.v],a85,[],[],none⟩)
theorem CU:Env Tryz.prog [s5,zP,q7,AE] (pE []):=⟨⟨sG,⟨BG,⟨q9,⟨CK,trivial⟩⟩⟩⟩,pP,pH⟩
theorem P1:pI Tryz.prog L8:=by
 refine pO CU Tryz.func206 (c:=_) rfl (N:=61) (by kernel_rfl) (ts:=[(2,none)]) rfl (fun _ _=>rfl) ?_
 intro O hs hrow
 dsimp only[Y1,Y2,Y3,pJ,enumH,pD,pG,pL,Nat.reduceAdd] at hs hrow⊢
 have hz:=hs
 obtain⟨z0,hC0⟩:=Option.isSome_iff_exists.1 hz
 try rw[pW hC0]
 clear hz hs
 unfold yD at hC0
 refine oS CU ?_
 refine p4 (pT ?_)
 refine oS CU ?_
 refine oX hC0 (fun hC0 hc1=> ?_) (fun hC0 hc1=> ?_)
 ·refine oS CU ?_
  refine oV (pS (pC ?_))
  cases hC0
  exact⟨[],by rfl,by rfl,by rfl⟩
 ·refine oS CU ?_
  refine oX hC0 (fun hC0 hc2=> ?_) (fun hC0 hc2=> ?_)
  ·obtain⟨hg1,hC0⟩:=oU hC0
   obtain⟨hg2,hC0⟩:=oU hC0
   refine oS CU ?_ (hp:=by exact And.intro (show (64:Int)≠0 from by decide) (And.intro hg1 (And.intro (show (64:Int)≠0 from by decide) (hg2))))
   refine oV (pS (pC ?_))
   cases hC0
   exact⟨[],by rfl,by rfl,by rfl⟩
  ·refine oS CU ?_
   refine oX hC0 (fun hC0 hc3=> ?_) (fun hC0 hc3=> ?_)
   ·obtain⟨hg3,hC0⟩:=oU hC0
    obtain⟨hg4,hC0⟩:=oU hC0
    obtain⟨hg5,hC0⟩:=oU hC0
    refine oS CU ?_ (hp:=by exact And.intro (show (4096:Int)≠0 from by decide) (And.intro hg3 (And.intro (show (64:Int)≠0 from by decide) (And.intro (show (64:Int)≠0 from by decide) (And.intro hg4 (And.intro (show (64:Int)≠0 from by decide) (hg5)))))))
    refine oV (pS (pC ?_))
    cases hC0
    exact⟨[],by rfl,by rfl,by rfl⟩
   ·refine p6 (pB (oW ?_))
    obtain⟨hg6,hC0⟩:=oU hC0
    obtain⟨hg7,hC0⟩:=oU hC0
    obtain⟨hg8,hC0⟩:=oU hC0
    obtain⟨hg9,hC0⟩:=oU hC0
    refine oS CU ?_ (hp:=by exact And.intro (show (262144:Int)≠0 from by decide) (And.intro hg6 (And.intro (show (4096:Int)≠0 from by decide) (And.intro (show (64:Int)≠0 from by decide) (And.intro hg7 (And.intro (show (64:Int)≠0 from by decide) (And.intro (show (64:Int)≠0 from by decide) (And.intro hg8 (And.intro (show (64:Int)≠0 from by decide) (hg9))))))))))
    refine oV ?_
    cases hC0
    exact⟨[],by rfl,by rfl,by rfl⟩
attribute [irreducible] yD
def I1 (O:(List Int)):((List UInt8)×Int)→Option (((List UInt8)×Int)⊕(List UInt8)):=fun(Z,aA)=>
 if (decide (aA<(List.length O:Int)))=true then
  if 0≤aA∧aA<(List.length O:Int) then
   if (((decide ((0:Int)≤(pY (.int .i64) O aA)))&&(decide ((pY (.int .i64) O aA)≤(1114111:Int))))&&((decide ((pY (.int .i64) O aA)<(55296:Int)))||(decide ((57343:Int)<(pY (.int .i64) O aA)))))=true then
    if 0≤aA∧aA<(List.length O:Int) then
     (yD (pY (.int .i64) O aA)).bind fun aB=>
     if ((Z++aB).length:Int)≤9223372036854775807 then
      if oT (aA+(1:Int)) then
       some (.inl ((Z++aB),(aA+(1:Int))))
      else none
     else none
    else none
   else
    (yD (65533:Int)).bind fun aC=>
    if ((Z++aC).length:Int)≤9223372036854775807 then
     if oT (aA+(1:Int)) then
      some (.inl ((Z++aC),(aA+(1:Int))))
     else none
    else none
  else none
 else
  some (.inr Z)
def G9 (O:(List Int)):Option (List UInt8):=
 qD (pR (I1 O) (([]:List UInt8),(0:Int))) fun Z=>
 some (Z)
section
variable (O:(List Int))
@[reducible] def Y8:List Slot:=[(.val (.list (.int .i64)) O,none)]
@[reducible] def Y9:List Blk:=[]
@[go_sem] def YA:Ret:=⟨[((G9 O)).isSome=true],[(.val .str (val (G9 O)),none)],[]⟩
def a89:List Slot→List Blk→Option Ret:=pM (V:=(List Int)) (fun x=>Y8 x) (fun x=>Y9) fun x=>YA x
@[go_sem] theorem aLr:a89 (no_index (Y8 O)) (no_index Y9)=some (YA O):=pN (fun a0 b0 h1 h2=>by cases h1;cases h2;rfl) O
end
@[reducible,go_sem] def a9a:Nat×Sig:=(207,⟨[.v],a89,[],[],none⟩)
theorem AN:Env Tryz.prog [s5,AL] (pE [L7,L8]):=⟨⟨sG,⟨CP,trivial⟩⟩,p5 P0 (p5 P1 pP),pH⟩
theorem aGf:pI Tryz.prog a9a:=by
 refine pO AN Tryz.func207 (c:=_) rfl (N:=27) (by kernel_rfl) (ts:=[(2,none)]) rfl (fun _ _=>rfl) ?_
 intro O hs hrow
 dsimp only[Y8,Y9,YA,pJ,enumH,pD,pG,pL,Nat.reduceAdd] at hs hrow⊢
 have hz:=hs
 obtain⟨z0,hC0⟩:=Option.isSome_iff_exists.1 hz
 try rw[pW hC0]
 clear hz hs
 unfold G9 at hC0
 refine oS AN ?_
 refine oS AN ?_
 refine p4 ?_
 refine oS AN ?_
 refine pT ?_
 obtain⟨Z,hy1,hC0⟩:=oY hC0
 refine rH 0 (fun s=>s=(fun x=>⟨[(3,(.val .str x,none))],[],0,27,0⟩) Z) ?_ ?_
 ·refine rG hy1 (fun x=>⟨[(0,(.val (.list (.int .i64)) O,none)),(3,(.val .str x.1,none)),(4,(.val (.int .i64) x.2,none))],[],0,27,0⟩) ⟨[0,3,4],[]⟩ (by rfl) ?_
  intro x1 w1 n1 hC1 hN1
  obtain⟨aA,aB⟩:=x1
  unfold I1 at hC1
  dsimp only at hC1⊢
  refine p4 ?_
  refine oS AN ?_
  refine oX hC1 (fun hC1 hc1=> ?_) (fun hC1 hc1=> ?_)
  ·refine p6 (oW (p4 (pT ?_)))
   obtain⟨hg1,hC1⟩:=oU hC1
   refine oS AN ?_ (hp:=by exact hg1)
   refine oX hC1 (fun hC1 hc2=> ?_) (fun hC1 hc2=> ?_)
   ·obtain⟨hg2,hC1⟩:=oU hC1
    obtain⟨aC,hv3,hw3,hC1⟩:=p8 hC1
    try simp only[go_sem] at hw3
    obtain⟨hg4,hC1⟩:=oU hC1
    refine pF AN ?_ (hp:=by exact And.intro hg2 (And.intro (p7 hv3) (hg4))) (h:=by simp only[go_sem,hw3];rfl)
    refine pB (oW ?_)
    obtain⟨hg5,hC1⟩:=oU hC1
    refine pF AN ?_ (hp:=by exact hg5)
    cases hC1
    exact qG ⟨⟨[0,3,4],[]⟩,_,by rfl,hN1⟩
   ·obtain⟨aD,hv6,hw6,hC1⟩:=p8 hC1
    try simp only[go_sem] at hw6
    obtain⟨hg7,hC1⟩:=oU hC1
    refine pF AN ?_ (hp:=by exact And.intro (p7 hv6) (hg7)) (h:=by simp only[go_sem,hw6];rfl)
    refine pB (oW ?_)
    obtain⟨hg8,hC1⟩:=oU hC1
    refine pF AN ?_ (hp:=by exact hg8)
    cases hC1
    exact qG ⟨⟨[0,3,4],[]⟩,_,by rfl,hN1⟩
  ·refine qW (r7 (qZ ?_))
   cases hC1
   cases hN1
   exact qY ⟨⟨[3],[]⟩,by rfl⟩
 ·rintro _ rfl
  dsimp only at hC0⊢
  refine rE (oW ?_)
  refine oS AN ?_
  refine oV ?_
  cases hC0
  exact⟨[],by rfl,by rfl,by rfl⟩
attribute [irreducible] G9
def a86 (O:(List UInt8)):Unit:=
 ()
section
variable (O:(List UInt8))
@[reducible] def Y4:List Slot:=[(.val .str O,none)]
@[reducible] def Y5:List Blk:=[]
@[go_sem] def Y6:Ret:=⟨[],[(.val .bool true,none)],[]⟩
def a87:List Slot→List Blk→Option Ret:=pM (V:=(List UInt8)) (fun x=>Y4 x) (fun x=>Y5) fun x=>Y6
@[go_sem] theorem aLq:a87 (no_index (Y4 O)) (no_index Y5)=some Y6:=pN (fun a0 b0 h1 h2=>by cases h1;cases h2;rfl) O
end
@[reducible,go_sem] def a88:Nat×Sig:=(212,⟨[.v],a87,[],[],none⟩)
theorem Y7:Env Tryz.prog [] (pE []):=⟨trivial,pP,pH⟩
theorem aGe:pI Tryz.prog a88:=by
 refine pO Y7 Tryz.func212 (c:=_) rfl (N:=3) (by kernel_rfl) (ts:=[(2,none)]) rfl (fun _ _=>rfl) ?_
 intro O hs hrow
 dsimp only[Y4,Y5,Y6,pJ,enumH,pD,pG,pL,Nat.reduceAdd] at hs hrow⊢
 obtain⟨z0,hC0⟩: ∃z,(a86 O)=z:=⟨_,rfl⟩
 try rw[hC0]
 unfold a86 at hC0
 refine oS Y7 ?_
 refine oS Y7 ?_
 refine oV ?_
 cases hC0
 exact⟨[],by rfl,by rfl,by rfl⟩
def GA (O:Int) (Z:Int):Option Int:=
 qD (σ:=Int) (
   if ((decide ((48:Int)≤O))&&(decide (O≤(57:Int))))=true then
    some ((IntKind.wrap .i64 (IntKind.wrap .u8 (O- (48:Int)))))
   else
    if ((decide ((97:Int)≤O))&&(decide (O≤(102:Int))))=true then
     if oT ((IntKind.wrap .i64 (IntKind.wrap .u8 (O- (97:Int))))+(10:Int)) then
      some (((IntKind.wrap .i64 (IntKind.wrap .u8 (O- (97:Int))))+(10:Int)))
     else none
    else
     if ((decide ((65:Int)≤O))&&(decide (O≤(70:Int))))=true then
      if oT ((IntKind.wrap .i64 (IntKind.wrap .u8 (O- (65:Int))))+(10:Int)) then
       some (((IntKind.wrap .i64 (IntKind.wrap .u8 (O- (65:Int))))+(10:Int)))
      else none
     else
      some ((-1:Int))
  ) fun aA=>
 if (decide (Z≤aA))=true then
  some ((-1:Int))
 else
  some (aA)
section
variable (O:Int) (Z:Int)
@[reducible] def YB:List Slot:=[(.val (.int .u8) O,none),(.val (.int .i64) Z,none)]
@[reducible] def YC:List Blk:=[]
@[go_sem] def YD:Ret:=⟨[((GA O Z)).isSome=true],[(.val (.int .i64) (val (GA O Z)),none)],[]⟩
def a9b:List Slot→List Blk→Option Ret:=pM (V:=(Int×Int)) (fun x=>YB x.1 x.2) (fun x=>YC) fun x=>YD x.1 x.2
@[go_sem] theorem aLs:a9b (no_index (YB O Z)) (no_index YC)=some (YD O Z):=pN (fun⟨a0,a1⟩ ⟨b0,b1⟩ h1 h2=>by cases h1;cases h2;rfl) (O,Z)
end
@[reducible,go_sem] def a9c:Nat×Sig:=(215,⟨[.v,.v],a9b,[],[],none⟩)
theorem zQ:Env Tryz.prog [s5,zP] (pE []):=⟨⟨sG,⟨BG,trivial⟩⟩,pP,pH⟩
theorem aGg:pI Tryz.prog a9c:=by
 refine pO zQ Tryz.func215 (c:=_) rfl (N:=42) (by kernel_rfl) (ts:=[(4,none)]) rfl (fun _ _=>rfl) ?_
 intro⟨O,Z⟩ hs hrow
 dsimp only[YB,YC,YD,pJ,enumH,pD,pG,pL,Nat.reduceAdd] at hs hrow⊢
 have hz:=hs
 obtain⟨z0,hC0⟩:=Option.isSome_iff_exists.1 hz
 try rw[pW hC0]
 clear hz hs
 unfold GA at hC0
 refine oS zQ ?_
 refine oS zQ ?_
 refine p4 ?_
 obtain⟨aA,hC1,hC0⟩:=oY hC0
 refine y8 (fun s=>s=(fun x=>⟨[(1,(.val (.int .i64) Z,none)),(5,(.val (.int .i64) x,none))],[],0,42,0⟩) aA) ?_ ?_
 ·refine pT ?_
  refine oS zQ ?_ (hp:=by exact And.intro (fun hh=>hh) ((fun hh=>pZ hh)))
  refine oX hC1 (fun hC1 hc1=> ?_) (fun hC1 hc1=> ?_)
  ·refine pF zQ ?_
   refine pB ?_
   cases hC1
   exact rK ⟨⟨[1,5],[]⟩,by rfl⟩
  ·refine oS zQ ?_ (hp:=by exact And.intro (fun hh=>hh) ((fun hh=>pZ hh)))
   refine oX hC1 (fun hC1 hc2=> ?_) (fun hC1 hc2=> ?_)
   ·obtain⟨hg1,hC1⟩:=oU hC1
    refine pF zQ ?_ (hp:=by exact hg1)
    refine pB ?_
    cases hC1
    exact rK ⟨⟨[1,5],[]⟩,by rfl⟩
   ·refine oS zQ ?_ (hp:=by exact And.intro (fun hh=>hh) ((fun hh=>pZ hh)))
    refine oX hC1 (fun hC1 hc3=> ?_) (fun hC1 hc3=> ?_)
    ·obtain⟨hg2,hC1⟩:=oU hC1
     refine pF zQ ?_ (hp:=by exact hg2)
     refine pB ?_
     cases hC1
     exact rK ⟨⟨[1,5],[]⟩,by rfl⟩
    ·refine p6 (pB ?_)
     cases hC1
     exact rK ⟨⟨[1,5],[]⟩,by rfl⟩
 ·rintro _ rfl
  dsimp only at hC0⊢
  refine oW (p4 ?_)
  refine oS zQ ?_
  refine oX hC0 (fun hC0 hc4=> ?_) (fun hC0 hc4=> ?_)
  ·refine oS zQ ?_
   refine oV (pC ?_)
   cases hC0
   exact⟨[],by rfl,by rfl,by rfl⟩
  ·refine p6 (oW ?_)
   refine oS zQ ?_
   refine oV ?_
   cases hC0
   exact⟨[],by rfl,by rfl,by rfl⟩
attribute [irreducible] GA
def a9f (O:Int):Unit:=
 ()
section
variable (O:Int)
@[reducible] def YH:List Slot:=[(.val (.int .i64) O,none)]
@[reducible] def YI:List Blk:=[]
@[go_sem] def YJ:Ret:=⟨[],[(.val .bool (((decide ((0:Int)≤O))&&(decide (O≤(1114111:Int))))&&((decide (O<(55296:Int)))||(decide ((57343:Int)<O)))),none)],[]⟩
def a9g:List Slot→List Blk→Option Ret:=pM (V:=Int) (fun x=>YH x) (fun x=>YI) fun x=>YJ x
@[go_sem] theorem aLu:a9g (no_index (YH O)) (no_index YI)=some (YJ O):=pN (fun a0 b0 h1 h2=>by cases h1;cases h2;rfl) O
end
@[reducible,go_sem] def a9h:Nat×Sig:=(217,⟨[.v],a9g,[],[],none⟩)
theorem YK:Env Tryz.prog [] (pE []):=⟨trivial,pP,pH⟩
theorem aGi:pI Tryz.prog a9h:=by
 refine pO YK Tryz.func217 (c:=_) rfl (N:=17) (by kernel_rfl) (ts:=[(2,none)]) rfl (fun _ _=>rfl) ?_
 intro O hs hrow
 dsimp only[YH,YI,YJ,pJ,enumH,pD,pG,pL,Nat.reduceAdd] at hs hrow⊢
 obtain⟨z0,hC0⟩: ∃z,(a9f O)=z:=⟨_,rfl⟩
 try rw[hC0]
 unfold a9f at hC0
 refine oS YK ?_
 refine oS YK ?_ (hp:=by exact And.intro (fun hh=>hh) (And.intro (fun hh=>pZ hh) (And.intro (fun hh=>hh) (And.intro (fun hh=>hh) (And.intro (fun hh=>hh) (And.intro (fun hh=>hh) (And.intro (fun hG hh=>y9 hG hh) ((fun hh=>pZ hh)))))))))
 refine oV ?_
 cases hC0
 exact⟨[],by rfl,by rfl,by rfl⟩
def GD (O:(List UInt8)) (Z:(List UInt8)):Option Unit:=
 (HX O Z).bind fun aA=>
 some (())
section
variable (O:(List UInt8)) (Z:(List UInt8))
@[reducible] def ZD:List Slot:=[(.val .str O,none),(.val .str Z,none)]
@[reducible] def ZE:List Blk:=[]
@[go_sem] def ZF:Ret:=⟨[((GD O Z)).isSome=true],[(.val .bool ((decide ((List.length Z:Int)≤(List.length O:Int)))&&(decide ((oZ O (0:Int) (List.length Z:Int))=Z))),none)],[]⟩
def a9A:List Slot→List Blk→Option Ret:=pM (V:=((List UInt8)×(List UInt8))) (fun x=>ZD x.1 x.2) (fun x=>ZE) fun x=>ZF x.1 x.2
@[go_sem] theorem aLE:a9A (no_index (ZD O Z)) (no_index ZE)=some (ZF O Z):=pN (fun⟨a0,a1⟩ ⟨b0,b1⟩ h1 h2=>by cases h1;cases h2;rfl) (O,Z)
end
@[reducible,go_sem] def a9B:Nat×Sig:=(85,⟨[.v,.v],a9A,[],[],none⟩)
theorem ZG:Env Tryz.prog [] (pE [W8]):=⟨trivial,p5 a8q pP,pH⟩
theorem aGs:pI Tryz.prog a9B:=by
 refine pO ZG Tryz.func85 (c:=_) rfl (N:=8) (by kernel_rfl) (ts:=[(4,none)]) rfl (fun _ _=>rfl) ?_
 intro⟨O,Z⟩ hs hrow
 dsimp only[ZD,ZE,ZF,pJ,enumH,pD,pG,pL,Nat.reduceAdd] at hs hrow⊢
 have hz:=hs
 obtain⟨z0,hC0⟩:=Option.isSome_iff_exists.1 hz
 try rw[pW hC0]
 clear hz hs
 unfold GD at hC0
 refine oS ZG ?_
 obtain⟨aA,hv1,hw1,hC0⟩:=p8 hC0
 try simp only[go_sem] at hw1
 refine oS ZG ?_ (hp:=by exact(p7 hv1)) (h:=by simp only[go_sem,hw1];rfl)
 refine oV ?_
 cases hC0
 exact⟨[],by rfl,by rfl,by rfl⟩
attribute [irreducible] GD
end
end Go.Proofs.YtfchbnahjcdiiaaGreatDoor
namespace Go.Proofs.YtfchbnahjcdiiaaGreatDoor
open Vc
set_option maxRecDepth 100000
set_option maxHeartbeats 4000000
set_option linter.unusedSimpArgs false
set_option linter.unusedVariables false
noncomputable section
def AO (O:(List UInt8)) (Z:Int):(Int×Int)→Option ((Int×Int)⊕(Int⊕(Int×Int))):=fun(aA,aB)=>
 if (decide (aB<Z))=true then
  if 0≤aB∧aB<(List.length O:Int) then
   if (((decide ((pA O aB)<(128:Int)))==false)=true→0≤aB∧aB<(List.length O:Int)) then
    if ((decide ((pA O aB)<(128:Int)))||(decide ((191:Int)<(pA O aB))))=true then
     some (.inr (.inr (((65533:Int),(1:Int)))))
    else
     if oT ((64:Int)*aA) then
      if 0≤aB∧aB<(List.length O:Int) then
       if oT (((64:Int)*aA)+(IntKind.wrap .i64 (pA O aB))) then
        if oT ((((64:Int)*aA)+(IntKind.wrap .i64 (pA O aB)))- (128:Int)) then
         if oT (aB+(1:Int)) then
          some (.inl (((((64:Int)*aA)+(IntKind.wrap .i64 (pA O aB)))- (128:Int)),(aB+(1:Int))))
         else none
        else none
       else none
      else none
     else none
   else none
  else none
 else
  some (.inr (.inl aA))
def EJ (O:(List UInt8)):Option (Int×Int):=
 if 0≤(0:Int)∧(0:Int)<(List.length O:Int) then
  qT (σ:=(Int×Int)) (
    if (decide ((IntKind.wrap .i64 (pA O (0:Int)))<(128:Int)))=true then
     some (.inr (((IntKind.wrap .i64 (pA O (0:Int))),(1:Int))))
    else
     if ((decide ((192:Int)≤(IntKind.wrap .i64 (pA O (0:Int)))))&&(decide ((IntKind.wrap .i64 (pA O (0:Int)))<(224:Int))))=true then
      if oT ((IntKind.wrap .i64 (pA O (0:Int)))- (192:Int)) then
       some (.inl (((IntKind.wrap .i64 (pA O (0:Int)))- (192:Int)),(2:Int)))
      else none
     else
      if ((decide ((224:Int)≤(IntKind.wrap .i64 (pA O (0:Int)))))&&(decide ((IntKind.wrap .i64 (pA O (0:Int)))<(240:Int))))=true then
       if oT ((IntKind.wrap .i64 (pA O (0:Int)))- (224:Int)) then
        some (.inl (((IntKind.wrap .i64 (pA O (0:Int)))- (224:Int)),(3:Int)))
       else none
      else
       if ((decide ((240:Int)≤(IntKind.wrap .i64 (pA O (0:Int)))))&&(decide ((IntKind.wrap .i64 (pA O (0:Int)))<(248:Int))))=true then
        if oT ((IntKind.wrap .i64 (pA O (0:Int)))- (240:Int)) then
         some (.inl (((IntKind.wrap .i64 (pA O (0:Int)))- (240:Int)),(4:Int)))
        else none
       else
        some (.inr (((65533:Int),(1:Int))))
   ) fun(Z,aA)=>
  if (decide ((List.length O:Int)<aA))=true then
   some (((65533:Int),(1:Int)))
  else
   qT (pR (AO O aA) (Z,(1:Int))) fun aB=>
   if (((!(((decide ((0:Int)≤aB))&&(decide (aB≤(1114111:Int))))&&((decide (aB<(55296:Int)))||(decide ((57343:Int)<aB)))))==false)=true→((yD aB)).isSome=true) then
    if (((!(((decide ((0:Int)≤aB))&&(decide (aB≤(1114111:Int))))&&((decide (aB<(55296:Int)))||(decide ((57343:Int)<aB)))))==false)=true→0≤(0:Int)∧(0:Int)≤aA∧aA≤(List.length O:Int)) then
     if ((!(((decide ((0:Int)≤aB))&&(decide (aB≤(1114111:Int))))&&((decide (aB<(55296:Int)))||(decide ((57343:Int)<aB)))))||(!decide ((val (yD aB))=(oZ O (0:Int) aA))))=true then
      some (((65533:Int),(1:Int)))
     else
      some ((aB,aA))
    else none
   else none
 else none
section
variable (O:(List UInt8))
@[reducible] def YE:List Slot:=[(.val .str O,none)]
@[reducible] def YF:List Blk:=[]
@[go_sem] def YG:Ret:=⟨[((EJ O)).isSome=true],[(.val (.int .i64) ((val (EJ O)).1),none),(.val (.int .i64) ((val (EJ O)).2),none)],[]⟩
def a9d:List Slot→List Blk→Option Ret:=pM (V:=(List UInt8)) (fun x=>YE x) (fun x=>YF) fun x=>YG x
@[go_sem] theorem aLt:a9d (no_index (YE O)) (no_index YF)=some (YG O):=pN (fun a0 b0 h1 h2=>by cases h1;cases h2;rfl) O
end
@[reducible,go_sem] def a9e:Nat×Sig:=(216,⟨[.v],a9d,[],[],none⟩)
theorem tT:Env Tryz.prog [s5,zP,q7] (pE [L7,L8]):=⟨⟨sG,⟨BG,⟨q9,trivial⟩⟩⟩,p5 P0 (p5 P1 pP),pH⟩
theorem aGh:pI Tryz.prog a9e:=by
 refine pO tT Tryz.func216 (c:=_) rfl (N:=81) (by kernel_rfl) (ts:=[(2,none),(3,none)]) rfl (fun _ _=>rfl) ?_
 intro O hs hrow
 dsimp only[YE,YF,YG,pJ,enumH,pD,pG,pL,Nat.reduceAdd] at hs hrow⊢
 have hz:=hs
 obtain⟨z0,hC0⟩:=Option.isSome_iff_exists.1 hz
 try rw[pW hC0]
 clear hz hs
 unfold EJ at hC0
 refine oS tT ?_
 obtain⟨hg1,hC0⟩:=oU hC0
 refine oS tT ?_ (hp:=by exact hg1)
 refine p4 ?_
 obtain⟨y1,hC1,hC0⟩:=sX hC0
 refine y8 (fun s=> ∃v,y1= .inl v∧s=(fun x=>⟨[(0,(.val .str O,none)),(4,(.val (.int .i64) x.1,none)),(5,(.val (.int .i64) x.2,none))],[],0,81,0⟩) v) ?_ ?_
 ·refine pT ?_
  refine oS tT ?_
  refine oX hC1 (fun hC1 hc1=> ?_) (fun hC1 hc1=> ?_)
  ·refine oS tT ?_
   refine oV (pS (a65 (pC ?_)))
   cases hC1
   dsimp only at hC0
   cases hC0
   exact⟨[],by rfl,by rfl,by rfl⟩
  ·refine oS tT ?_ (hp:=by exact And.intro (fun hh=>hh) ((fun hh=>pZ hh)))
   refine oX hC1 (fun hC1 hc2=> ?_) (fun hC1 hc2=> ?_)
   ·obtain⟨hg2,hC1⟩:=oU hC1
    refine pF tT ?_ (hp:=by exact hg2)
    refine pB ?_
    cases hC1
    exact rK ⟨⟨[0,4,5],[]⟩,_,rfl,by rfl⟩
   ·refine oS tT ?_ (hp:=by exact And.intro (fun hh=>hh) ((fun hh=>pZ hh)))
    refine oX hC1 (fun hC1 hc3=> ?_) (fun hC1 hc3=> ?_)
    ·obtain⟨hg3,hC1⟩:=oU hC1
     refine pF tT ?_ (hp:=by exact hg3)
     refine pB ?_
     cases hC1
     exact rK ⟨⟨[0,4,5],[]⟩,_,rfl,by rfl⟩
    ·refine oS tT ?_ (hp:=by exact And.intro (fun hh=>hh) ((fun hh=>pZ hh)))
     refine oX hC1 (fun hC1 hc4=> ?_) (fun hC1 hc4=> ?_)
     ·obtain⟨hg4,hC1⟩:=oU hC1
      refine pF tT ?_ (hp:=by exact hg4)
      refine pB ?_
      cases hC1
      exact rK ⟨⟨[0,4,5],[]⟩,_,rfl,by rfl⟩
     ·refine oS tT ?_
      refine oV (pS (a65 (pC ?_)))
      cases hC1
      dsimp only at hC0
      cases hC0
      exact⟨[],by rfl,by rfl,by rfl⟩
 ·rintro _ ⟨v,rfl,rfl⟩
  obtain⟨Z,aA⟩:=v
  dsimp only at hC0⊢
  refine oW (p4 ?_)
  refine oS tT ?_
  refine oX hC0 (fun hC0 hc5=> ?_) (fun hC0 hc5=> ?_)
  ·refine oS tT ?_
   refine oV (pC ?_)
   cases hC0
   exact⟨[],by rfl,by rfl,by rfl⟩
  ·refine p6 (oW (p4 ?_))
   refine oS tT ?_
   refine pT ?_
   obtain⟨y1,hy1,hC0⟩:=sX hC0
   refine rH 1 (fun s=> ∃v,y1= .inl v∧s=(fun x=>⟨[(0,(.val .str O,none)),(4,(.val (.int .i64) x,none)),(5,(.val (.int .i64) aA,none))],[],0,81,0⟩) v) ?_ ?_
   ·refine rG hy1 (fun x=>⟨[(0,(.val .str O,none)),(4,(.val (.int .i64) x.1,none)),(5,(.val (.int .i64) aA,none)),(6,(.val (.int .i64) x.2,none))],[],0,81,0⟩) ⟨[0,4,5,6],[]⟩ (by rfl) ?_
    intro x1 w1 n1 hC1 hN1
    obtain⟨aB,aC⟩:=x1
    unfold AO at hC1
    dsimp only at hC1⊢
    refine p4 ?_
    refine oS tT ?_
    refine oX hC1 (fun hC1 hc6=> ?_) (fun hC1 hc6=> ?_)
    ·refine p6 (oW (p4 (pT (p4 ?_))))
     obtain⟨hg5,hC1⟩:=oU hC1
     obtain⟨hg6,hC1⟩:=oU hC1
     refine oS tT ?_ (hp:=by exact And.intro hg5 (And.intro (fun hh=>hh) (And.intro (fun hh=>hh) (And.intro hg6 (And.intro (fun hh=>hh) ((fun hh=>sF hh)))))))
     refine oX hC1 (fun hC1 hc7=> ?_) (fun hC1 hc7=> ?_)
     ·refine oS tT ?_
      refine oV (pC (pS (pC (sK (sJ (pS (pC ?_)))))))
      cases hC1
      cases hN1
      dsimp only at hC0
      cases hC0
      exact⟨[],by rfl,by rfl,by rfl⟩
     ·refine p6 (oW ?_)
      obtain⟨hg7,hC1⟩:=oU hC1
      obtain⟨hg8,hC1⟩:=oU hC1
      obtain⟨hg9,hC1⟩:=oU hC1
      obtain⟨hg10,hC1⟩:=oU hC1
      refine pF tT ?_ (hp:=by exact And.intro hg7 (And.intro hg8 (And.intro hg9 (hg10))))
      refine pB (oW ?_)
      obtain⟨hg11,hC1⟩:=oU hC1
      refine pF tT ?_ (hp:=by exact hg11)
      cases hC1
      exact qG ⟨⟨[0,4,5,6],[]⟩,_,by rfl,hN1⟩
    ·refine qW (r7 (qZ ?_))
     cases hC1
     cases hN1
     exact qY ⟨⟨[0,4,5],[]⟩,_,rfl,by rfl⟩
   ·rintro _ ⟨aD,rfl,rfl⟩
    dsimp only at hC0⊢
    refine rE (oW (p4 ?_))
    obtain⟨hg12,hC0⟩:=oU hC0
    obtain⟨hg13,hC0⟩:=oU hC0
    refine qK tT ?_ (hp:=by exact And.intro (fun hh=>hh) (And.intro hg12 (And.intro (fun hh=>hh) (And.intro (fun hh=>hh) (And.intro hg13 (And.intro (fun hh=>hh) (And.intro (fun hh=>hh) ((fun hh=>sF hh)))))))))
    refine oX hC0 (fun hC0 hc8=> ?_) (fun hC0 hc8=> ?_)
    ·refine oS tT ?_
     refine oV (pC ?_)
     cases hC0
     exact⟨[],by rfl,by rfl,by rfl⟩
    ·refine p6 (oW ?_)
     refine oS tT ?_
     refine oV ?_
     cases hC0
     exact⟨[],by rfl,by rfl,by rfl⟩
attribute [irreducible] EJ
def GB (O:(List Int)) (Z:Int):Option (List Int):=
 if (decide ((IntKind.wrap .u32 Z)≤(2047:Int)))=true then
  if (List.length O+List.length ([(bits .or .u8 (192:Int) (IntKind.wrap .u8 (uF .i32 Z (6:Int)))),(bits .or .u8 (128:Int) (bits .and .u8 (IntKind.wrap .u8 Z) (63:Int)))]:List Int))*1≤140737488355328 then
   some ((O++([(bits .or .u8 (192:Int) (IntKind.wrap .u8 (uF .i32 Z (6:Int)))),(bits .or .u8 (128:Int) (bits .and .u8 (IntKind.wrap .u8 Z) (63:Int)))]:List Int)))
  else none
 else
  qD (σ:=Bool) (
    if (decide ((IntKind.wrap .u32 Z)<(55296:Int)))=true then
     some ((decide ((IntKind.wrap .u32 Z)<(55296:Int))))
    else
     some (((decide ((57343:Int)<(IntKind.wrap .u32 Z)))&&(decide ((IntKind.wrap .u32 Z)≤(65535:Int)))))
   ) fun aA=>
  if aA=true then
   if (List.length O+List.length ([(bits .or .u8 (224:Int) (IntKind.wrap .u8 (uF .i32 Z (12:Int)))),(bits .or .u8 (128:Int) (bits .and .u8 (IntKind.wrap .u8 (uF .i32 Z (6:Int))) (63:Int))),(bits .or .u8 (128:Int) (bits .and .u8 (IntKind.wrap .u8 Z) (63:Int)))]:List Int))*1≤140737488355328 then
    some ((O++([(bits .or .u8 (224:Int) (IntKind.wrap .u8 (uF .i32 Z (12:Int)))),(bits .or .u8 (128:Int) (bits .and .u8 (IntKind.wrap .u8 (uF .i32 Z (6:Int))) (63:Int))),(bits .or .u8 (128:Int) (bits .and .u8 (IntKind.wrap .u8 Z) (63:Int)))]:List Int)))
   else none
  else
   if ((decide ((65535:Int)<(IntKind.wrap .u32 Z)))&&(decide ((IntKind.wrap .u32 Z)≤(1114111:Int))))=true then
    if (List.length O+List.length ([(bits .or .u8 (240:Int) (IntKind.wrap .u8 (uF .i32 Z (18:Int)))),(bits .or .u8 (128:Int) (bits .and .u8 (IntKind.wrap .u8 (uF .i32 Z (12:Int))) (63:Int))),(bits .or .u8 (128:Int) (bits .and .u8 (IntKind.wrap .u8 (uF .i32 Z (6:Int))) (63:Int))),(bits .or .u8 (128:Int) (bits .and .u8 (IntKind.wrap .u8 Z) (63:Int)))]:List Int))*1≤140737488355328 then
     some ((O++([(bits .or .u8 (240:Int) (IntKind.wrap .u8 (uF .i32 Z (18:Int)))),(bits .or .u8 (128:Int) (bits .and .u8 (IntKind.wrap .u8 (uF .i32 Z (12:Int))) (63:Int))),(bits .or .u8 (128:Int) (bits .and .u8 (IntKind.wrap .u8 (uF .i32 Z (6:Int))) (63:Int))),(bits .or .u8 (128:Int) (bits .and .u8 (IntKind.wrap .u8 Z) (63:Int)))]:List Int)))
    else none
   else
    if (List.length O+List.length ([(239:Int),(191:Int),(189:Int)]:List Int))*1≤140737488355328 then
     some ((O++([(239:Int),(191:Int),(189:Int)]:List Int)))
    else none
section
variable (O:(List Int)) (Z:Int) (aA:Nat)
@[reducible] def YO:List Slot:=[(.val (.list (.int .u8)) O,some 0),(.val (.int .i32) Z,none)]
@[reducible] def YP:List Blk:=[.grow 5 1 aA]
@[go_sem] def YQ:Ret:=⟨[aA=(List.length O),((GB O Z)).isSome=true],[(.val (.list (.int .u8)) (val (GB O Z)),some 0)],[.grow 5 1 (List.length (val (GB O Z)))]⟩
def a9k:List Slot→List Blk→Option Ret:=pM (V:=((List Int)×Int×Nat)) (fun x=>YO x.1 x.2.1) (fun x=>YP x.2.2) fun x=>YQ x.1 x.2.1 x.2.2
@[go_sem] theorem aLw:a9k (no_index (YO O Z)) (no_index (YP aA))=some (YQ O Z aA):=pN (fun⟨a0,a1,a2⟩ ⟨b0,b1,b2⟩ h1 h2=>by cases h1;cases h2;rfl) (O,Z,aA)
end
@[reducible,go_sem] def a9l:Nat×Sig:=(221,⟨[.own,.v],a9k,[],[],none⟩)
theorem AP:Env Tryz.prog [zP,HR,AE,OP] (pE []):=⟨⟨BG,⟨OK,⟨CK,⟨a7s,trivial⟩⟩⟩⟩,pP,pH⟩
theorem aGk:pI Tryz.prog a9l:=by
 refine pO AP Tryz.func221 (c:=_) rfl (N:=78) (by kernel_rfl) (ts:=[(4,none)]) rfl (fun _ _=>rfl) ?_
 intro⟨O,Z,aA⟩ hs hrow
 dsimp only[YO,YP,YQ,pJ,enumH,pD,pG,pL,Nat.reduceAdd] at hs hrow⊢
 obtain⟨rfl,hz⟩:=hs
 obtain⟨z0,hC0⟩:=Option.isSome_iff_exists.1 hz
 try rw[pW hC0]
 clear hz
 unfold GB at hC0
 refine oS AP ?_
 refine oS AP ?_
 refine pT ?_
 refine oS AP ?_
 refine oX hC0 (fun hC0 hc1=> ?_) (fun hC0 hc1=> ?_)
 ·obtain⟨hg1,hC0⟩:=oU hC0
  refine oS AP ?_ (hp:=by exact And.intro (show (0:Int)≤(6:Int) from by decide) (And.intro (by first|exact rfl|exact trivial) (hg1)))
  refine oV (pS ?_)
  cases hC0
  exact⟨[(0,0)],by rfl,by rfl,by rfl⟩
 ·refine p4 ?_
  refine oS AP ?_
  obtain⟨aB,hC1,hC0⟩:=oY hC0
  refine y8 (fun s=>s=(fun x=>⟨[(0,(.val (.list (.int .u8)) O,some 0)),(1,(.val (.int .i32) Z,none)),(5,(.val (.int .u32) (IntKind.wrap .u32 Z),none)),(25,(.val .bool x,none))],[(0,.grow 5 1 (List.length O))],1,78,1⟩) aB) ?_ ?_
  ·refine oX hC1 (fun hC1 hc2=> ?_) (fun hC1 hc2=> ?_)
   ·refine p6 ?_
    cases hC1
    exact rK ⟨⟨[0,1,5,25],[(0,0)]⟩,by rfl⟩
   ·refine pF AP ?_ (hp:=by exact And.intro (fun hh=>hh) ((fun hh=>pZ hh)))
    cases hC1
    exact rK ⟨⟨[0,1,5,25],[(0,0)]⟩,by rfl⟩
  ·rintro _ rfl
   dsimp only at hC0⊢
   refine oW ?_
   refine oX hC0 (fun hC0 hc3=> ?_) (fun hC0 hc3=> ?_)
   ·obtain⟨hg2,hC0⟩:=oU hC0
    refine oS AP ?_ (hp:=by exact And.intro (show (0:Int)≤(12:Int) from by decide) (And.intro (show (0:Int)≤(6:Int) from by decide) (And.intro (by first|exact rfl|exact trivial) (hg2))))
    refine oV (pS ?_)
    cases hC0
    exact⟨[(0,0)],by rfl,by rfl,by rfl⟩
   ·refine oS AP ?_ (hp:=by exact And.intro (fun hh=>hh) ((fun hh=>pZ hh)))
    refine oX hC0 (fun hC0 hc4=> ?_) (fun hC0 hc4=> ?_)
    ·obtain⟨hg3,hC0⟩:=oU hC0
     refine oS AP ?_ (hp:=by exact And.intro (show (0:Int)≤(18:Int) from by decide) (And.intro (show (0:Int)≤(12:Int) from by decide) (And.intro (show (0:Int)≤(6:Int) from by decide) (And.intro (by first|exact rfl|exact trivial) (hg3)))))
     refine oV (pS ?_)
     cases hC0
     exact⟨[(0,0)],by rfl,by rfl,by rfl⟩
    ·obtain⟨hg4,hC0⟩:=oU hC0
     refine oS AP ?_ (hp:=by exact And.intro (by first|exact rfl|exact trivial) (hg4))
     refine oV (pS ?_)
     cases hC0
     exact⟨[(0,0)],by rfl,by rfl,by rfl⟩
attribute [irreducible] GB
def LA (O:(List p9)) (Z:(List UInt8)):Int→Option (Int⊕(Unit⊕Int)):=fun aA=>
 if (decide (aA<(List.length O:Int)))=true then
  if 0≤aA∧aA<(List.length O:Int) then
   if (decide (((pY (.pair .str (.pair .str .unit)) O aA).1)=Z))=true then
    some (.inr (.inr (aA)))
   else
    if oT (aA+(1:Int)) then
     some (.inl (aA+(1:Int)))
    else none
  else none
 else
  some (.inr (.inl ()))
def I2 (O:(List p9)) (Z:(List UInt8)):Option Int:=
 qT (pR (LA O Z) (0:Int)) fun _=>
 some ((-1:Int))
section
variable (O:(List p9)) (Z:(List UInt8))
@[reducible] def YR:List Slot:=[(.val (.list (.pair .str (.pair .str .unit))) O,none),(.val .clo (some (201,[(0,0)])),none)]
@[reducible] def YS:List Blk:=[.cells .str Z []]
@[go_sem] def YT:Ret:=⟨[((I2 O Z)).isSome=true],[(.val (.int .i64) (val (I2 O Z)),none)],[.cells .str Z []]⟩
def a9m:List Slot→List Blk→Option Ret:=pM (V:=((List p9)×(List UInt8))) (fun x=>YR x.1) (fun x=>YS x.2) fun x=>YT x.1 x.2
@[go_sem] theorem aLx:a9m (no_index (YR O)) (no_index (YS Z))=some (YT O Z):=pN (fun⟨a0,a1⟩ ⟨b0,b1⟩ h1 h2=>by cases h1;cases h2;rfl) (O,Z)
end
@[reducible,go_sem] def a9n:Nat×Sig:=(172,⟨[.v,.f [(.str,[])]],a9m,[],[0],none⟩)
theorem CV:Env Tryz.prog [AJ,BI] (pE [a82]):=⟨⟨CO,⟨E6,trivial⟩⟩,p5 aGd pP,pH⟩
theorem aGl:pI Tryz.prog a9n:=by
 refine pO CV Tryz.func172 (c:=_) rfl (N:=19) (by kernel_rfl) (ts:=[(4,none)]) rfl (fun _ _=>rfl) ?_
 intro⟨O,Z⟩ hs hrow
 dsimp only[YR,YS,YT,pJ,enumH,pD,pG,pL,Nat.reduceAdd] at hs hrow⊢
 have hz:=hs
 obtain⟨z0,hC0⟩:=Option.isSome_iff_exists.1 hz
 try rw[pW hC0]
 clear hz hs
 unfold I2 at hC0
 refine oS CV ?_
 refine p4 ?_
 refine oS CV ?_
 refine pT ?_
 obtain⟨y1,hy1,hC0⟩:=sX hC0
 refine rH 0 (fun s=> ∃v,y1= .inl v∧s=(fun _=>⟨[],[(0,.cells .str Z [])],1,19,1⟩) v) ?_ ?_
 ·refine rG hy1 (fun x=>⟨[(0,(.val (.list (.pair .str (.pair .str .unit))) O,none)),(1,(.val .clo (some (201,[(0,0)])),none)),(7,(.val (.int .i64) (List.length O:Int),none)),(8,(.val (.int .i64) x,none))],[(0,.cells .str Z [])],1,19,1⟩) ⟨[0,1,7,8],[(0,0)]⟩ (by rfl) ?_
  intro aA w1 n1 hC1 hN1
  unfold LA at hC1
  dsimp only at hC1⊢
  refine oS CV ?_
  refine p4 ?_
  refine oX hC1 (fun hC1 hc1=> ?_) (fun hC1 hc1=> ?_)
  ·refine p6 (oW (p4 (pT ?_)))
   refine oS CV ?_
   obtain⟨hg1,hC1⟩:=oU hC1
   refine oS CV ?_ (hp:=by exact And.intro hg1 ((by first|exact rfl|exact trivial)))
   refine oX hC1 (fun hC1 hc2=> ?_) (fun hC1 hc2=> ?_)
   ·refine oS CV ?_
    refine oV (pS (pC (sK (sJ (pS (pC ?_))))))
    cases hC1
    cases hN1
    dsimp only at hC0
    cases hC0
    exact⟨[(0,0)],by rfl,by rfl,by rfl⟩
   ·refine p6 (pB (oW ?_))
    obtain⟨hg2,hC1⟩:=oU hC1
    refine pF CV ?_ (hp:=by exact hg2)
    cases hC1
    exact qG ⟨⟨[0,1,7,8],[(0,0)]⟩,_,by rfl,hN1⟩
  ·refine qW (r7 (qZ ?_))
   cases hC1
   cases hN1
   exact qY ⟨⟨[],[(0,0)]⟩,_,rfl,by rfl⟩
 ·rintro _ ⟨v,rfl,rfl⟩
  dsimp only at hC0⊢
  refine rE (oW ?_)
  refine oS CV ?_
  refine oV ?_
  cases hC0
  exact⟨[(0,0)],by rfl,by rfl,by rfl⟩
attribute [irreducible] I2
end
end Go.Proofs.YtfchbnahjcdiiaaGreatDoor
namespace Go.Proofs.YtfchbnahjcdiiaaGreatDoor
open Vc
set_option maxRecDepth 100000
set_option maxHeartbeats 4000000
set_option linter.unusedSimpArgs false
set_option linter.unusedVariables false
noncomputable section
def LB (O:(List p9)) (Z:(List UInt8)):Int→Option (Int⊕(Unit⊕Int)):=fun aA=>
 if (decide (aA<(List.length O:Int)))=true then
  if 0≤aA∧aA<(List.length O:Int) then
   if (!(Op.bytesLess ((pY (.pair .str (.pair .str .unit)) O aA).1) Z||decide (((pY (.pair .str (.pair .str .unit)) O aA).1)=Z)))=true then
    some (.inr (.inr (aA)))
   else
    if oT (aA+(1:Int)) then
     some (.inl (aA+(1:Int)))
    else none
  else none
 else
  some (.inr (.inl ()))
def I3 (O:(List p9)) (Z:(List UInt8)):Option Int:=
 qT (pR (LB O Z) (0:Int)) fun _=>
 some ((-1:Int))
section
variable (O:(List p9)) (Z:(List UInt8))
@[reducible] def YU:List Slot:=[(.val (.list (.pair .str (.pair .str .unit))) O,none),(.val .clo (some (173,[(0,0)])),none)]
@[reducible] def YV:List Blk:=[.cells .str Z []]
@[go_sem] def YW:Ret:=⟨[((I3 O Z)).isSome=true],[(.val (.int .i64) (val (I3 O Z)),none)],[.cells .str Z []]⟩
def a9o:List Slot→List Blk→Option Ret:=pM (V:=((List p9)×(List UInt8))) (fun x=>YU x.1) (fun x=>YV x.2) fun x=>YW x.1 x.2
@[go_sem] theorem aLy:a9o (no_index (YU O)) (no_index (YV Z))=some (YW O Z):=pN (fun⟨a0,a1⟩ ⟨b0,b1⟩ h1 h2=>by cases h1;cases h2;rfl) (O,Z)
end
@[reducible,go_sem] def a9p:Nat×Sig:=(172,⟨[.v,.f [(.str,[])]],a9o,[],[0],none⟩)
theorem CW:Env Tryz.prog [AJ,BI] (pE [a8N]):=⟨⟨CO,⟨E6,trivial⟩⟩,p5 aGb pP,pH⟩
theorem aGm:pI Tryz.prog a9p:=by
 refine pO CW Tryz.func172 (c:=_) rfl (N:=19) (by kernel_rfl) (ts:=[(4,none)]) rfl (fun _ _=>rfl) ?_
 intro⟨O,Z⟩ hs hrow
 dsimp only[YU,YV,YW,pJ,enumH,pD,pG,pL,Nat.reduceAdd] at hs hrow⊢
 have hz:=hs
 obtain⟨z0,hC0⟩:=Option.isSome_iff_exists.1 hz
 try rw[pW hC0]
 clear hz hs
 unfold I3 at hC0
 refine oS CW ?_
 refine p4 ?_
 refine oS CW ?_
 refine pT ?_
 obtain⟨y1,hy1,hC0⟩:=sX hC0
 refine rH 0 (fun s=> ∃v,y1= .inl v∧s=(fun _=>⟨[],[(0,.cells .str Z [])],1,19,1⟩) v) ?_ ?_
 ·refine rG hy1 (fun x=>⟨[(0,(.val (.list (.pair .str (.pair .str .unit))) O,none)),(1,(.val .clo (some (173,[(0,0)])),none)),(7,(.val (.int .i64) (List.length O:Int),none)),(8,(.val (.int .i64) x,none))],[(0,.cells .str Z [])],1,19,1⟩) ⟨[0,1,7,8],[(0,0)]⟩ (by rfl) ?_
  intro aA w1 n1 hC1 hN1
  unfold LB at hC1
  dsimp only at hC1⊢
  refine oS CW ?_
  refine p4 ?_
  refine oX hC1 (fun hC1 hc1=> ?_) (fun hC1 hc1=> ?_)
  ·refine p6 (oW (p4 (pT ?_)))
   refine oS CW ?_
   obtain⟨hg1,hC1⟩:=oU hC1
   refine oS CW ?_ (hp:=by exact And.intro hg1 ((by first|exact rfl|exact trivial)))
   refine oX hC1 (fun hC1 hc2=> ?_) (fun hC1 hc2=> ?_)
   ·refine oS CW ?_
    refine oV (pS (pC (sK (sJ (pS (pC ?_))))))
    cases hC1
    cases hN1
    dsimp only at hC0
    cases hC0
    exact⟨[(0,0)],by rfl,by rfl,by rfl⟩
   ·refine p6 (pB (oW ?_))
    obtain⟨hg2,hC1⟩:=oU hC1
    refine pF CW ?_ (hp:=by exact hg2)
    cases hC1
    exact qG ⟨⟨[0,1,7,8],[(0,0)]⟩,_,by rfl,hN1⟩
  ·refine qW (r7 (qZ ?_))
   cases hC1
   cases hN1
   exact qY ⟨⟨[],[(0,0)]⟩,_,rfl,by rfl⟩
 ·rintro _ ⟨v,rfl,rfl⟩
  dsimp only at hC0⊢
  refine rE (oW ?_)
  refine oS CW ?_
  refine oV ?_
  cases hC0
  exact⟨[(0,0)],by rfl,by rfl,by rfl⟩
attribute [irreducible] I3
def EK (O:(List p9)):Option (List p9):=
 if (0+List.length O)*32≤140737488355328 then
  some ((([]:List p9)++O))
 else none
section
variable (O:(List p9))
@[reducible] def YL:List Slot:=[(.val (.list (.pair .str (.pair .str .unit))) O,none)]
@[reducible] def YM:List Blk:=[]
@[go_sem] def YN:Ret:=⟨[((EK O)).isSome=true],[(.own 0 (List.length (val (EK O))),none)],[.row 144 (.pair .str (.pair .str .unit)) (val (EK O)) (List.length (val (EK O)))]⟩
def a9i:List Slot→List Blk→Option Ret:=pM (V:=(List p9)) (fun x=>YL x) (fun x=>YM) fun x=>YN x
@[go_sem] theorem aLv:a9i (no_index (YL O)) (no_index YM)=some (YN O):=pN (fun a0 b0 h1 h2=>by cases h1;cases h2;rfl) O
end
@[reducible,go_sem] def a9j:Nat×Sig:=(170,⟨[.v],a9i,[],[],none⟩)
theorem L9:Env Tryz.prog [KQ] (pE []):=⟨⟨TR,trivial⟩,pP,pH⟩
theorem aGj:pI Tryz.prog a9j:=by
 refine pO L9 Tryz.func170 (c:=_) rfl (N:=8) (by kernel_rfl) (ts:=[(2,none)]) rfl (fun _ _=>rfl) ?_
 intro O hs hrow
 dsimp only[YL,YM,YN,pJ,enumH,pD,pG,pL,Nat.reduceAdd] at hs hrow⊢
 have hz:=hs
 obtain⟨z0,hC0⟩:=Option.isSome_iff_exists.1 hz
 try rw[pW hC0]
 clear hz hs
 unfold EK at hC0
 refine oS L9 ?_
 refine p4 ?_
 refine oS L9 ?_
 refine aEZ (by simp only[go_sem];rfl) (fun hnil=> ?_) (fun hnil=> ?_)
 ·subst hnil
  obtain⟨_,hC0⟩:=oU hC0
  refine oS L9 ?_
  refine oV (pC ?_)
  cases hC0
  exact⟨[(0,48)],by rfl,by rfl,by rfl⟩
 ·refine p6 (oW ?_)
  obtain⟨hg1,hC0⟩:=oU hC0
  refine oS L9 ?_ (hp:=by exact And.intro (by first|exact rfl|exact trivial) (hg1))
  refine oV ?_
  cases hC0
  exact⟨[(0,48)],by rfl,by rfl,by rfl⟩
attribute [irreducible] EK
def LC (O:(List UInt8)) (Z:Bool):Nat→Option (Nat⊕(Unit⊕Int)):=fun aA=>
 if (decide (aA<List.length O))=true then
  if (decide (aA<List.length O))=true then
   if (decide (aA<List.length O))=true then
    if (((decide ((127:Int)<(s4 O aA)))||(((((!(((decide ((97:Int)≤(IntKind.wrap .u8 (s4 O aA))))&&(decide ((IntKind.wrap .u8 (s4 O aA))≤(122:Int))))||((decide ((65:Int)≤(IntKind.wrap .u8 (s4 O aA))))&&(decide ((IntKind.wrap .u8 (s4 O aA))≤(90:Int))))))&&((decide ((s4 O aA)<(48:Int)))||(decide ((57:Int)<(s4 O aA)))))&&(!decide ((s4 O aA)=(45:Int))))&&(!decide ((s4 O aA)=(95:Int))))&&(!decide ((s4 O aA)=(46:Int)))))==Z)=true then
     some (.inr (.inr (((aA:Nat):Int))))
    else
     some (.inl (wM O aA))
   else none
  else none
 else
  some (.inr (.inl ()))
def I4 (O:(List UInt8)) (Z:Bool):Option Int:=
 qT (pR (LC O Z) 0) fun _=>
 some ((-1:Int))
section
variable (O:(List UInt8)) (Z:Bool)
@[reducible] def YX:List Slot:=[(.val .str O,none),(.val .clo (some (68,[])),none),(.val .bool Z,none)]
@[reducible] def YY:List Blk:=[]
@[go_sem] def YZ:Ret:=⟨[((I4 O Z)).isSome=true],[(.val (.int .i64) (val (I4 O Z)),none)],[]⟩
def a9q:List Slot→List Blk→Option Ret:=pM (V:=((List UInt8)×Bool)) (fun x=>YX x.1 x.2) (fun x=>YY) fun x=>YZ x.1 x.2
@[go_sem] theorem aLz:a9q (no_index (YX O Z)) (no_index YY)=some (YZ O Z):=pN (fun⟨a0,a1⟩ ⟨b0,b1⟩ h1 h2=>by cases h1;cases h2;rfl) (O,Z)
end
@[reducible,go_sem] def a9r:Nat×Sig:=(112,⟨[.v,.v,.v],a9q,[],[],none⟩)
theorem EL:Env Tryz.prog [BH,q7] (pE [a7R]):=⟨⟨E4,⟨q9,trivial⟩⟩,p5 aFV pP,pH⟩
theorem aGn:pI Tryz.prog a9r:=by
 refine pO EL Tryz.func112 (c:=_) rfl (N:=21) (by kernel_rfl) (ts:=[(6,none)]) rfl (fun _ _=>rfl) ?_
 intro⟨O,Z⟩ hs hrow
 dsimp only[YX,YY,YZ,pJ,enumH,pD,pG,pL,Nat.reduceAdd] at hs hrow⊢
 have hz:=hs
 obtain⟨z0,hC0⟩:=Option.isSome_iff_exists.1 hz
 try rw[pW hC0]
 clear hz hs
 unfold I4 at hC0
 refine oS EL ?_
 refine p4 ?_
 refine oS EL ?_
 refine pT ?_
 obtain⟨y1,hy1,hC0⟩:=sX hC0
 refine rH 0 (fun s=> ∃v,y1= .inl v∧s=(fun _=>⟨[],[],0,21,0⟩) v) ?_ ?_
 ·refine rG hy1 (fun x=>⟨[(1,(.val .clo (some (68,[])),none)),(2,(.val .bool Z,none)),(10,(.val .ref (some (0,0)),none))],[(0,.iter O x)],1,21,0⟩) ⟨[1,2,10],[(0,32)]⟩ (by rfl) ?_
  intro aA w1 n1 hC1 hN1
  unfold LC at hC1
  dsimp only at hC1⊢
  refine oS EL ?_
  refine p4 ?_
  refine oX hC1 (fun hC1 hc1=> ?_) (fun hC1 hc1=> ?_)
  ·refine p6 (oW (pT ?_))
   obtain⟨hg1,hC1⟩:=oU hC1
   obtain⟨hg2,hC1⟩:=oU hC1
   refine oS EL ?_ (hp:=by exact And.intro hg1 (hg2))
   refine oS EL ?_
   refine oX hC1 (fun hC1 hc2=> ?_) (fun hC1 hc2=> ?_)
   ·refine oS EL ?_
    refine oV (pS (sK (sJ (pS (pC ?_)))))
    cases hC1
    cases hN1
    dsimp only at hC0
    cases hC0
    exact⟨[],by rfl,by rfl,by rfl⟩
   ·refine p6 (pB ?_)
    cases hC1
    exact qG ⟨⟨[1,2,10],[(0,0)]⟩,_,by rfl,hN1⟩
  ·refine qW (r7 (qZ ?_))
   cases hC1
   cases hN1
   exact qY ⟨⟨[],[]⟩,_,rfl,by rfl⟩
 ·rintro _ ⟨v,rfl,rfl⟩
  dsimp only at hC0⊢
  refine rE (oW ?_)
  refine oS EL ?_
  refine oV ?_
  cases hC0
  exact⟨[],by rfl,by rfl,by rfl⟩
attribute [irreducible] I4
def GC (O:(List UInt8)):Option Int:=
 (I4 O true).bind fun Z=>
 some (Z)
section
variable (O:(List UInt8))
@[reducible] def Z0:List Slot:=[(.val .str O,none),(.val .clo (some (68,[])),none)]
@[reducible] def Z1:List Blk:=[]
@[go_sem] def Z2:Ret:=⟨[((GC O)).isSome=true],[(.val (.int .i64) (val (GC O)),none)],[]⟩
def a9s:List Slot→List Blk→Option Ret:=pM (V:=(List UInt8)) (fun x=>Z0 x) (fun x=>Z1) fun x=>Z2 x
@[go_sem] theorem aLA:a9s (no_index (Z0 O)) (no_index Z1)=some (Z2 O):=pN (fun a0 b0 h1 h2=>by cases h1;cases h2;rfl) O
end
@[reducible,go_sem] def a9t:Nat×Sig:=(67,⟨[.v,.v],a9s,[],[],none⟩)
theorem Z3:Env Tryz.prog [] (pE [a9r]):=⟨trivial,p5 aGn pP,pH⟩
theorem aGo:pI Tryz.prog a9t:=by
 refine pO Z3 Tryz.func67 (c:=_) rfl (N:=8) (by kernel_rfl) (ts:=[(4,none)]) rfl (fun _ _=>rfl) ?_
 intro O hs hrow
 dsimp only[Z0,Z1,Z2,pJ,enumH,pD,pG,pL,Nat.reduceAdd] at hs hrow⊢
 have hz:=hs
 obtain⟨z0,hC0⟩:=Option.isSome_iff_exists.1 hz
 try rw[pW hC0]
 clear hz hs
 unfold GC at hC0
 refine oS Z3 ?_
 obtain⟨Z,hv1,hw1,hC0⟩:=p8 hC0
 try simp only[go_sem] at hw1
 refine oS Z3 ?_ (hp:=by exact(p7 hv1)) (h:=by simp only[go_sem,hw1];rfl)
 refine oV ?_
 cases hC0
 exact⟨[],by rfl,by rfl,by rfl⟩
attribute [irreducible] GC
end
end Go.Proofs.YtfchbnahjcdiiaaGreatDoor
namespace Go.Proofs.YtfchbnahjcdiiaaGreatDoor
open Vc
set_option maxRecDepth 100000
set_option maxHeartbeats 4000000
set_option linter.unusedSimpArgs false
set_option linter.unusedVariables false
noncomputable section
def LD (O:(List UInt8)) (Z:(List Int)):((List (List UInt8))×Int×Int)→Option (((List (List UInt8))×Int×Int)⊕((List (List UInt8))×Int)):=fun(aA,aB,aC)=>
 if (decide (aC<(List.length Z:Int)))=true then
  if 0≤aC∧aC<(List.length Z:Int) then
   if 0≤aB∧aB≤(pY (.int .i64) Z aC)∧(pY (.int .i64) Z aC)≤(List.length O:Int) then
    if (List.length aA+List.length ([(oZ O aB (pY (.int .i64) Z aC))]:List (List UInt8)))*16≤140737488355328 then
     if 0≤aC∧aC<(List.length Z:Int) then
      if oT (aC+(1:Int)) then
       some (.inl ((aA++([(oZ O aB (pY (.int .i64) Z aC))]:List (List UInt8))),(pY (.int .i64) Z aC),(aC+(1:Int))))
      else none
     else none
    else none
   else none
  else none
 else
  some (.inr (aA,aB))
def CX (O:(List UInt8)) (Z:(List Int)):Option ((List UInt8)×(List (List UInt8))×(List UInt8)):=
 qD (pR (LD O Z) (([]:List (List UInt8)),(0:Int),(0:Int))) fun(aA,aB)=>
 if 0≤aB∧aB≤(List.length O:Int)∧(List.length O:Int)≤(List.length O:Int) then
  if (List.length aA+List.length ([(oZ O aB (List.length O:Int))]:List (List UInt8)))*16≤140737488355328 then
   (HU (aA++([(oZ O aB (List.length O:Int))]:List (List UInt8)))).bind fun aC=>
   some (((pY .str (aA++([(oZ O aB (List.length O:Int))]:List (List UInt8))) (0:Int)),(([]:List (List UInt8))++(oZ (aA++([(oZ O aB (List.length O:Int))]:List (List UInt8))) (1:Int) ((List.length (aA++([(oZ O aB (List.length O:Int))]:List (List UInt8))):Int)- (1:Int)))),(pY .str (aA++([(oZ O aB (List.length O:Int))]:List (List UInt8))) ((List.length (aA++([(oZ O aB (List.length O:Int))]:List (List UInt8))):Int)- (1:Int)))))
  else none
 else none
section
variable (O:(List UInt8)) (Z:(List Int))
@[reducible] def Z4:List Slot:=[(.val .str O,none),(.val (.list (.int .i64)) Z,none)]
@[reducible] def Z5:List Blk:=[]
@[go_sem] def Z6:Ret:=⟨[((CX O Z)).isSome=true],[(.val AD ((val (CX O Z)).1,((val (CX O Z)).2.1,((val (CX O Z)).2.2,()))),none)],[]⟩
def a9u:List Slot→List Blk→Option Ret:=pM (V:=((List UInt8)×(List Int))) (fun x=>Z4 x.1 x.2) (fun x=>Z5) fun x=>Z6 x.1 x.2
@[go_sem] theorem aLB:a9u (no_index (Z4 O Z)) (no_index Z5)=some (Z6 O Z):=pN (fun⟨a0,a1⟩ ⟨b0,b1⟩ h1 h2=>by cases h1;cases h2;rfl) (O,Z)
end
@[reducible,go_sem] def a9v:Nat×Sig:=(31,⟨[.v,.v],a9u,[],[],none⟩)
theorem BO:Env Tryz.prog [s5,q7,uK,BF,AL] (pE [a7J]):=⟨⟨sG,⟨q9,⟨vG,⟨E3,⟨CP,trivial⟩⟩⟩⟩⟩,p5 aFT pP,pH⟩
theorem aGp:pI Tryz.prog a9v:=by
 refine pO BO Tryz.func31 (c:=_) rfl (N:=35) (by kernel_rfl) (ts:=[(4,some 37)]) rfl (fun _ _=>rfl) ?_
 intro⟨O,Z⟩ hs hrow
 dsimp only[Z4,Z5,Z6,pJ,enumH,pD,pG,pL,Nat.reduceAdd] at hs hrow⊢
 have hz:=hs
 obtain⟨z0,hC0⟩:=Option.isSome_iff_exists.1 hz
 try rw[pW hC0]
 clear hz hs
 unfold CX at hC0
 refine oS BO ?_
 refine oS BO ?_
 refine oS BO ?_
 refine p4 ?_
 refine oS BO ?_
 refine pT ?_
 obtain⟨y1,hy1,hC0⟩:=oY hC0
 refine rH 0 (fun s=>s=(fun x=>⟨[(0,(.val .str O,none)),(4,(.val .ref (some (0,0)),none)),(5,(.val (.list .str) x.1,some 1)),(6,(.val (.int .i64) x.2,none))],[(0,.cells AD (([]:List UInt8),(([]:List (List UInt8)),(([]:List UInt8),()))) [(1,2)]),(1,.grow 9 1 (List.length x.1)),(2,.grow 9 1 (List.length ([]:List (List UInt8))))],3,35,0⟩) y1) ?_ ?_
 ·refine rG hy1 (fun x=>⟨[(0,(.val .str O,none)),(1,(.val (.list (.int .i64)) Z,none)),(4,(.val .ref (some (0,0)),none)),(5,(.val (.list .str) x.1,some 1)),(6,(.val (.int .i64) x.2.1,none)),(7,(.val (.int .i64) x.2.2,none))],[(0,.cells AD (([]:List UInt8),(([]:List (List UInt8)),(([]:List UInt8),()))) [(1,2)]),(1,.grow 9 1 (List.length x.1)),(2,.grow 9 1 (List.length ([]:List (List UInt8))))],3,35,0⟩) ⟨[0,1,4,5,6,7],[(0,0),(1,16),(2,1)]⟩ (by rfl) ?_
  intro x1 w1 n1 hC1 hN1
  obtain⟨aA,aB,aC⟩:=x1
  unfold LD at hC1
  dsimp only at hC1⊢
  refine p4 ?_
  refine oS BO ?_
  refine oX hC1 (fun hC1 hc1=> ?_) (fun hC1 hc1=> ?_)
  ·refine p6 (oW (p4 (pT ?_)))
   obtain⟨hg1,hC1⟩:=oU hC1
   obtain⟨hg2,hC1⟩:=oU hC1
   obtain⟨hg3,hC1⟩:=oU hC1
   refine oS BO ?_ (hp:=by exact And.intro hg1 (And.intro hg2 (And.intro (by first|exact rfl|exact trivial) (hg3))))
   obtain⟨hg4,hC1⟩:=oU hC1
   refine pF BO ?_ (hp:=by exact hg4)
   refine pB (oW ?_)
   obtain⟨hg5,hC1⟩:=oU hC1
   refine pF BO ?_ (hp:=by exact hg5)
   cases hC1
   exact qG ⟨⟨[0,1,4,5,6,7],[(0,0),(1,1),(2,2)]⟩,_,by rfl,hN1⟩
  ·refine qW (r7 (qZ ?_))
   cases hC1
   cases hN1
   exact qY ⟨⟨[0,4,5,6],[(0,0),(1,1),(2,2)]⟩,by rfl⟩
 ·rintro _ rfl
  obtain⟨aD,aE⟩:=y1
  dsimp only at hC0⊢
  refine rE (oW ?_)
  obtain⟨hg6,hC0⟩:=oU hC0
  obtain⟨hg7,hC0⟩:=oU hC0
  obtain⟨aF,hv8,hw8,hC0⟩:=p8 hC0
  try simp only[go_sem] at hw8
  refine oS BO ?_ (hp:=by exact And.intro hg6 (And.intro (by first|exact rfl|exact trivial) (And.intro hg7 ((p7 hv8))))) (h:=by simp only[go_sem,hw8];rfl)
  refine oV ?_
  cases hC0
  exact⟨[],by rfl,by rfl,by rfl⟩
attribute [irreducible] CX
def LE (O:tZ) (Z:tZ):((List (Int×((List UInt8)×Unit)))×Int)→Option (((List (Int×((List UInt8)×Unit)))×Int)⊕(List (Int×((List UInt8)×Unit)))):=fun(aA,aB)=>
 if (decide (aB<(List.length ((([O.1]:List (List UInt8))++O.2.1)++([O.2.2.1]:List (List UInt8))):Int)))=true then
  if 0≤aB∧aB<(List.length ((([O.1]:List (List UInt8))++O.2.1)++([O.2.2.1]:List (List UInt8))):Int) then
   if 0≤aB∧aB<(List.length ((([Z.1]:List (List UInt8))++Z.2.1)++([Z.2.2.1]:List (List UInt8))):Int) then
    if (!decide ((pY .str ((([O.1]:List (List UInt8))++O.2.1)++([O.2.2.1]:List (List UInt8))) aB)=(pY .str ((([Z.1]:List (List UInt8))++Z.2.1)++([Z.2.2.1]:List (List UInt8))) aB)))=true then
     if 0≤aB∧aB<(List.length ((([O.1]:List (List UInt8))++O.2.1)++([O.2.2.1]:List (List UInt8))):Int) then
      if (List.length aA+List.length ([(aB,((pY .str ((([O.1]:List (List UInt8))++O.2.1)++([O.2.2.1]:List (List UInt8))) aB),()))]:List (Int×((List UInt8)×Unit))))*24≤140737488355328 then
       if oT (aB+(1:Int)) then
        some (.inl ((aA++([(aB,((pY .str ((([O.1]:List (List UInt8))++O.2.1)++([O.2.2.1]:List (List UInt8))) aB),()))]:List (Int×((List UInt8)×Unit)))),(aB+(1:Int))))
       else none
      else none
     else none
    else
     if oT (aB+(1:Int)) then
      some (.inl (aA,(aB+(1:Int))))
     else none
   else none
  else none
 else
  some (.inr aA)
def CY (O:tZ) (Z:tZ):Option ((List (Int×((List UInt8)×Unit)))×Int):=
 if (!decide ((List.length O.2.1:Int)=(List.length Z.2.1:Int)))=true then
  some ((([]:List (Int×((List UInt8)×Unit))),(1:Int)))
 else
  (G3 O).bind fun aA=>
  (G3 Z).bind fun aB=>
  qD (pR (LE O Z) (([]:List (Int×((List UInt8)×Unit))),(0:Int))) fun aC=>
  some ((aC,(0:Int)))
section
variable (O:tZ) (Z:tZ)
@[reducible] def Z7:List Slot:=[(.val AD O,none),(.val AD Z,none)]
@[reducible] def Z8:List Blk:=[]
@[go_sem] def Z9:Ret:=⟨[((CY O Z)).isSome=true],[(.val (.list KM) ((val (CY O Z)).1),some 0),(.val (.int .i64) ((val (CY O Z)).2),none)],[.grow 100 2 (List.length ((val (CY O Z)).1))]⟩
def a9w:List Slot→List Blk→Option Ret:=pM (V:=(tZ×tZ)) (fun x=>Z7 x.1 x.2) (fun x=>Z8) fun x=>Z9 x.1 x.2
@[go_sem] theorem aLC:a9w (no_index (Z7 O Z)) (no_index Z8)=some (Z9 O Z):=pN (fun⟨a0,a1⟩ ⟨b0,b1⟩ h1 h2=>by cases h1;cases h2;rfl) (O,Z)
end
@[reducible,go_sem] def a9x:Nat×Sig:=(32,⟨[.v,.v],a9w,[],[],none⟩)
theorem yY:Env Tryz.prog [q7,uK,BF,OQ,TS] (pE [a7L]):=⟨⟨q9,⟨vG,⟨E3,⟨a7t,⟨aFI,trivial⟩⟩⟩⟩⟩,p5 aFU pP,pH⟩
theorem aGq:pI Tryz.prog a9x:=by
 refine pO yY Tryz.func32 (c:=_) rfl (N:=46) (by kernel_rfl) (ts:=[(4,none),(5,none)]) rfl (fun _ _=>rfl) ?_
 intro⟨O,Z⟩ hs hrow
 dsimp only[Z7,Z8,Z9,pJ,enumH,pD,pG,pL,Nat.reduceAdd] at hs hrow⊢
 have hz:=hs
 obtain⟨z0,hC0⟩:=Option.isSome_iff_exists.1 hz
 try rw[pW hC0]
 clear hz hs
 unfold CY at hC0
 refine oS yY ?_
 refine p4 ?_
 refine oS yY ?_
 refine oX hC0 (fun hC0 hc1=> ?_) (fun hC0 hc1=> ?_)
 ·refine oS yY ?_
  refine oV (pC ?_)
  cases hC0
  exact⟨[(0,176)],by rfl,by rfl,by rfl⟩
 ·refine p6 (oW ?_)
  refine oS yY ?_
  obtain⟨aA,hv1,hw1,hC0⟩:=p8 hC0
  try simp only[go_sem] at hw1
  obtain⟨aB,hv2,hw2,hC0⟩:=p8 hC0
  try simp only[go_sem] at hw2
  refine qK yY ?_ (hp:=by exact And.intro (p7 hv1) ((p7 hv2))) (h:=by simp only[go_sem,hw1,hw2];rfl)
  refine p4 ?_
  refine oS yY ?_
  refine pT ?_
  obtain⟨aC,hy1,hC0⟩:=oY hC0
  refine rH 0 (fun s=>s=(fun x=>⟨[(6,(.val (.list KM) x,some 0))],[(0,.grow 100 2 (List.length x))],1,46,0⟩) aC) ?_ ?_
  ·refine rG hy1 (fun x=>⟨[(6,(.val (.list KM) x.1,some 0)),(7,(.val (.list .str) ((([O.1]:List (List UInt8))++O.2.1)++([O.2.2.1]:List (List UInt8))),some 1)),(8,(.val (.list .str) ((([Z.1]:List (List UInt8))++Z.2.1)++([Z.2.2.1]:List (List UInt8))),some 2)),(9,(.val (.int .i64) x.2,none))],[(0,.grow 100 2 (List.length x.1)),(1,.grow 9 1 (List.length ((([O.1]:List (List UInt8))++O.2.1)++([O.2.2.1]:List (List UInt8))))),(2,.grow 9 1 (List.length ((([Z.1]:List (List UInt8))++Z.2.1)++([Z.2.2.1]:List (List UInt8)))))],3,46,0⟩) ⟨[6,7,8,9],[(0,176),(1,208),(2,240)]⟩ (by rfl) ?_
   intro x1 w1 n1 hC1 hN1
   obtain⟨aD,aE⟩:=x1
   unfold LE at hC1
   dsimp only at hC1⊢
   refine p4 ?_
   refine oS yY ?_
   refine oX hC1 (fun hC1 hc2=> ?_) (fun hC1 hc2=> ?_)
   ·refine p6 (oW (p4 (pT ?_)))
    obtain⟨hg3,hC1⟩:=oU hC1
    obtain⟨hg4,hC1⟩:=oU hC1
    refine qK yY ?_ (hp:=by exact And.intro hg3 (hg4))
    refine oX hC1 (fun hC1 hc3=> ?_) (fun hC1 hc3=> ?_)
    ·obtain⟨hg5,hC1⟩:=oU hC1
     obtain⟨hg6,hC1⟩:=oU hC1
     refine pF yY ?_ (hp:=by exact And.intro hg5 (And.intro (by first|exact rfl|exact trivial) (hg6)))
     refine pB (oW ?_)
     obtain⟨hg7,hC1⟩:=oU hC1
     refine pF yY ?_ (hp:=by exact hg7)
     cases hC1
     exact qG ⟨⟨[6,7,8,9],[(0,0),(1,1),(2,2)]⟩,_,by rfl,hN1⟩
    ·refine p6 (pB (oW ?_))
     obtain⟨hg8,hC1⟩:=oU hC1
     refine pF yY ?_ (hp:=by exact hg8)
     cases hC1
     exact qG ⟨⟨[6,7,8,9],[(0,0),(1,1),(2,2)]⟩,_,by rfl,hN1⟩
   ·refine qW (r7 (qZ ?_))
    cases hC1
    cases hN1
    exact qY ⟨⟨[6],[(0,0)]⟩,by rfl⟩
  ·rintro _ rfl
   dsimp only at hC0⊢
   refine rE (oW ?_)
   refine oS yY ?_
   refine oV ?_
   cases hC0
   exact⟨[(0,0)],by rfl,by rfl,by rfl⟩
attribute [irreducible] CY
def I6 (O:(List UInt8)):Int→Option (Int⊕Int):=fun Z=>
 if (((decide (Z<(List.length O:Int)))==true)=true→0≤Z∧Z<(List.length O:Int)) then
  if ((decide (Z<(List.length O:Int)))&&(!decide ((pA O Z)=(10:Int))))=true then
   if oT (Z+(1:Int)) then
    some (.inl (Z+(1:Int)))
   else none
  else
   some (.inr Z)
 else none
def I7 (O:(List UInt8)):Int→Option (Int⊕Int):=fun Z=>
 if (((decide (Z<(List.length O:Int)))==true)=true→((EB O Z ([42,47]:List UInt8))).isSome=true) then
  if ((decide (Z<(List.length O:Int)))&&(!((decide ((List.length ([42,47]:List UInt8):Int)≤((List.length O:Int)-Z)))&&(decide ((oZ O Z (Z+(List.length ([42,47]:List UInt8):Int)))=([42,47]:List UInt8))))))=true then
   if oT (Z+(1:Int)) then
    some (.inl (Z+(1:Int)))
   else none
  else
   some (.inr Z)
 else none
def EN (O:(List UInt8)):Int→Option (Int⊕(Int⊕Int)):=fun Z=>
 if (decide (Z<(List.length O:Int)))=true then
  if 0≤Z∧Z<(List.length O:Int) then
   if (((decide ((pA O Z)=(32:Int)))==false)=true→0≤Z∧Z<(List.length O:Int)) then
    if ((((decide ((pA O Z)=(32:Int)))||(decide ((pA O Z)=(9:Int))))==false)=true→0≤Z∧Z<(List.length O:Int)) then
     if (((((decide ((pA O Z)=(32:Int)))||(decide ((pA O Z)=(9:Int))))||(decide ((pA O Z)=(10:Int))))==false)=true→0≤Z∧Z<(List.length O:Int)) then
      if ((((decide ((pA O Z)=(32:Int)))||(decide ((pA O Z)=(9:Int))))||(decide ((pA O Z)=(10:Int))))||(decide ((pA O Z)=(13:Int))))=true then
       if oT (Z+(1:Int)) then
        some (.inl (Z+(1:Int)))
       else none
      else
       (EB O Z ([47,47]:List UInt8)).bind fun aA=>
       if ((decide ((List.length ([47,47]:List UInt8):Int)≤((List.length O:Int)-Z)))&&(decide ((oZ O Z (Z+(List.length ([47,47]:List UInt8):Int)))=([47,47]:List UInt8))))=true then
        qD (pR (I6 O) Z) fun aB=>
        some (.inl aB)
       else
        (EB O Z ([47,42]:List UInt8)).bind fun aC=>
        if ((decide ((List.length ([47,42]:List UInt8):Int)≤((List.length O:Int)-Z)))&&(decide ((oZ O Z (Z+(List.length ([47,42]:List UInt8):Int)))=([47,42]:List UInt8))))=true then
         if oT (Z+(2:Int)) then
          qD (pR (I7 O) (Z+(2:Int))) fun aD=>
          if (decide ((List.length O:Int)≤aD))=true then
           some (.inr (.inr (Z)))
          else
           if oT (aD+(2:Int)) then
            some (.inl (aD+(2:Int)))
           else none
         else none
        else
         some (.inr (.inr (Z)))
     else none
    else none
   else none
  else none
 else
  some (.inr (.inl Z))
def D0 (O:(List UInt8)) (Z:Int):Option Int:=
 qT (pR (EN O) Z) fun aA=>
 some (aA)
section
variable (O:(List UInt8)) (Z:Int)
@[reducible] def ZL:List Slot:=[(.val .str O,none),(.val (.int .i64) Z,none)]
@[reducible] def ZM:List Blk:=[]
@[go_sem] def ZN:Ret:=⟨[((D0 O Z)).isSome=true],[(.val (.int .i64) (val (D0 O Z)),none)],[]⟩
def a9E:List Slot→List Blk→Option Ret:=pM (V:=((List UInt8)×Int)) (fun x=>ZL x.1 x.2) (fun x=>ZM) fun x=>ZN x.1 x.2
@[go_sem] theorem aLG:a9E (no_index (ZL O Z)) (no_index ZM)=some (ZN O Z):=pN (fun⟨a0,a1⟩ ⟨b0,b1⟩ h1 h2=>by cases h1;cases h2;rfl) (O,Z)
end
@[reducible,go_sem] def ZO:Nat×Sig:=(44,⟨[.v,.v],a9E,[],[],none⟩)
theorem w7:Env Tryz.prog [q7] (pE [a76]):=⟨⟨q9,trivial⟩,p5 aFZ pP,pH⟩
theorem a9F:pI Tryz.prog ZO:=by
 refine pO w7 Tryz.func44 (c:=_) rfl (N:=78) (by kernel_rfl) (ts:=[(4,none)]) rfl (fun _ _=>rfl) ?_
 intro⟨O,Z⟩ hs hrow
 dsimp only[ZL,ZM,ZN,pJ,enumH,pD,pG,pL,Nat.reduceAdd] at hs hrow⊢
 have hz:=hs
 obtain⟨z0,hC0⟩:=Option.isSome_iff_exists.1 hz
 try rw[pW hC0]
 clear hz hs
 unfold D0 at hC0
 refine oS w7 ?_
 refine p4 (pT ?_)
 obtain⟨y1,hy1,hC0⟩:=sX hC0
 refine rH 0 (fun s=> ∃v,y1= .inl v∧s=(fun x=>⟨[(1,(.val (.int .i64) x,none))],[],0,78,0⟩) v) ?_ ?_
 ·refine rG hy1 (fun x=>⟨[(0,(.val .str O,none)),(1,(.val (.int .i64) x,none))],[],0,78,0⟩) ⟨[0,1],[]⟩ (by rfl) ?_
  intro aA w1 n1 hC1 hN1
  unfold EN at hC1
  dsimp only at hC1⊢
  refine p4 ?_
  refine oS w7 ?_
  refine oX hC1 (fun hC1 hc1=> ?_) (fun hC1 hc1=> ?_)
  ·refine p6 (oW (pT (pT ?_)))
   obtain⟨hg1,hC1⟩:=oU hC1
   obtain⟨hg2,hC1⟩:=oU hC1
   obtain⟨hg3,hC1⟩:=oU hC1
   obtain⟨hg4,hC1⟩:=oU hC1
   refine oS w7 ?_ (hp:=by exact And.intro hg1 (And.intro (fun hh=>hh) (And.intro (fun hh=>hh) (And.intro hg2 (And.intro (fun hh=>hh) (And.intro (fun hh=>sF hh) (And.intro (fun hh=>hh) (And.intro (fun hh=>hh) (And.intro hg3 (And.intro (fun hh=>hh) (And.intro (fun hh=>sF hh) (And.intro (fun hh=>hh) (And.intro (fun hh=>hh) (And.intro hg4 (And.intro (fun hh=>hh) ((fun hh=>sF hh)))))))))))))))))
   refine oX hC1 (fun hC1 hc2=> ?_) (fun hC1 hc2=> ?_)
   ·obtain⟨hg5,hC1⟩:=oU hC1
    refine pF w7 ?_ (hp:=by exact hg5)
    refine pB (pB ?_)
    cases hC1
    exact qG ⟨⟨[0,1],[]⟩,_,by rfl,hN1⟩
   ·obtain⟨aB,hv6,hw6,hC1⟩:=p8 hC1
    try simp only[go_sem] at hw6
    refine oS w7 ?_ (hp:=by exact(p7 hv6)) (h:=by simp only[go_sem,hw6];rfl)
    refine oX hC1 (fun hC1 hc3=> ?_) (fun hC1 hc3=> ?_)
    ·refine pT ?_
     obtain⟨aC,hy2,hC1⟩:=oY hC1
     refine rH 3 (fun s=>s=(fun x=>⟨[(0,(.val .str O,none)),(1,(.val (.int .i64) x,none))],[],0,78,0⟩) aC) ?_ ?_
     ·refine rG hy2 (fun x=>⟨[(0,(.val .str O,none)),(1,(.val (.int .i64) x,none))],[],0,78,0⟩) ⟨[0,1],[]⟩ (by rfl) ?_
      intro aD w2 n2 hC2 hN2
      unfold I6 at hC2
      dsimp only at hC2⊢
      refine p4 ?_
      obtain⟨hg7,hC2⟩:=oU hC2
      refine oS w7 ?_ (hp:=by exact And.intro (fun hh=>hh) (And.intro (fun hh=>hh) (And.intro hg7 (And.intro (fun hh=>hh) ((fun hh=>pZ hh))))))
      refine oX hC2 (fun hC2 hc4=> ?_) (fun hC2 hc4=> ?_)
      ·refine p6 (oW (pT ?_))
       obtain⟨hg8,hC2⟩:=oU hC2
       refine pF w7 ?_ (hp:=by exact hg8)
       refine pB ?_
       cases hC2
       exact qG ⟨⟨[0,1],[]⟩,_,by rfl,hN2⟩
      ·refine qW (r7 (qZ ?_))
       cases hC2
       cases hN2
       exact qY ⟨⟨[0,1],[]⟩,by rfl⟩
     ·rintro _ rfl
      dsimp only at hC1⊢
      refine rE (pB (pB ?_))
      cases hC1
      exact qG ⟨⟨[0,1],[]⟩,_,by rfl,hN1⟩
    ·obtain⟨aE,hv9,hw9,hC1⟩:=p8 hC1
     try simp only[go_sem] at hw9
     refine oS w7 ?_ (hp:=by exact(p7 hv9)) (h:=by simp only[go_sem,hw9];rfl)
     refine oX hC1 (fun hC1 hc5=> ?_) (fun hC1 hc5=> ?_)
     ·obtain⟨hg10,hC1⟩:=oU hC1
      refine oS w7 ?_ (hp:=by exact hg10)
      refine p4 (pT ?_)
      obtain⟨aF,hy2,hC1⟩:=oY hC1
      refine rH 5 (fun s=>s=(fun x=>⟨[(0,(.val .str O,none)),(1,(.val (.int .i64) aA,none)),(5,(.val (.int .i64) x,none))],[],0,78,0⟩) aF) ?_ ?_
      ·refine rG hy2 (fun x=>⟨[(0,(.val .str O,none)),(1,(.val (.int .i64) aA,none)),(5,(.val (.int .i64) x,none))],[],0,78,0⟩) ⟨[0,1,5],[]⟩ (by rfl) ?_
       intro aG w2 n2 hC2 hN2
       unfold I7 at hC2
       dsimp only at hC2⊢
       refine p4 ?_
       obtain⟨hg11,hC2⟩:=oU hC2
       refine oS w7 ?_ (hp:=by exact And.intro (fun hh=>hh) (And.intro (fun hh=>hh) (And.intro hg11 (And.intro (fun hh=>hh) ((fun hh=>pZ hh))))))
       refine oX hC2 (fun hC2 hc6=> ?_) (fun hC2 hc6=> ?_)
       ·refine p6 (oW (pT ?_))
        obtain⟨hg12,hC2⟩:=oU hC2
        refine pF w7 ?_ (hp:=by exact hg12)
        refine pB ?_
        cases hC2
        exact qG ⟨⟨[0,1,5],[]⟩,_,by rfl,hN2⟩
       ·refine qW (r7 (qZ ?_))
        cases hC2
        cases hN2
        exact qY ⟨⟨[0,1,5],[]⟩,by rfl⟩
      ·rintro _ rfl
       dsimp only at hC1⊢
       refine rE (oW (p4 ?_))
       refine oS w7 ?_
       refine oX hC1 (fun hC1 hc7=> ?_) (fun hC1 hc7=> ?_)
       ·refine oS w7 ?_
        refine oV (pC (pS (pS (sK (sJ (pS (pC ?_)))))))
        cases hC1
        cases hN1
        dsimp only at hC0
        cases hC0
        exact⟨[],by rfl,by rfl,by rfl⟩
       ·refine p6 (oW ?_)
        obtain⟨hg13,hC1⟩:=oU hC1
        refine pF w7 ?_ (hp:=by exact hg13)
        refine pB (pB ?_)
        cases hC1
        exact qG ⟨⟨[0,1],[]⟩,_,by rfl,hN1⟩
     ·refine oS w7 ?_
      refine oV (pS (pS (sK (sJ (pS (pC ?_))))))
      cases hC1
      cases hN1
      dsimp only at hC0
      cases hC0
      exact⟨[],by rfl,by rfl,by rfl⟩
  ·refine qW (r7 (qZ ?_))
   cases hC1
   cases hN1
   exact qY ⟨⟨[1],[]⟩,_,rfl,by rfl⟩
 ·rintro _ ⟨aH,rfl,rfl⟩
  dsimp only at hC0⊢
  refine rE (oW ?_)
  refine oS w7 ?_
  refine oV ?_
  cases hC0
  exact⟨[],by rfl,by rfl,by rfl⟩
attribute [irreducible] D0
end
end Go.Proofs.YtfchbnahjcdiiaaGreatDoor
namespace Go.Proofs.YtfchbnahjcdiiaaGreatDoor
open Vc
set_option maxRecDepth 100000
set_option maxHeartbeats 4000000
set_option linter.unusedSimpArgs false
set_option linter.unusedVariables false
noncomputable section
def LF (O:(List UInt8)):Int→Option (Int⊕(Unit⊕Bool)):=fun Z=>
 if (decide (Z<(List.length O:Int)))=true then
  if 0≤Z∧Z<(List.length O:Int) then
   if ((((!((decide ((97:Int)≤(pA O Z)))&&(decide ((pA O Z)≤(122:Int)))))&&(!((decide ((48:Int)≤(pA O Z)))&&(decide ((pA O Z)≤(57:Int))))))&&(!decide ((pA O Z)=(45:Int))))&&((decide ((pA O Z)<(65:Int)))||(decide ((90:Int)<(pA O Z)))))=true then
    some (.inr (.inr (false)))
   else
    if oT (Z+(1:Int)) then
     some (.inl (Z+(1:Int)))
    else none
  else none
 else
  some (.inr (.inl ()))
def EM (O:(List UInt8)):Option Bool:=
 qT (pR (LF O) (0:Int)) fun _=>
 some (((decide ((1:Int)≤(List.length O:Int)))&&(decide ((List.length O:Int)≤(40:Int)))))
section
variable (O:(List UInt8))
@[reducible] def ZA:List Slot:=[(.val .str O,none)]
@[reducible] def ZB:List Blk:=[]
@[go_sem] def ZC:Ret:=⟨[((EM O)).isSome=true],[(.val .bool (val (EM O)),none)],[]⟩
def a9y:List Slot→List Blk→Option Ret:=pM (V:=(List UInt8)) (fun x=>ZA x) (fun x=>ZB) fun x=>ZC x
@[go_sem] theorem aLD:a9y (no_index (ZA O)) (no_index ZB)=some (ZC O):=pN (fun a0 b0 h1 h2=>by cases h1;cases h2;rfl) O
end
@[reducible,go_sem] def a9z:Nat×Sig:=(77,⟨[.v],a9y,[],[],none⟩)
theorem CZ:Env Tryz.prog [q7] (pE [VL,W3]):=⟨⟨q9,trivial⟩,p5 a8f (p5 a8o pP),pH⟩
theorem aGr:pI Tryz.prog a9z:=by
 refine pO CZ Tryz.func77 (c:=_) rfl (N:=42) (by kernel_rfl) (ts:=[(2,none)]) rfl (fun _ _=>rfl) ?_
 intro O hs hrow
 dsimp only[ZA,ZB,ZC,pJ,enumH,pD,pG,pL,Nat.reduceAdd] at hs hrow⊢
 have hz:=hs
 obtain⟨z0,hC0⟩:=Option.isSome_iff_exists.1 hz
 try rw[pW hC0]
 clear hz hs
 unfold EM at hC0
 refine oS CZ ?_
 refine p4 ?_
 refine oS CZ ?_
 refine pT ?_
 obtain⟨y1,hy1,hC0⟩:=sX hC0
 refine rH 0 (fun s=> ∃v,y1= .inl v∧s=(fun _=>⟨[(0,(.val .str O,none))],[],0,42,0⟩) v) ?_ ?_
 ·refine rG hy1 (fun x=>⟨[(0,(.val .str O,none)),(3,(.val (.int .i64) x,none))],[],0,42,0⟩) ⟨[0,3],[]⟩ (by rfl) ?_
  intro Z w1 n1 hC1 hN1
  unfold LF at hC1
  dsimp only at hC1⊢
  refine p4 ?_
  refine oS CZ ?_
  refine oX hC1 (fun hC1 hc1=> ?_) (fun hC1 hc1=> ?_)
  ·refine p6 (oW (p4 (pT ?_)))
   obtain⟨hg1,hC1⟩:=oU hC1
   refine oS CZ ?_ (hp:=by exact hg1)
   refine oS CZ ?_ (hp:=by exact And.intro (fun hh=>hh) (And.intro (fun hh=>hh) (And.intro (fun hh=>pZ hh) (And.intro (fun hh=>hh) (And.intro (fun hh=>pZ hh) (And.intro (fun hh=>hh) (And.intro (fun hh=>hh) (And.intro (fun hh=>hh) (And.intro (fun hh=>hh) (And.intro (fun hG hh=>y9 hG hh) ((fun hh=>pZ hh))))))))))))
   refine oX hC1 (fun hC1 hc2=> ?_) (fun hC1 hc2=> ?_)
   ·refine oS CZ ?_
    refine oV (pS (pC (sK (sJ (pS (pC ?_))))))
    cases hC1
    cases hN1
    dsimp only at hC0
    cases hC0
    exact⟨[],by rfl,by rfl,by rfl⟩
   ·refine p6 (pB (oW ?_))
    obtain⟨hg2,hC1⟩:=oU hC1
    refine pF CZ ?_ (hp:=by exact hg2)
    cases hC1
    exact qG ⟨⟨[0,3],[]⟩,_,by rfl,hN1⟩
  ·refine qW (r7 (qZ ?_))
   cases hC1
   cases hN1
   exact qY ⟨⟨[0],[]⟩,_,rfl,by rfl⟩
 ·rintro _ ⟨v,rfl,rfl⟩
  dsimp only at hC0⊢
  refine rE (oW ?_)
  refine oS CZ ?_ (hp:=by exact And.intro (fun hh=>hh) (And.intro (fun hh=>hh) ((fun hh=>pZ hh))))
  refine oV ?_
  cases hC0
  exact⟨[],by rfl,by rfl,by rfl⟩
attribute [irreducible] EM
def GE (O:(List UInt8)) (Z:(List UInt8)):Option ((List UInt8)×Bool):=
 (HY O Z).bind fun aA=>
 some ((aA.1,aA.2))
section
variable (O:(List UInt8)) (Z:(List UInt8))
@[reducible] def ZP:List Slot:=[(.val .str O,none),(.val .str Z,none)]
@[reducible] def ZQ:List Blk:=[]
@[go_sem] def ZR:Ret:=⟨[((GE O Z)).isSome=true],[(.val .str ((val (GE O Z)).1),none),(.val .bool ((val (GE O Z)).2),none)],[]⟩
def a9G:List Slot→List Blk→Option Ret:=pM (V:=((List UInt8)×(List UInt8))) (fun x=>ZP x.1 x.2) (fun x=>ZQ) fun x=>ZR x.1 x.2
@[go_sem] theorem aLH:a9G (no_index (ZP O Z)) (no_index ZQ)=some (ZR O Z):=pN (fun⟨a0,a1⟩ ⟨b0,b1⟩ h1 h2=>by cases h1;cases h2;rfl) (O,Z)
end
@[reducible,go_sem] def a9H:Nat×Sig:=(86,⟨[.v,.v],a9G,[],[],none⟩)
theorem ZS:Env Tryz.prog [] (pE [a8s]):=⟨trivial,p5 aF5 pP,pH⟩
theorem aGu:pI Tryz.prog a9H:=by
 refine pO ZS Tryz.func86 (c:=_) rfl (N:=11) (by kernel_rfl) (ts:=[(4,none),(5,none)]) rfl (fun _ _=>rfl) ?_
 intro⟨O,Z⟩ hs hrow
 dsimp only[ZP,ZQ,ZR,pJ,enumH,pD,pG,pL,Nat.reduceAdd] at hs hrow⊢
 have hz:=hs
 obtain⟨z0,hC0⟩:=Option.isSome_iff_exists.1 hz
 try rw[pW hC0]
 clear hz hs
 unfold GE at hC0
 refine oS ZS ?_
 obtain⟨aA,hv1,hw1,hC0⟩:=p8 hC0
 try simp only[go_sem] at hw1
 refine oS ZS ?_ (hp:=by exact(p7 hv1)) (h:=by simp only[go_sem,hw1];rfl)
 refine oV ?_
 cases hC0
 exact⟨[],by rfl,by rfl,by rfl⟩
attribute [irreducible] GE
def a9I (O:Int) (Z:(List UInt8)) (aA:Int):Int→Option (Int⊕(Unit⊕Int)):=fun aB=>
 if (decide (aB<(List.length Z:Int)))=true then
  if 0≤aB∧aB<(List.length Z:Int) then
   if (decide ((pA Z aB)=aA))=true then
    some (.inr (.inr (aB)))
   else
    if (((!decide (O=(4:Int)))==true)=true→0≤aB∧aB<(List.length Z:Int)) then
     if ((!decide (O=(4:Int)))&&(decide ((pA Z aB)=(92:Int))))=true then
      if oT (aB+(1:Int)) then
       if oT ((aB+(1:Int))+(1:Int)) then
        some (.inl ((aB+(1:Int))+(1:Int)))
       else none
      else none
     else
      if oT (aB+(1:Int)) then
       some (.inl (aB+(1:Int)))
      else none
    else none
  else none
 else
  some (.inr (.inl ()))
def GF (O:Int) (Z:(List UInt8)) (aA:Int):Option Int:=
 if (!((decide ((1:Int)≤O))&&(decide (O≤(4:Int)))))=true then
  some ((-1:Int))
 else
  qT (pR (a9I O Z aA) (0:Int)) fun _=>
  some ((-1:Int))
section
variable (O:Int) (Z:(List UInt8)) (aA:Int)
@[reducible] def ZT:List Slot:=[(.val (.int .i64) O,none),(.val .str Z,none),(.val (.int .u8) aA,none)]
@[reducible] def ZU:List Blk:=[]
@[go_sem] def ZV:Ret:=⟨[((GF O Z aA)).isSome=true],[(.val (.int .i64) (val (GF O Z aA)),none)],[]⟩
def a9J:List Slot→List Blk→Option Ret:=pM (V:=(Int×(List UInt8)×Int)) (fun x=>ZT x.1 x.2.1 x.2.2) (fun x=>ZU) fun x=>ZV x.1 x.2.1 x.2.2
@[go_sem] theorem aLI:a9J (no_index (ZT O Z aA)) (no_index ZU)=some (ZV O Z aA):=pN (fun⟨a0,a1,a2⟩ ⟨b0,b1,b2⟩ h1 h2=>by cases h1;cases h2;rfl) (O,Z,aA)
end
@[reducible,go_sem] def a9K:Nat×Sig:=(88,⟨[.v,.v,.v],a9J,[],[],none⟩)
theorem yZ:Env Tryz.prog [q7] (pE [WG]):=⟨⟨q9,trivial⟩,p5 a8v pP,pH⟩
theorem aGv:pI Tryz.prog a9K:=by
 refine pO yZ Tryz.func88 (c:=_) rfl (N:=33) (by kernel_rfl) (ts:=[(6,none)]) rfl (fun _ _=>rfl) ?_
 intro⟨O,Z,aA⟩ hs hrow
 dsimp only[ZT,ZU,ZV,pJ,enumH,pD,pG,pL,Nat.reduceAdd] at hs hrow⊢
 have hz:=hs
 obtain⟨z0,hC0⟩:=Option.isSome_iff_exists.1 hz
 try rw[pW hC0]
 clear hz hs
 unfold GF at hC0
 refine oS yZ ?_
 refine p4 ?_
 refine oS yZ ?_
 refine oX hC0 (fun hC0 hc1=> ?_) (fun hC0 hc1=> ?_)
 ·refine oS yZ ?_
  refine oV (pC ?_)
  cases hC0
  exact⟨[],by rfl,by rfl,by rfl⟩
 ·refine p6 (oW (p4 ?_))
  refine oS yZ ?_
  refine pT ?_
  obtain⟨y1,hy1,hC0⟩:=sX hC0
  refine rH 0 (fun s=> ∃v,y1= .inl v∧s=(fun _=>⟨[],[],0,33,0⟩) v) ?_ ?_
  ·refine rG hy1 (fun x=>⟨[(0,(.val (.int .i64) O,none)),(1,(.val .str Z,none)),(2,(.val (.int .u8) aA,none)),(7,(.val (.int .i64) x,none))],[],0,33,0⟩) ⟨[0,1,2,7],[]⟩ (by rfl) ?_
   intro aB w1 n1 hC1 hN1
   unfold a9I at hC1
   dsimp only at hC1⊢
   refine p4 ?_
   refine oS yZ ?_
   refine oX hC1 (fun hC1 hc2=> ?_) (fun hC1 hc2=> ?_)
   ·refine p6 (oW (p4 (pT (p4 ?_))))
    obtain⟨hg1,hC1⟩:=oU hC1
    refine oS yZ ?_ (hp:=by exact hg1)
    refine oX hC1 (fun hC1 hc3=> ?_) (fun hC1 hc3=> ?_)
    ·refine oS yZ ?_
     refine oV (pC (pS (pC (sK (sJ (pS (pC ?_)))))))
     cases hC1
     cases hN1
     dsimp only at hC0
     cases hC0
     exact⟨[],by rfl,by rfl,by rfl⟩
    ·refine p6 (oW ?_)
     obtain⟨hg2,hC1⟩:=oU hC1
     refine oS yZ ?_ (hp:=by exact And.intro (fun hh=>hh) (And.intro (fun hh=>hh) (And.intro hg2 (And.intro (fun hh=>hh) ((fun hh=>pZ hh))))))
     refine oX hC1 (fun hC1 hc4=> ?_) (fun hC1 hc4=> ?_)
     ·obtain⟨hg3,hC1⟩:=oU hC1
      refine pF yZ ?_ (hp:=by exact hg3)
      refine pB (oW ?_)
      obtain⟨hg4,hC1⟩:=oU hC1
      refine pF yZ ?_ (hp:=by exact hg4)
      cases hC1
      exact qG ⟨⟨[0,1,2,7],[]⟩,_,by rfl,hN1⟩
     ·refine p6 (pB (oW ?_))
      obtain⟨hg5,hC1⟩:=oU hC1
      refine pF yZ ?_ (hp:=by exact hg5)
      cases hC1
      exact qG ⟨⟨[0,1,2,7],[]⟩,_,by rfl,hN1⟩
   ·refine qW (r7 (qZ ?_))
    cases hC1
    cases hN1
    exact qY ⟨⟨[],[]⟩,_,rfl,by rfl⟩
  ·rintro _ ⟨v,rfl,rfl⟩
   dsimp only at hC0⊢
   refine rE (oW ?_)
   refine oS yZ ?_
   refine oV ?_
   cases hC0
   exact⟨[],by rfl,by rfl,by rfl⟩
attribute [irreducible] GF
def LG (O:(List UInt8)):Int→Option (Int⊕(Unit⊕Int)):=fun Z=>
 if (decide (Z≤(4:Int)))=true then
  (L3 Z).bind fun aA=>
  if (decide ((pY .str ([([110,101,119]:List UInt8),([102,117,122,122,121]:List UInt8),([116,114,97,110,115,108,97,116,101,100]:List UInt8),([114,101,118,105,101,119,101,100]:List UInt8),([111,98,115,111,108,101,116,101]:List UInt8)]:List (List UInt8)) Z)=O))=true then
   some (.inr (.inr (Z)))
  else
   if oT (Z+(1:Int)) then
    some (.inl (Z+(1:Int)))
   else none
 else
  some (.inr (.inl ()))
def D1 (O:(List UInt8)):Option Int:=
 qT (pR (LG O) (0:Int)) fun _=>
 some ((-1:Int))
section
variable (O:(List UInt8))
@[reducible] def ZW:List Slot:=[(.val .str O,none)]
@[reducible] def ZX:List Blk:=[]
@[go_sem] def ZY:Ret:=⟨[((D1 O)).isSome=true],[(.val (.int .i64) (val (D1 O)),none)],[]⟩
def a9L:List Slot→List Blk→Option Ret:=pM (V:=(List UInt8)) (fun x=>ZW x) (fun x=>ZX) fun x=>ZY x
@[go_sem] theorem aLJ:a9L (no_index (ZW O)) (no_index ZX)=some (ZY O):=pN (fun a0 b0 h1 h2=>by cases h1;cases h2;rfl) O
end
@[reducible,go_sem] def a9M:Nat×Sig:=(103,⟨[.v],a9L,[],[],none⟩)
theorem EO:Env Tryz.prog [] (pE [a8D]):=⟨trivial,p5 aF7 pP,pH⟩
theorem aGw:pI Tryz.prog a9M:=by
 refine pO EO Tryz.func103 (c:=_) rfl (N:=13) (by kernel_rfl) (ts:=[(2,none)]) rfl (fun _ _=>rfl) ?_
 intro O hs hrow
 dsimp only[ZW,ZX,ZY,pJ,enumH,pD,pG,pL,Nat.reduceAdd] at hs hrow⊢
 have hz:=hs
 obtain⟨z0,hC0⟩:=Option.isSome_iff_exists.1 hz
 try rw[pW hC0]
 clear hz hs
 unfold D1 at hC0
 refine oS EO ?_
 refine p4 ?_
 refine oS EO ?_
 refine pT ?_
 obtain⟨y1,hy1,hC0⟩:=sX hC0
 refine rH 0 (fun s=> ∃v,y1= .inl v∧s=(fun _=>⟨[],[],0,13,0⟩) v) ?_ ?_
 ·refine rG hy1 (fun x=>⟨[(0,(.val .str O,none)),(3,(.val (.int .i64) x,none))],[],0,13,0⟩) ⟨[0,3],[]⟩ (by rfl) ?_
  intro Z w1 n1 hC1 hN1
  unfold LG at hC1
  dsimp only at hC1⊢
  refine p4 ?_
  refine oS EO ?_
  refine oX hC1 (fun hC1 hc1=> ?_) (fun hC1 hc1=> ?_)
  ·refine p6 (oW (p4 (pT ?_)))
   obtain⟨aA,hv1,hw1,hC1⟩:=p8 hC1
   try simp only[go_sem] at hw1
   refine oS EO ?_ (hp:=by exact(p7 hv1)) (h:=by simp only[go_sem,hw1];rfl)
   refine oX hC1 (fun hC1 hc2=> ?_) (fun hC1 hc2=> ?_)
   ·refine oS EO ?_
    refine oV (pS (pC (sK (sJ (pS (pC ?_))))))
    cases hC1
    cases hN1
    dsimp only at hC0
    cases hC0
    exact⟨[],by rfl,by rfl,by rfl⟩
   ·refine p6 (pB (oW ?_))
    obtain⟨hg2,hC1⟩:=oU hC1
    refine pF EO ?_ (hp:=by exact hg2)
    cases hC1
    exact qG ⟨⟨[0,3],[]⟩,_,by rfl,hN1⟩
  ·refine qW (r7 (qZ ?_))
   cases hC1
   cases hN1
   exact qY ⟨⟨[],[]⟩,_,rfl,by rfl⟩
 ·rintro _ ⟨v,rfl,rfl⟩
  dsimp only at hC0⊢
  refine rE (oW ?_)
  refine oS EO ?_
  refine oV ?_
  cases hC0
  exact⟨[],by rfl,by rfl,by rfl⟩
attribute [irreducible] D1
def LH (O:(List UInt8)):Int→Option (Int⊕(Unit⊕Bool)):=fun Z=>
 if (decide (Z<(List.length O:Int)))=true then
  if 0≤Z∧Z<(List.length O:Int) then
   if (((((!((decide ((97:Int)≤(pA O Z)))&&(decide ((pA O Z)≤(122:Int)))))&&(!((decide ((48:Int)≤(pA O Z)))&&(decide ((pA O Z)≤(57:Int))))))&&(!decide ((pA O Z)=(45:Int))))&&(!decide ((pA O Z)=(95:Int))))&&(!decide ((pA O Z)=(46:Int))))=true then
    some (.inr (.inr (false)))
   else
    if oT (Z+(1:Int)) then
     some (.inl (Z+(1:Int)))
    else none
  else none
 else
  some (.inr (.inl ()))
def EP (O:(List UInt8)):Option Bool:=
 if ((((decide ((List.length O:Int)<(1:Int)))||(decide ((40:Int)<(List.length O:Int))))==false)=true→0≤(0:Int)∧(0:Int)<(List.length O:Int)) then
  if (((decide ((List.length O:Int)<(1:Int)))||(decide ((40:Int)<(List.length O:Int))))||(!((decide ((97:Int)≤(pA O (0:Int))))&&(decide ((pA O (0:Int))≤(122:Int))))))=true then
   some (false)
  else
   qT (pR (LH O) (1:Int)) fun _=>
   some (true)
 else none
section
variable (O:(List UInt8))
@[reducible] def a0d:List Slot:=[(.val .str O,none)]
@[reducible] def a0e:List Blk:=[]
@[go_sem] def a0f:Ret:=⟨[((EP O)).isSome=true],[(.val .bool (val (EP O)),none)],[]⟩
def a9P:List Slot→List Blk→Option Ret:=pM (V:=(List UInt8)) (fun x=>a0d x) (fun x=>a0e) fun x=>a0f x
@[go_sem] theorem aLL:a9P (no_index (a0d O)) (no_index a0e)=some (a0f O):=pN (fun a0 b0 h1 h2=>by cases h1;cases h2;rfl) O
end
@[reducible,go_sem] def a0g:Nat×Sig:=(104,⟨[.v],a9P,[],[],none⟩)
theorem AQ:Env Tryz.prog [q7] (pE [VL,W3]):=⟨⟨q9,trivial⟩,p5 a8f (p5 a8o pP),pH⟩
theorem a9Q:pI Tryz.prog a0g:=by
 refine pO AQ Tryz.func104 (c:=_) rfl (N:=48) (by kernel_rfl) (ts:=[(2,none)]) rfl (fun _ _=>rfl) ?_
 intro O hs hrow
 dsimp only[a0d,a0e,a0f,pJ,enumH,pD,pG,pL,Nat.reduceAdd] at hs hrow⊢
 have hz:=hs
 obtain⟨z0,hC0⟩:=Option.isSome_iff_exists.1 hz
 try rw[pW hC0]
 clear hz hs
 unfold EP at hC0
 refine oS AQ ?_
 refine p4 ?_
 obtain⟨hg1,hC0⟩:=oU hC0
 refine oS AQ ?_ (hp:=by exact And.intro (fun hh=>hh) (And.intro (fun hh=>hh) (And.intro (fun hh=>sF hh) (And.intro (fun hh=>hh) (And.intro hg1 (And.intro (fun hh=>hh) (And.intro (fun hh=>hh) ((fun hh=>sF hh)))))))))
 refine oX hC0 (fun hC0 hc1=> ?_) (fun hC0 hc1=> ?_)
 ·refine oS AQ ?_
  refine oV (pC ?_)
  cases hC0
  exact⟨[],by rfl,by rfl,by rfl⟩
 ·refine p6 (oW (p4 ?_))
  refine oS AQ ?_
  refine pT ?_
  obtain⟨y1,hy1,hC0⟩:=sX hC0
  refine rH 0 (fun s=> ∃v,y1= .inl v∧s=(fun _=>⟨[],[],0,48,0⟩) v) ?_ ?_
  ·refine rG hy1 (fun x=>⟨[(0,(.val .str O,none)),(3,(.val (.int .i64) x,none))],[],0,48,0⟩) ⟨[0,3],[]⟩ (by rfl) ?_
   intro Z w1 n1 hC1 hN1
   unfold LH at hC1
   dsimp only at hC1⊢
   refine p4 ?_
   refine oS AQ ?_
   refine oX hC1 (fun hC1 hc2=> ?_) (fun hC1 hc2=> ?_)
   ·refine p6 (oW (p4 (pT ?_)))
    obtain⟨hg2,hC1⟩:=oU hC1
    refine oS AQ ?_ (hp:=by exact hg2)
    refine oS AQ ?_ (hp:=by exact And.intro (fun hh=>hh) (And.intro (fun hh=>hh) (And.intro (fun hh=>pZ hh) (And.intro (fun hh=>hh) (And.intro (fun hh=>pZ hh) (And.intro (fun hh=>hh) (And.intro (fun hh=>pZ hh) (And.intro (fun hh=>hh) ((fun hh=>pZ hh))))))))))
    refine oX hC1 (fun hC1 hc3=> ?_) (fun hC1 hc3=> ?_)
    ·refine oS AQ ?_
     refine oV (pS (pC (sK (sJ (pS (pC ?_))))))
     cases hC1
     cases hN1
     dsimp only at hC0
     cases hC0
     exact⟨[],by rfl,by rfl,by rfl⟩
    ·refine p6 (pB (oW ?_))
     obtain⟨hg3,hC1⟩:=oU hC1
     refine pF AQ ?_ (hp:=by exact hg3)
     cases hC1
     exact qG ⟨⟨[0,3],[]⟩,_,by rfl,hN1⟩
   ·refine qW (r7 (qZ ?_))
    cases hC1
    cases hN1
    exact qY ⟨⟨[],[]⟩,_,rfl,by rfl⟩
  ·rintro _ ⟨v,rfl,rfl⟩
   dsimp only at hC0⊢
   refine rE (oW ?_)
   refine oS AQ ?_
   refine oV ?_
   cases hC0
   exact⟨[],by rfl,by rfl,by rfl⟩
attribute [irreducible] EP
def I5 (O:(List UInt8)):Option Unit:=
 if (((decide ((List.length O:Int)≤(4000:Int)))==true)=true→((KZ O)).isSome=true) then
  some (())
 else none
section
variable (O:(List UInt8))
@[reducible] def ZH:List Slot:=[(.val .str O,none)]
@[reducible] def ZI:List Blk:=[]
@[go_sem] def ZJ:Ret:=⟨[((I5 O)).isSome=true],[(.val .bool ((decide ((List.length O:Int)≤(4000:Int)))&&(Lib.validD O)),none)],[]⟩
def a9C:List Slot→List Blk→Option Ret:=pM (V:=(List UInt8)) (fun x=>ZH x) (fun x=>ZI) fun x=>ZJ x
@[go_sem] theorem aLF:a9C (no_index (ZH O)) (no_index ZI)=some (ZJ O):=pN (fun a0 b0 h1 h2=>by cases h1;cases h2;rfl) O
end
@[reducible,go_sem] def a9D:Nat×Sig:=(111,⟨[.v],a9C,[],[],none⟩)
theorem ZK:Env Tryz.prog [q7] (pE [a8x]):=⟨⟨q9,trivial⟩,p5 aF6 pP,pH⟩
theorem aGt:pI Tryz.prog a9D:=by
 refine pO ZK Tryz.func111 (c:=_) rfl (N:=10) (by kernel_rfl) (ts:=[(2,none)]) rfl (fun _ _=>rfl) ?_
 intro O hs hrow
 dsimp only[ZH,ZI,ZJ,pJ,enumH,pD,pG,pL,Nat.reduceAdd] at hs hrow⊢
 have hz:=hs
 obtain⟨z0,hC0⟩:=Option.isSome_iff_exists.1 hz
 try rw[pW hC0]
 clear hz hs
 unfold I5 at hC0
 refine oS ZK ?_
 obtain⟨hg1,hC0⟩:=oU hC0
 refine oS ZK ?_ (hp:=by exact And.intro (fun hh=>hh) (And.intro hg1 ((fun hh=>pZ hh))))
 refine oV ?_
 cases hC0
 exact⟨[],by rfl,by rfl,by rfl⟩
attribute [irreducible] I5
def D2 (O:(List (List UInt8))) (Z:(List UInt8)):Option Bool:=
 (yX O Z).bind fun aA=>
 some ((decide ((0:Int)≤aA)))
section
variable (O:(List (List UInt8))) (Z:(List UInt8))
@[reducible] def ZZ:List Slot:=[(.val (.list .str) O,none),(.val .str Z,none)]
@[reducible] def a0a:List Blk:=[]
@[go_sem] def a0b:Ret:=⟨[((D2 O Z)).isSome=true],[(.val .bool (val (D2 O Z)),none)],[]⟩
def a9N:List Slot→List Blk→Option Ret:=pM (V:=((List (List UInt8))×(List UInt8))) (fun x=>ZZ x.1 x.2) (fun x=>a0a) fun x=>a0b x.1 x.2
@[go_sem] theorem aLK:a9N (no_index (ZZ O Z)) (no_index a0a)=some (a0b O Z):=pN (fun⟨a0,a1⟩ ⟨b0,b1⟩ h1 h2=>by cases h1;cases h2;rfl) (O,Z)
end
@[reducible,go_sem] def P2:Nat×Sig:=(126,⟨[.v,.v],a9N,[],[],none⟩)
theorem a0c:Env Tryz.prog [] (pE [OX]):=⟨trivial,p5 a8B pP,pH⟩
theorem a9O:pI Tryz.prog P2:=by
 refine pO a0c Tryz.func126 (c:=_) rfl (N:=9) (by kernel_rfl) (ts:=[(4,none)]) rfl (fun _ _=>rfl) ?_
 intro⟨O,Z⟩ hs hrow
 dsimp only[ZZ,a0a,a0b,pJ,enumH,pD,pG,pL,Nat.reduceAdd] at hs hrow⊢
 have hz:=hs
 obtain⟨z0,hC0⟩:=Option.isSome_iff_exists.1 hz
 try rw[pW hC0]
 clear hz hs
 unfold D2 at hC0
 refine oS a0c ?_
 obtain⟨aA,hv1,hw1,hC0⟩:=p8 hC0
 try simp only[go_sem] at hw1
 refine oS a0c ?_ (hp:=by exact(p7 hv1)) (h:=by simp only[go_sem,hw1];rfl)
 refine oV ?_
 cases hC0
 exact⟨[],by rfl,by rfl,by rfl⟩
attribute [irreducible] D2
end
end Go.Proofs.YtfchbnahjcdiiaaGreatDoor
namespace Go.Proofs.YtfchbnahjcdiiaaGreatDoor
open Vc
set_option maxRecDepth 100000
set_option maxHeartbeats 4000000
set_option linter.unusedSimpArgs false
set_option linter.unusedVariables false
noncomputable section
def GG (O:Int) (Z:(List UInt8)) (aA:Int):Int→Option (Int⊕(Unit⊕Int)):=fun aB=>
 if (decide (aB<(List.length Z:Int)))=true then
  if 0≤aB∧aB<(List.length Z:Int) then
   if (decide ((pA Z aB)=aA))=true then
    some (.inr (.inr (aB)))
   else
    if (((!decide (O=(4:Int)))==true)=true→0≤aB∧aB<(List.length Z:Int)) then
     if ((!decide (O=(4:Int)))&&(decide ((pA Z aB)=(92:Int))))=true then
      if oT (aB+(1:Int)) then
       if oT ((aB+(1:Int))+(1:Int)) then
        some (.inl ((aB+(1:Int))+(1:Int)))
       else none
      else none
     else
      if oT (aB+(1:Int)) then
       some (.inl (aB+(1:Int)))
      else none
    else none
  else none
 else
  some (.inr (.inl ()))
def D3 (O:Int) (Z:(List UInt8)) (aA:Int):Option Int:=
 if (!((decide ((1:Int)≤O))&&(decide (O≤(4:Int)))))=true then
  some ((-1:Int))
 else
  qT (pR (GG O Z aA) (0:Int)) fun _=>
  some ((-1:Int))
section
variable (O:Int) (Z:(List UInt8)) (aA:Int)
@[reducible] def a0h:List Slot:=[(.val (.int .i64) O,none),(.val .str Z,none),(.val (.int .u8) aA,none)]
@[reducible] def a0i:List Blk:=[]
@[go_sem] def a0j:Ret:=⟨[((D3 O Z aA)).isSome=true],[(.val (.int .i64) (val (D3 O Z aA)),none)],[]⟩
def a9R:List Slot→List Blk→Option Ret:=pM (V:=(Int×(List UInt8)×Int)) (fun x=>a0h x.1 x.2.1 x.2.2) (fun x=>a0i) fun x=>a0j x.1 x.2.1 x.2.2
@[go_sem] theorem aLM:a9R (no_index (a0h O Z aA)) (no_index a0i)=some (a0j O Z aA):=pN (fun⟨a0,a1,a2⟩ ⟨b0,b1,b2⟩ h1 h2=>by cases h1;cases h2;rfl) (O,Z,aA)
end
@[reducible,go_sem] def a9S:Nat×Sig:=(139,⟨[.v,.v,.v],a9R,[],[],none⟩)
theorem z6:Env Tryz.prog [q7] (pE [XC]):=⟨⟨q9,trivial⟩,p5 a8Q pP,pH⟩
theorem aGx:pI Tryz.prog a9S:=by
 refine pO z6 Tryz.func139 (c:=_) rfl (N:=33) (by kernel_rfl) (ts:=[(6,none)]) rfl (fun _ _=>rfl) ?_
 intro⟨O,Z,aA⟩ hs hrow
 dsimp only[a0h,a0i,a0j,pJ,enumH,pD,pG,pL,Nat.reduceAdd] at hs hrow⊢
 have hz:=hs
 obtain⟨z0,hC0⟩:=Option.isSome_iff_exists.1 hz
 try rw[pW hC0]
 clear hz hs
 unfold D3 at hC0
 refine oS z6 ?_
 refine p4 ?_
 refine oS z6 ?_
 refine oX hC0 (fun hC0 hc1=> ?_) (fun hC0 hc1=> ?_)
 ·refine oS z6 ?_
  refine oV (pC ?_)
  cases hC0
  exact⟨[],by rfl,by rfl,by rfl⟩
 ·refine p6 (oW (p4 ?_))
  refine oS z6 ?_
  refine pT ?_
  obtain⟨y1,hy1,hC0⟩:=sX hC0
  refine rH 0 (fun s=> ∃v,y1= .inl v∧s=(fun _=>⟨[],[],0,33,0⟩) v) ?_ ?_
  ·refine rG hy1 (fun x=>⟨[(0,(.val (.int .i64) O,none)),(1,(.val .str Z,none)),(2,(.val (.int .u8) aA,none)),(7,(.val (.int .i64) x,none))],[],0,33,0⟩) ⟨[0,1,2,7],[]⟩ (by rfl) ?_
   intro aB w1 n1 hC1 hN1
   unfold GG at hC1
   dsimp only at hC1⊢
   refine p4 ?_
   refine oS z6 ?_
   refine oX hC1 (fun hC1 hc2=> ?_) (fun hC1 hc2=> ?_)
   ·refine p6 (oW (p4 (pT (p4 ?_))))
    obtain⟨hg1,hC1⟩:=oU hC1
    refine oS z6 ?_ (hp:=by exact hg1)
    refine oX hC1 (fun hC1 hc3=> ?_) (fun hC1 hc3=> ?_)
    ·refine oS z6 ?_
     refine oV (pC (pS (pC (sK (sJ (pS (pC ?_)))))))
     cases hC1
     cases hN1
     dsimp only at hC0
     cases hC0
     exact⟨[],by rfl,by rfl,by rfl⟩
    ·refine p6 (oW ?_)
     obtain⟨hg2,hC1⟩:=oU hC1
     refine oS z6 ?_ (hp:=by exact And.intro (fun hh=>hh) (And.intro (fun hh=>hh) (And.intro hg2 (And.intro (fun hh=>hh) ((fun hh=>pZ hh))))))
     refine oX hC1 (fun hC1 hc4=> ?_) (fun hC1 hc4=> ?_)
     ·obtain⟨hg3,hC1⟩:=oU hC1
      refine pF z6 ?_ (hp:=by exact hg3)
      refine pB (oW ?_)
      obtain⟨hg4,hC1⟩:=oU hC1
      refine pF z6 ?_ (hp:=by exact hg4)
      cases hC1
      exact qG ⟨⟨[0,1,2,7],[]⟩,_,by rfl,hN1⟩
     ·refine p6 (pB (oW ?_))
      obtain⟨hg5,hC1⟩:=oU hC1
      refine pF z6 ?_ (hp:=by exact hg5)
      cases hC1
      exact qG ⟨⟨[0,1,2,7],[]⟩,_,by rfl,hN1⟩
   ·refine qW (r7 (qZ ?_))
    cases hC1
    cases hN1
    exact qY ⟨⟨[],[]⟩,_,rfl,by rfl⟩
  ·rintro _ ⟨v,rfl,rfl⟩
   dsimp only at hC0⊢
   refine rE (oW ?_)
   refine oS z6 ?_
   refine oV ?_
   cases hC0
   exact⟨[],by rfl,by rfl,by rfl⟩
attribute [irreducible] D3
def D4 (O:(List p9)) (Z:(List UInt8)):Option Int:=
 (I2 O Z).bind fun aA=>
 some (aA)
section
variable (O:(List p9)) (Z:(List UInt8))
@[reducible] def a0k:List Slot:=[(.val (.list (.pair .str (.pair .str .unit))) O,none),(.val .str Z,none)]
@[reducible] def a0l:List Blk:=[]
@[go_sem] def a0m:Ret:=⟨[((D4 O Z)).isSome=true],[(.val (.int .i64) (val (D4 O Z)),none)],[]⟩
def a9T:List Slot→List Blk→Option Ret:=pM (V:=((List p9)×(List UInt8))) (fun x=>a0k x.1 x.2) (fun x=>a0l) fun x=>a0m x.1 x.2
@[go_sem] theorem aLN:a9T (no_index (a0k O Z)) (no_index a0l)=some (a0m O Z):=pN (fun⟨a0,a1⟩ ⟨b0,b1⟩ h1 h2=>by cases h1;cases h2;rfl) (O,Z)
end
@[reducible,go_sem] def a0n:Nat×Sig:=(171,⟨[.v,.v],a9T,[],[],none⟩)
theorem a0o:Env Tryz.prog [q7] (pE [a9n]):=⟨⟨q9,trivial⟩,p5 aGl pP,pH⟩
theorem a9U:pI Tryz.prog a0n:=by
 refine pO a0o Tryz.func171 (c:=_) rfl (N:=8) (by kernel_rfl) (ts:=[(4,none)]) rfl (fun _ _=>rfl) ?_
 intro⟨O,Z⟩ hs hrow
 dsimp only[a0k,a0l,a0m,pJ,enumH,pD,pG,pL,Nat.reduceAdd] at hs hrow⊢
 have hz:=hs
 obtain⟨z0,hC0⟩:=Option.isSome_iff_exists.1 hz
 try rw[pW hC0]
 clear hz hs
 unfold D4 at hC0
 refine oS a0o ?_
 obtain⟨aA,hv1,hw1,hC0⟩:=p8 hC0
 try simp only[go_sem] at hw1
 refine oS a0o ?_ (hp:=by exact And.intro (by first|exact rfl|exact trivial) ((p7 hv1))) (h:=by simp only[go_sem,hw1];rfl)
 refine oV ?_
 cases hC0
 exact⟨[],by rfl,by rfl,by rfl⟩
attribute [irreducible] D4
def EQ (O:(List p9)) (Z:(List UInt8)):Option ((List UInt8)×Bool):=
 (D4 O Z).bind fun aA=>
 if (decide (aA<(0:Int)))=true then
  some ((([]:List UInt8),false))
 else
  if 0≤aA∧aA<(List.length O:Int) then
   some (((pY (.pair .str (.pair .str .unit)) O aA).2.1,true))
  else none
section
variable (O:(List p9)) (Z:(List UInt8))
@[reducible] def a0p:List Slot:=[(.val (.list (.pair .str (.pair .str .unit))) O,none),(.val .str Z,none)]
@[reducible] def a0q:List Blk:=[]
@[go_sem] def a0r:Ret:=⟨[((EQ O Z)).isSome=true],[(.val .str ((val (EQ O Z)).1),none),(.val .bool ((val (EQ O Z)).2),none)],[]⟩
def a9V:List Slot→List Blk→Option Ret:=pM (V:=((List p9)×(List UInt8))) (fun x=>a0p x.1 x.2) (fun x=>a0q) fun x=>a0r x.1 x.2
@[go_sem] theorem aLO:a9V (no_index (a0p O Z)) (no_index a0q)=some (a0r O Z):=pN (fun⟨a0,a1⟩ ⟨b0,b1⟩ h1 h2=>by cases h1;cases h2;rfl) (O,Z)
end
@[reducible,go_sem] def a0s:Nat×Sig:=(188,⟨[.v,.v],a9V,[],[],none⟩)
theorem I8:Env Tryz.prog [q7,AJ,BI] (pE [a0n]):=⟨⟨q9,⟨CO,⟨E6,trivial⟩⟩⟩,p5 a9U pP,pH⟩
theorem aGy:pI Tryz.prog a0s:=by
 refine pO I8 Tryz.func188 (c:=_) rfl (N:=17) (by kernel_rfl) (ts:=[(4,none),(5,none)]) rfl (fun _ _=>rfl) ?_
 intro⟨O,Z⟩ hs hrow
 dsimp only[a0p,a0q,a0r,pJ,enumH,pD,pG,pL,Nat.reduceAdd] at hs hrow⊢
 have hz:=hs
 obtain⟨z0,hC0⟩:=Option.isSome_iff_exists.1 hz
 try rw[pW hC0]
 clear hz hs
 unfold EQ at hC0
 refine oS I8 ?_
 obtain⟨aA,hv1,hw1,hC0⟩:=p8 hC0
 try simp only[go_sem] at hw1
 refine oS I8 ?_ (hp:=by exact(p7 hv1)) (h:=by simp only[go_sem,hw1];rfl)
 refine p4 ?_
 refine oS I8 ?_
 refine oX hC0 (fun hC0 hc1=> ?_) (fun hC0 hc1=> ?_)
 ·refine oS I8 ?_
  refine oV (pC ?_)
  cases hC0
  exact⟨[],by rfl,by rfl,by rfl⟩
 ·refine p6 (oW ?_)
  obtain⟨hg2,hC0⟩:=oU hC0
  refine oS I8 ?_ (hp:=by exact hg2)
  refine oV ?_
  cases hC0
  exact⟨[],by rfl,by rfl,by rfl⟩
attribute [irreducible] EQ
def ER (O:(List UInt8)):Option Bool:=
 (D2 ([([110,101,119]:List UInt8),([102,117,122,122,121]:List UInt8),([116,114,97,110,115,108,97,116,101,100]:List UInt8),([114,101,118,105,101,119,101,100]:List UInt8),([111,98,115,111,108,101,116,101]:List UInt8)]:List (List UInt8)) O).bind fun Z=>
 some (Z)
section
variable (O:(List UInt8))
@[reducible] def a0t:List Slot:=[(.val .str O,none)]
@[reducible] def a0u:List Blk:=[]
@[go_sem] def a0v:Ret:=⟨[((ER O)).isSome=true],[(.val .bool (val (ER O)),none)],[]⟩
def a9W:List Slot→List Blk→Option Ret:=pM (V:=(List UInt8)) (fun x=>a0t x) (fun x=>a0u) fun x=>a0v x
@[go_sem] theorem aLP:a9W (no_index (a0t O)) (no_index a0u)=some (a0v O):=pN (fun a0 b0 h1 h2=>by cases h1;cases h2;rfl) O
end
@[reducible,go_sem] def a9X:Nat×Sig:=(190,⟨[.v],a9W,[],[],none⟩)
theorem a0w:Env Tryz.prog [] (pE [OZ,P2]):=⟨trivial,p5 a8T (p5 a9O pP),pH⟩
theorem aGz:pI Tryz.prog a9X:=by
 refine pO a0w Tryz.func190 (c:=_) rfl (N:=6) (by kernel_rfl) (ts:=[(2,none)]) rfl (fun _ _=>rfl) ?_
 intro O hs hrow
 dsimp only[a0t,a0u,a0v,pJ,enumH,pD,pG,pL,Nat.reduceAdd] at hs hrow⊢
 have hz:=hs
 obtain⟨z0,hC0⟩:=Option.isSome_iff_exists.1 hz
 try rw[pW hC0]
 clear hz hs
 unfold ER at hC0
 refine oS a0w ?_
 obtain⟨Z,hv1,hw1,hC0⟩:=p8 hC0
 try simp only[go_sem] at hw1
 refine oS a0w ?_ (hp:=by exact(p7 hv1)) (h:=by simp only[go_sem,hw1];rfl)
 refine oV ?_
 cases hC0
 exact⟨[],by rfl,by rfl,by rfl⟩
attribute [irreducible] ER
def GH (O:(List UInt8)) (Z:(List UInt8)) (aA:(List UInt8)) (aB:(List UInt8)) (aC:(List (List UInt8))) (aD:(Int×((List p9)×Unit))) (aE:Bool) (aF:(List (List UInt8))) (aG:(List ((List UInt8)×Bool))):Option Bool:=
 (D2 aF O).bind fun aH=>
 some (aH)
section
variable (O:(List UInt8)) (Z:(List UInt8)) (aA:(List UInt8)) (aB:(List UInt8)) (aC:(List (List UInt8))) (aD:Nat) (aE:(Int×((List p9)×Unit))) (aF:Bool) (aG:Nat) (aH:Nat) (aI:(List (List UInt8))) (aJ:Nat) (aK:(List ((List UInt8)×Bool)))
@[reducible] def a0x:List Slot:=[(.val .str O,none),(.val .ref (some (0,0)),none)]
@[reducible] def a0y:List Blk:=[.cells .ref (some (1,0)) [],.cells r8 ((Z,(aA,(aB,(aC,((some (4,aD)),aE))))),(aF,((some 5),()))) [(3,2),(6,3)],.grow 9 1 aG,.grow 144 2 aH,.row 9 .str aI aJ,.map .str .bool aK]
@[go_sem] def a0z:Ret:=⟨[aG=(List.length aC),aH=(List.length aE.2.1),aD=aJ,((GH O Z aA aB aC aE aF aI aK)).isSome=true],[(.val .bool (val (GH O Z aA aB aC aE aF aI aK)),none)],[.cells .ref (some (1,0)) [],.cells r8 ((Z,(aA,(aB,(aC,((some (4,(List.length aI))),(aE.1,(aE.2.1,()))))))),(aF,((some 5),()))) [(3,2),(6,3)],.grow 9 1 (List.length aC),.grow 144 2 (List.length aE.2.1),.row 9 .str aI (List.length aI),.map .str .bool aK]⟩
def a9Y:List Slot→List Blk→Option Ret:=pM (V:=((List UInt8)×(List UInt8)×(List UInt8)×(List UInt8)×(List (List UInt8))×Nat×(Int×((List p9)×Unit))×Bool×Nat×Nat×(List (List UInt8))×Nat×(List ((List UInt8)×Bool)))) (fun x=>a0x x.1) (fun x=>a0y x.2.1 x.2.2.1 x.2.2.2.1 x.2.2.2.2.1 x.2.2.2.2.2.1 x.2.2.2.2.2.2.1 x.2.2.2.2.2.2.2.1 x.2.2.2.2.2.2.2.2.1 x.2.2.2.2.2.2.2.2.2.1 x.2.2.2.2.2.2.2.2.2.2.1 x.2.2.2.2.2.2.2.2.2.2.2.1 x.2.2.2.2.2.2.2.2.2.2.2.2) fun x=>a0z x.1 x.2.1 x.2.2.1 x.2.2.2.1 x.2.2.2.2.1 x.2.2.2.2.2.1 x.2.2.2.2.2.2.1 x.2.2.2.2.2.2.2.1 x.2.2.2.2.2.2.2.2.1 x.2.2.2.2.2.2.2.2.2.1 x.2.2.2.2.2.2.2.2.2.2.1 x.2.2.2.2.2.2.2.2.2.2.2.1 x.2.2.2.2.2.2.2.2.2.2.2.2
@[go_sem] theorem aLQ:a9Y (no_index (a0x O)) (no_index (a0y Z aA aB aC aD aE aF aG aH aI aJ aK))=some (a0z O Z aA aB aC aD aE aF aG aH aI aJ aK):=pN (fun⟨a0,a1,a2,a3,a4,a5,a6,a7,a8,a9,a10,a11,a12⟩ ⟨b0,b1,b2,b3,b4,b5,b6,b7,b8,b9,b10,b11,b12⟩ h1 h2=>by cases h1;cases h2;rfl) (O,Z,aA,aB,aC,aD,aE,aF,aG,aH,aI,aJ,aK)
end
@[reducible,go_sem] def a0A:Nat×Sig:=(192,⟨[.v,.p .ref []],a9Y,[(0,0,.p r8 [3,6]),(1,4,.r),(1,8,.m)],[0,1,2,3,4,5],none⟩)
theorem a9Z:Env Tryz.prog [] (pE [P2]):=⟨trivial,p5 a9O pP,pH⟩
theorem a90:Env Tryz.prog [uK,AM,HT,yV] (pE [P2]):=⟨⟨vG,⟨CQ,⟨OR,⟨AK,trivial⟩⟩⟩⟩,a9Z.Γ,pH⟩
theorem aGA:pI Tryz.prog a0A:=by
 refine pO a9Z Tryz.func192 (c:=_) rfl (N:=11) (by kernel_rfl) (ts:=[(3,none)]) rfl (fun _ _=>rfl) ?_
 intro⟨O,Z,aA,aB,aC,aD,aE,aF,aG,aH,aI,aJ,aK⟩ hs hrow
 dsimp only[a0x,a0y,a0z,pJ,enumH,pD,pG,pL,Nat.reduceAdd] at hs hrow⊢
 obtain⟨rfl,rfl,rfl,hz⟩:=hs
 obtain⟨rfl,_⟩:=hrow
 obtain⟨z0,hC0⟩:=Option.isSome_iff_exists.1 hz
 try rw[pW hC0]
 clear hz
 unfold GH at hC0
 refine oS a90 ?_
 obtain⟨aL,hv1,hw1,hC0⟩:=p8 hC0
 try simp only[go_sem] at hw1
 refine oS a90 ?_ (hp:=by exact And.intro (fun _=>by first|exact rfl|exact trivial) ((p7 hv1))) (h:=by simp only[go_sem,hw1];rfl)
 refine oV ?_
 cases hC0
 exact⟨[(0,0),(1,1),(2,2),(3,3),(4,4),(5,5)],by rfl,by rfl,by rfl⟩
attribute [irreducible] GH
def I9 (O:(List UInt8)) (Z:Int):(Int×Int)→Option ((Int×Int)⊕(Int⊕Int)):=fun(aA,aB)=>
 if (decide (aB<(List.length O:Int)))=true then
  if 0≤aB∧aB<(List.length O:Int) then
   (GA (pA O aB) Z).bind fun aC=>
   if (decide (aC<(0:Int)))=true then
    some (.inr (.inr ((-1:Int))))
   else
    if oT (Z*aA) then
     if oT ((Z*aA)+aC) then
      if oT (aB+(1:Int)) then
       some (.inl (((Z*aA)+aC),(aB+(1:Int))))
      else none
     else none
    else none
  else none
 else
  some (.inr (.inl aA))
def BP (O:(List UInt8)) (Z:Int):Option Int:=
 qT (pR (I9 O Z) ((0:Int),(0:Int))) fun aA=>
 if (decide (O=([]:List UInt8)))=true then
  some ((-1:Int))
 else
  some (aA)
section
variable (O:(List UInt8)) (Z:Int)
@[reducible] def a0E:List Slot:=[(.val .str O,none),(.val (.int .i64) Z,none)]
@[reducible] def a0F:List Blk:=[]
@[go_sem] def a0G:Ret:=⟨[((BP O Z)).isSome=true],[(.val (.int .i64) (val (BP O Z)),none)],[]⟩
def a93:List Slot→List Blk→Option Ret:=pM (V:=((List UInt8)×Int)) (fun x=>a0E x.1 x.2) (fun x=>a0F) fun x=>a0G x.1 x.2
@[go_sem] theorem aLS:a93 (no_index (a0E O Z)) (no_index a0F)=some (a0G O Z):=pN (fun⟨a0,a1⟩ ⟨b0,b1⟩ h1 h2=>by cases h1;cases h2;rfl) (O,Z)
end
@[reducible,go_sem] def a0H:Nat×Sig:=(204,⟨[.v,.v],a93,[],[],none⟩)
theorem z7:Env Tryz.prog [q7] (pE [a9c]):=⟨⟨q9,trivial⟩,p5 aGg pP,pH⟩
theorem a94:pI Tryz.prog a0H:=by
 refine pO z7 Tryz.func204 (c:=_) rfl (N:=29) (by kernel_rfl) (ts:=[(4,none)]) rfl (fun _ _=>rfl) ?_
 intro⟨O,Z⟩ hs hrow
 dsimp only[a0E,a0F,a0G,pJ,enumH,pD,pG,pL,Nat.reduceAdd] at hs hrow⊢
 have hz:=hs
 obtain⟨z0,hC0⟩:=Option.isSome_iff_exists.1 hz
 try rw[pW hC0]
 clear hz hs
 unfold BP at hC0
 refine oS z7 ?_
 refine oS z7 ?_
 refine p4 ?_
 refine oS z7 ?_
 refine pT ?_
 obtain⟨y1,hy1,hC0⟩:=sX hC0
 refine rH 0 (fun s=> ∃v,y1= .inl v∧s=(fun x=>⟨[(0,(.val .str O,none)),(5,(.val (.int .i64) x,none))],[],0,29,0⟩) v) ?_ ?_
 ·refine rG hy1 (fun x=>⟨[(0,(.val .str O,none)),(1,(.val (.int .i64) Z,none)),(5,(.val (.int .i64) x.1,none)),(6,(.val (.int .i64) x.2,none))],[],0,29,0⟩) ⟨[0,1,5,6],[]⟩ (by rfl) ?_
  intro x1 w1 n1 hC1 hN1
  obtain⟨aA,aB⟩:=x1
  unfold I9 at hC1
  dsimp only at hC1⊢
  refine p4 ?_
  refine oS z7 ?_
  refine oX hC1 (fun hC1 hc1=> ?_) (fun hC1 hc1=> ?_)
  ·refine p6 (oW (p4 (pT ?_)))
   obtain⟨hg1,hC1⟩:=oU hC1
   obtain⟨aC,hv2,hw2,hC1⟩:=p8 hC1
   try simp only[go_sem] at hw2
   refine oS z7 ?_ (hp:=by exact And.intro hg1 ((p7 hv2))) (h:=by simp only[go_sem,hw2];rfl)
   refine p4 ?_
   refine oS z7 ?_
   refine oX hC1 (fun hC1 hc2=> ?_) (fun hC1 hc2=> ?_)
   ·refine oS z7 ?_
    refine oV (pC (pS (pC (sK (sJ (pS (pC ?_)))))))
    cases hC1
    cases hN1
    dsimp only at hC0
    cases hC0
    exact⟨[],by rfl,by rfl,by rfl⟩
   ·refine p6 (oW ?_)
    obtain⟨hg3,hC1⟩:=oU hC1
    obtain⟨hg4,hC1⟩:=oU hC1
    refine pF z7 ?_ (hp:=by exact And.intro hg3 (hg4))
    refine pB (oW ?_)
    obtain⟨hg5,hC1⟩:=oU hC1
    refine pF z7 ?_ (hp:=by exact hg5)
    cases hC1
    exact qG ⟨⟨[0,1,5,6],[]⟩,_,by rfl,hN1⟩
  ·refine qW (r7 (qZ ?_))
   cases hC1
   cases hN1
   exact qY ⟨⟨[0,5],[]⟩,_,rfl,by rfl⟩
 ·rintro _ ⟨aD,rfl,rfl⟩
  dsimp only at hC0⊢
  refine rE (oW (p4 ?_))
  refine oS z7 ?_
  refine oX hC0 (fun hC0 hc3=> ?_) (fun hC0 hc3=> ?_)
  ·refine oS z7 ?_
   refine oV (pC ?_)
   cases hC0
   exact⟨[],by rfl,by rfl,by rfl⟩
  ·refine p6 (oW ?_)
   refine oS z7 ?_
   refine oV ?_
   cases hC0
   exact⟨[],by rfl,by rfl,by rfl⟩
attribute [irreducible] BP
end
end Go.Proofs.YtfchbnahjcdiiaaGreatDoor
namespace Go.Proofs.YtfchbnahjcdiiaaGreatDoor
open Vc
set_option maxRecDepth 100000
set_option maxHeartbeats 4000000
set_option linter.unusedSimpArgs false
set_option linter.unusedVariables false
noncomputable section
def IA:((List UInt8)×(List Int))→Option (((List UInt8)×(List Int))⊕(List Int)):=fun(O,Z)=>
 if (decide ((0:Int)<(List.length O:Int)))=true then
  (EJ O).bind fun aA=>
  if (List.length Z+List.length ([aA.1]:List Int))*8≤140737488355328 then
   if 0≤aA.2∧aA.2≤(List.length O:Int)∧(List.length O:Int)≤(List.length O:Int) then
    some (.inl ((oZ O aA.2 (List.length O:Int)),(Z++([aA.1]:List Int))))
   else none
  else none
 else
  some (.inr Z)
def ET (O:(List UInt8)):Option (List Int):=
 qD (pR IA (O,([]:List Int))) fun Z=>
 some (Z)
section
variable (O:(List UInt8))
@[reducible] def a0I:List Slot:=[(.val .str O,none)]
@[reducible] def a0J:List Blk:=[]
@[go_sem] def a0K:Ret:=⟨[((ET O)).isSome=true],[(.val (.list (.int .i64)) (val (ET O)),some 0)],[.grow 3 1 (List.length (val (ET O)))]⟩
def a95:List Slot→List Blk→Option Ret:=pM (V:=(List UInt8)) (fun x=>a0I x) (fun x=>a0J) fun x=>a0K x
@[go_sem] theorem aLT:a95 (no_index (a0I O)) (no_index a0J)=some (a0K O):=pN (fun a0 b0 h1 h2=>by cases h1;cases h2;rfl) O
end
@[reducible,go_sem] def a96:Nat×Sig:=(208,⟨[.v],a95,[],[],none⟩)
theorem EU:Env Tryz.prog [q7,AL] (pE [a9e]):=⟨⟨q9,⟨CP,trivial⟩⟩,p5 aGh pP,pH⟩
theorem aGC:pI Tryz.prog a96:=by
 refine pO EU Tryz.func208 (c:=_) rfl (N:=22) (by kernel_rfl) (ts:=[(2,none)]) rfl (fun _ _=>rfl) ?_
 intro O hs hrow
 dsimp only[a0I,a0J,a0K,pJ,enumH,pD,pG,pL,Nat.reduceAdd] at hs hrow⊢
 have hz:=hs
 obtain⟨z0,hC0⟩:=Option.isSome_iff_exists.1 hz
 try rw[pW hC0]
 clear hz hs
 unfold ET at hC0
 refine oS EU ?_
 refine oS EU ?_
 refine p4 (pT ?_)
 obtain⟨Z,hy1,hC0⟩:=oY hC0
 refine rH 0 (fun s=>s=(fun x=>⟨[(3,(.val (.list (.int .i64)) x,some 0))],[(0,.grow 3 1 (List.length x))],1,22,0⟩) Z) ?_ ?_
 ·refine rG hy1 (fun x=>⟨[(0,(.val .str x.1,none)),(3,(.val (.list (.int .i64)) x.2,some 0))],[(0,.grow 3 1 (List.length x.2))],1,22,0⟩) ⟨[0,3],[(0,16)]⟩ (by rfl) ?_
  intro x1 w1 n1 hC1 hN1
  obtain⟨aA,aB⟩:=x1
  unfold IA at hC1
  dsimp only at hC1⊢
  refine p4 ?_
  refine oS EU ?_
  refine oX hC1 (fun hC1 hc1=> ?_) (fun hC1 hc1=> ?_)
  ·refine p6 (oW (pT ?_))
   obtain⟨aC,hv1,hw1,hC1⟩:=p8 hC1
   try simp only[go_sem] at hw1
   refine oS EU ?_ (hp:=by exact(p7 hv1)) (h:=by simp only[go_sem,hw1];rfl)
   obtain⟨hg2,hC1⟩:=oU hC1
   refine oS EU ?_ (hp:=by exact And.intro (by first|exact rfl|exact trivial) (hg2))
   obtain⟨hg3,hC1⟩:=oU hC1
   refine pF EU ?_ (hp:=by exact hg3)
   refine pB ?_
   cases hC1
   exact qG ⟨⟨[0,3],[(0,0)]⟩,_,by rfl,hN1⟩
  ·refine qW (r7 (qZ ?_))
   cases hC1
   cases hN1
   exact qY ⟨⟨[3],[(0,0)]⟩,by rfl⟩
 ·rintro _ rfl
  dsimp only at hC0⊢
  refine rE (oW ?_)
  refine oS EU ?_
  refine oV ?_
  cases hC0
  exact⟨[(0,0)],by rfl,by rfl,by rfl⟩
attribute [irreducible] ET
def EV (O:(List Int)) (Z:Int):Option (List Int):=
 if (decide ((IntKind.wrap .u32 Z)≤(127:Int)))=true then
  if (List.length O+List.length ([(IntKind.wrap .u8 Z)]:List Int))*1≤140737488355328 then
   some ((O++([(IntKind.wrap .u8 Z)]:List Int)))
  else none
 else
  (GB O Z).bind fun aA=>
  some (aA)
section
variable (O:(List Int)) (Z:Int) (aA:Nat)
@[reducible] def a0L:List Slot:=[(.val (.list (.int .u8)) O,some 0),(.val (.int .i32) Z,none)]
@[reducible] def a0M:List Blk:=[.grow 5 1 aA]
@[go_sem] def a0N:Ret:=⟨[aA=(List.length O),((EV O Z)).isSome=true],[(.val (.list (.int .u8)) (val (EV O Z)),some 0)],[.grow 5 1 (List.length (val (EV O Z)))]⟩
def a97:List Slot→List Blk→Option Ret:=pM (V:=((List Int)×Int×Nat)) (fun x=>a0L x.1 x.2.1) (fun x=>a0M x.2.2) fun x=>a0N x.1 x.2.1 x.2.2
@[go_sem] theorem aLU:a97 (no_index (a0L O Z)) (no_index (a0M aA))=some (a0N O Z aA):=pN (fun⟨a0,a1,a2⟩ ⟨b0,b1,b2⟩ h1 h2=>by cases h1;cases h2;rfl) (O,Z,aA)
end
@[reducible,go_sem] def a98:Nat×Sig:=(220,⟨[.own,.v],a97,[],[],none⟩)
theorem LI:Env Tryz.prog [zP,HR,AE,OP] (pE [a9l]):=⟨⟨BG,⟨OK,⟨CK,⟨a7s,trivial⟩⟩⟩⟩,p5 aGk pP,pH⟩
theorem aGD:pI Tryz.prog a98:=by
 refine pO LI Tryz.func220 (c:=_) rfl (N:=16) (by kernel_rfl) (ts:=[(4,none)]) rfl (fun _ _=>rfl) ?_
 intro⟨O,Z,aA⟩ hs hrow
 dsimp only[a0L,a0M,a0N,pJ,enumH,pD,pG,pL,Nat.reduceAdd] at hs hrow⊢
 obtain⟨rfl,hz⟩:=hs
 obtain⟨z0,hC0⟩:=Option.isSome_iff_exists.1 hz
 try rw[pW hC0]
 clear hz
 unfold EV at hC0
 refine oS LI ?_
 refine p4 ?_
 refine oS LI ?_
 refine oX hC0 (fun hC0 hc1=> ?_) (fun hC0 hc1=> ?_)
 ·obtain⟨hg1,hC0⟩:=oU hC0
  refine oS LI ?_ (hp:=by exact And.intro (by first|exact rfl|exact trivial) (hg1))
  refine oV (pC ?_)
  cases hC0
  exact⟨[(0,0)],by rfl,by rfl,by rfl⟩
 ·refine p6 (oW ?_)
  obtain⟨aB,hv2,hw2,hC0⟩:=p8 hC0
  try simp only[go_sem] at hw2
  refine oS LI ?_ (hp:=by exact And.intro (by first|exact rfl|exact trivial) ((p7 hv2))) (h:=by simp only[go_sem,hw2];rfl)
  refine oV ?_
  cases hC0
  exact⟨[(0,0)],by rfl,by rfl,by rfl⟩
attribute [irreducible] EV
def EW (O:(List p9)) (Z:(List UInt8)) (aA:(List UInt8)):Option (List p9):=
 (EK O).bind fun aB=>
 (D4 aB Z).bind fun aC=>
 if (decide ((0:Int)≤aC))=true then
  if 0≤aC∧aC<(((List.length aB):Nat):Int) then
   some ((List.set aB (Int.toNat aC) ((pY (.pair .str (.pair .str .unit)) aB aC).1,(aA,(pY (.pair .str (.pair .str .unit)) aB aC).2.2))))
  else none
 else
  (I3 aB Z).bind fun aD=>
  if (decide (aD<(0:Int)))=true then
   if 0≤(((List.length aB):Nat):Int)∧(((List.length aB):Nat):Int)≤List.length aB then
    if (List.length aB+List.length ([(Z,(aA,()))]:List p9))*32≤140737488355328 then
     some ((yA aB (((List.length aB):Nat):Int) ([(Z,(aA,()))]:List p9)))
    else none
   else none
  else
   if 0≤aD∧aD≤List.length aB then
    if (List.length aB+List.length ([(Z,(aA,()))]:List p9))*32≤140737488355328 then
     some ((yA aB aD ([(Z,(aA,()))]:List p9)))
    else none
   else none
section
variable (O:(List p9)) (Z:(List UInt8)) (aA:(List UInt8))
@[reducible] def a0O:List Slot:=[(.val (.list (.pair .str (.pair .str .unit))) O,none),(.val .str Z,none),(.val .str aA,none)]
@[reducible] def a0P:List Blk:=[]
@[go_sem] def a0Q:Ret:=⟨[((EW O Z aA)).isSome=true],[(.val (.list (.pair .str (.pair .str .unit))) (val (EW O Z aA)),some 0)],[.grow 144 2 (List.length (val (EW O Z aA)))]⟩
def a99:List Slot→List Blk→Option Ret:=pM (V:=((List p9)×(List UInt8)×(List UInt8))) (fun x=>a0O x.1 x.2.1 x.2.2) (fun x=>a0P) fun x=>a0Q x.1 x.2.1 x.2.2
@[go_sem] theorem aLV:a99 (no_index (a0O O Z aA)) (no_index a0P)=some (a0Q O Z aA):=pN (fun⟨a0,a1,a2⟩ ⟨b0,b1,b2⟩ h1 h2=>by cases h1;cases h2;rfl) (O,Z,aA)
end
@[reducible,go_sem] def a0R:Nat×Sig:=(136,⟨[.v,.v,.v],a99,[],[],none⟩)
theorem zR:Env Tryz.prog [q7,KQ,BI] (pE [a9j,a0n,a9p,a7y]):=⟨⟨q9,⟨TR,⟨E6,trivial⟩⟩⟩,p5 aGj (p5 a9U (p5 aGm (p5 aFO pP))),pH⟩
theorem aGE:pI Tryz.prog a0R:=by
 refine pO zR Tryz.func136 (c:=_) rfl (N:=37) (by kernel_rfl) (ts:=[(6,none)]) rfl (fun _ _=>rfl) ?_
 intro⟨O,Z,aA⟩ hs hrow
 dsimp only[a0O,a0P,a0Q,pJ,enumH,pD,pG,pL,Nat.reduceAdd] at hs hrow⊢
 have hz:=hs
 obtain⟨z0,hC0⟩:=Option.isSome_iff_exists.1 hz
 try rw[pW hC0]
 clear hz hs
 unfold EW at hC0
 refine oS zR ?_
 obtain⟨aB,hv1,hw1,hC0⟩:=p8 hC0
 try simp only[go_sem] at hw1
 refine oS zR ?_ (hp:=by exact(p7 hv1)) (h:=by simp only[go_sem,hw1];rfl)
 refine p4 ?_
 obtain⟨aC,hv2,hw2,hC0⟩:=p8 hC0
 try simp only[go_sem] at hw2
 refine oS zR ?_ (hp:=by exact And.intro (fun _=>by first|exact rfl|exact trivial) ((p7 hv2))) (h:=by simp only[go_sem,hw2];rfl)
 refine oS zR ?_
 refine oX hC0 (fun hC0 hc1=> ?_) (fun hC0 hc1=> ?_)
 ·obtain⟨hg3,hC0⟩:=oU hC0
  refine oS zR ?_ (hp:=by exact And.intro hg3 ((by first|exact rfl|exact trivial)))
  refine oS zR ?_
  refine KE 48 rfl (by repeat' (first|exact trivial|apply And.intro|exact(fun _=>rfl) |exact(fun h=>absurd h (by decide)))) ?_
  refine oV (pC ?_)
  cases hC0
  exact⟨[(0,48)],by rfl,by rfl,by rfl⟩
 ·refine p6 (oW ?_)
  obtain⟨aD,hv4,hw4,hC0⟩:=p8 hC0
  try simp only[go_sem] at hw4
  refine oS zR ?_ (hp:=by exact And.intro (by first|exact rfl|exact trivial) (And.intro (fun _=>by first|exact rfl|exact trivial) ((p7 hv4)))) (h:=by simp only[go_sem,hw4];rfl)
  refine p4 ?_
  refine oS zR ?_
  refine oX hC0 (fun hC0 hc2=> ?_) (fun hC0 hc2=> ?_)
  ·refine pF zR ?_
   refine oW ?_
   obtain⟨hg5,hC0⟩:=oU hC0
   obtain⟨hg6,hC0⟩:=oU hC0
   refine oS zR ?_ (hp:=by exact And.intro (by first|exact rfl|exact trivial) (And.intro hg5 (hg6)))
   refine OF ⟨[0,1,2,4,6,10,13,14,8,15,16,24,25,9,26,27,29,31,32,33,34,35,36],[(0,0),(16,16),(48,48),(400,400)]⟩ ?_
   simp only[go_sem,Nat.max_def]
   refine KE 48 rfl (by repeat' (first|exact trivial|apply And.intro|exact(fun _=>rfl) |exact(fun h=>absurd h (by decide)))) ?_
   refine oV ?_
   cases hC0
   exact⟨[(0,48)],by rfl,by rfl,by rfl⟩
  ·refine p6 (oW ?_)
   obtain⟨hg7,hC0⟩:=oU hC0
   obtain⟨hg8,hC0⟩:=oU hC0
   refine oS zR ?_ (hp:=by exact And.intro (by first|exact rfl|exact trivial) (And.intro hg7 (hg8)))
   refine OF ⟨[0,1,2,4,6,10,13,14,8,15,16,24,25,9,26,27,31,32,33,34,35,36],[(0,0),(16,16),(48,48),(352,352)]⟩ ?_
   simp only[go_sem,Nat.max_def]
   refine KE 48 rfl (by repeat' (first|exact trivial|apply And.intro|exact(fun _=>rfl) |exact(fun h=>absurd h (by decide)))) ?_
   refine oV ?_
   cases hC0
   exact⟨[(0,48)],by rfl,by rfl,by rfl⟩
attribute [irreducible] EW
def ES (O:tZ) (Z:tZ):Option Bool:=
 (CY O Z).bind fun aA=>
 some (((decide (aA.2=(0:Int)))&&(decide ((List.length aA.1:Int)=(0:Int)))))
section
variable (O:tZ) (Z:tZ)
@[reducible] def a0B:List Slot:=[(.val AD O,none),(.val AD Z,none)]
@[reducible] def a0C:List Blk:=[]
@[go_sem] def a0D:Ret:=⟨[((ES O Z)).isSome=true],[(.val .bool (val (ES O Z)),none)],[]⟩
def a91:List Slot→List Blk→Option Ret:=pM (V:=(tZ×tZ)) (fun x=>a0B x.1 x.2) (fun x=>a0C) fun x=>a0D x.1 x.2
@[go_sem] theorem aLR:a91 (no_index (a0B O Z)) (no_index a0C)=some (a0D O Z):=pN (fun⟨a0,a1⟩ ⟨b0,b1⟩ h1 h2=>by cases h1;cases h2;rfl) (O,Z)
end
@[reducible,go_sem] def a92:Nat×Sig:=(15,⟨[.v,.v],a91,[],[],none⟩)
theorem P3:Env Tryz.prog [BF,OQ] (pE [a9x]):=⟨⟨E3,⟨a7t,trivial⟩⟩,p5 aGq pP,pH⟩
theorem aGB:pI Tryz.prog a92:=by
 refine pO P3 Tryz.func15 (c:=_) rfl (N:=20) (by kernel_rfl) (ts:=[(4,none)]) rfl (fun _ _=>rfl) ?_
 intro⟨O,Z⟩ hs hrow
 dsimp only[a0B,a0C,a0D,pJ,enumH,pD,pG,pL,Nat.reduceAdd] at hs hrow⊢
 have hz:=hs
 obtain⟨z0,hC0⟩:=Option.isSome_iff_exists.1 hz
 try rw[pW hC0]
 clear hz hs
 unfold ES at hC0
 refine oS P3 ?_
 obtain⟨aA,hv1,hw1,hC0⟩:=p8 hC0
 try simp only[go_sem] at hw1
 refine oS P3 ?_ (hp:=by exact(p7 hv1)) (h:=by simp only[go_sem,hw1];rfl)
 refine oS P3 ?_ (hp:=by exact And.intro (fun hh=>hh) (And.intro (fun hh=>hh) ((fun hh=>pZ hh))))
 refine oV ?_
 cases hC0
 exact⟨[],by rfl,by rfl,by rfl⟩
attribute [irreducible] ES
def D6 (O:(List UInt8)):Option ((List UInt8)×Int):=
 if (decide ((List.length O:Int)<(2:Int)))=true then
  some ((([]:List UInt8),(0:Int)))
 else
  if 0≤(1:Int)∧(1:Int)<(List.length O:Int) then
   if (decide ((pA O (1:Int))=(110:Int)))=true then
    some ((([10]:List UInt8),(2:Int)))
   else
    if (decide ((pA O (1:Int))=(114:Int)))=true then
     some ((([13]:List UInt8),(2:Int)))
    else
     if (decide ((pA O (1:Int))=(116:Int)))=true then
      some ((([9]:List UInt8),(2:Int)))
     else
      (CT (pA O (1:Int)) ([92,34,61,58,35,33,123,125,32]:List UInt8)).bind fun Z=>
      if Z=true then
       if 0≤(1:Int)∧(1:Int)≤(2:Int)∧(2:Int)≤(List.length O:Int) then
        some (((oZ O (1:Int) (2:Int)),(2:Int)))
       else none
      else
       if ((decide ((pA O (1:Int))=(120:Int)))&&(decide ((4:Int)≤(List.length O:Int))))=true then
        if 0≤(2:Int)∧(2:Int)≤(4:Int)∧(4:Int)≤(List.length O:Int) then
         (BP (oZ O (2:Int) (4:Int)) (16:Int)).bind fun aA=>
         if ((decide ((0:Int)≤aA))&&(decide (aA≤(127:Int))))=true then
          some (((rA ([(IntKind.wrap .u8 aA)]:List Int)),(4:Int)))
         else
          some ((([]:List UInt8),(0:Int)))
        else none
       else
        if ((decide ((pA O (1:Int))=(117:Int)))&&(decide ((6:Int)≤(List.length O:Int))))=true then
         if 0≤(2:Int)∧(2:Int)≤(6:Int)∧(6:Int)≤(List.length O:Int) then
          (BP (oZ O (2:Int) (6:Int)) (16:Int)).bind fun aB=>
          if ((decide ((0:Int)≤aB))&&(((decide ((0:Int)≤aB))&&(decide (aB≤(1114111:Int))))&&((decide (aB<(55296:Int)))||(decide ((57343:Int)<aB)))))=true then
           (yD aB).bind fun aC=>
           some ((aC,(6:Int)))
          else
           some ((([]:List UInt8),(0:Int)))
         else none
        else
         some ((([]:List UInt8),(0:Int)))
  else none
section
variable (O:(List UInt8))
@[reducible] def a04:List Slot:=[(.val .str O,none)]
@[reducible] def a05:List Blk:=[]
@[go_sem] def a06:Ret:=⟨[((D6 O)).isSome=true],[(.val .str ((val (D6 O)).1),none),(.val (.int .i64) ((val (D6 O)).2),none)],[]⟩
def aAg:List Slot→List Blk→Option Ret:=pM (V:=(List UInt8)) (fun x=>a04 x) (fun x=>a05) fun x=>a06 x
@[go_sem] theorem aLZ:aAg (no_index (a04 O)) (no_index a05)=some (a06 O):=pN (fun a0 b0 h1 h2=>by cases h1;cases h2;rfl) O
end
@[reducible,go_sem] def aAh:Nat×Sig:=(176,⟨[.v],aAg,[],[],none⟩)
theorem tI:Env Tryz.prog [s5,zP,q7,AE] (pE [XL,a0H,L7,L8]):=⟨⟨sG,⟨BG,⟨q9,⟨CK,trivial⟩⟩⟩⟩,p5 a8V (p5 a94 (p5 P0 (p5 P1 pP))),pH⟩
theorem aGI:pI Tryz.prog aAh:=by
 refine pO tI Tryz.func176 (c:=_) rfl (N:=66) (by kernel_rfl) (ts:=[(2,none),(3,none)]) rfl (fun _ _=>rfl) ?_
 intro O hs hrow
 dsimp only[a04,a05,a06,pJ,enumH,pD,pG,pL,Nat.reduceAdd] at hs hrow⊢
 have hz:=hs
 obtain⟨z0,hC0⟩:=Option.isSome_iff_exists.1 hz
 try rw[pW hC0]
 clear hz hs
 unfold D6 at hC0
 refine oS tI ?_
 refine p4 ?_
 refine oS tI ?_
 refine oX hC0 (fun hC0 hc1=> ?_) (fun hC0 hc1=> ?_)
 ·refine oS tI ?_
  refine oV (pC ?_)
  cases hC0
  exact⟨[],by rfl,by rfl,by rfl⟩
 ·refine p6 (oW (p4 ?_))
  obtain⟨hg1,hC0⟩:=oU hC0
  refine oS tI ?_ (hp:=by exact hg1)
  refine pT ?_
  refine oS tI ?_
  refine oX hC0 (fun hC0 hc2=> ?_) (fun hC0 hc2=> ?_)
  ·refine oS tI ?_
   refine oV (pS (pC ?_))
   cases hC0
   exact⟨[],by rfl,by rfl,by rfl⟩
  ·refine oS tI ?_
   refine oX hC0 (fun hC0 hc3=> ?_) (fun hC0 hc3=> ?_)
   ·refine oS tI ?_
    refine oV (pS (pC ?_))
    cases hC0
    exact⟨[],by rfl,by rfl,by rfl⟩
   ·refine oS tI ?_
    refine oX hC0 (fun hC0 hc4=> ?_) (fun hC0 hc4=> ?_)
    ·refine oS tI ?_
     refine oV (pS (pC ?_))
     cases hC0
     exact⟨[],by rfl,by rfl,by rfl⟩
    ·obtain⟨Z,hv2,hw2,hC0⟩:=p8 hC0
     try simp only[go_sem] at hw2
     refine oS tI ?_ (hp:=by exact(p7 hv2)) (h:=by simp only[go_sem,hw2];rfl)
     refine oX hC0 (fun hC0 hc5=> ?_) (fun hC0 hc5=> ?_)
     ·obtain⟨hg3,hC0⟩:=oU hC0
      refine oS tI ?_ (hp:=by exact hg3)
      refine oV (pS (pC ?_))
      cases hC0
      exact⟨[],by rfl,by rfl,by rfl⟩
     ·refine oS tI ?_ (hp:=by exact And.intro (fun hh=>hh) (And.intro (fun hh=>hh) ((fun hh=>pZ hh))))
      refine oX hC0 (fun hC0 hc6=> ?_) (fun hC0 hc6=> ?_)
      ·obtain⟨hg4,hC0⟩:=oU hC0
       obtain⟨aA,hv5,hw5,hC0⟩:=p8 hC0
       try simp only[go_sem] at hw5
       refine oS tI ?_ (hp:=by exact And.intro hg4 ((p7 hv5))) (h:=by simp only[go_sem,hw5];rfl)
       refine oS tI ?_ (hp:=by exact And.intro (fun hh=>hh) ((fun hh=>pZ hh)))
       refine oX hC0 (fun hC0 hc7=> ?_) (fun hC0 hc7=> ?_)
       ·refine oS tI ?_
        refine oV (pS (pC ?_))
        cases hC0
        exact⟨[],by rfl,by rfl,by rfl⟩
       ·refine p6 (pB (oW ?_))
        refine oS tI ?_
        refine oV ?_
        cases hC0
        exact⟨[],by rfl,by rfl,by rfl⟩
      ·refine oS tI ?_ (hp:=by exact And.intro (fun hh=>hh) (And.intro (fun hh=>hh) ((fun hh=>pZ hh))))
       refine oX hC0 (fun hC0 hc8=> ?_) (fun hC0 hc8=> ?_)
       ·obtain⟨hg6,hC0⟩:=oU hC0
        obtain⟨aB,hv7,hw7,hC0⟩:=p8 hC0
        try simp only[go_sem] at hw7
        refine oS tI ?_ (hp:=by exact And.intro hg6 ((p7 hv7))) (h:=by simp only[go_sem,hw7];rfl)
        refine oS tI ?_ (hp:=by exact And.intro (fun hh=>hh) ((fun hh=>pZ hh)))
        refine oX hC0 (fun hC0 hc9=> ?_) (fun hC0 hc9=> ?_)
        ·obtain⟨aC,hv8,hw8,hC0⟩:=p8 hC0
         try simp only[go_sem] at hw8
         refine oS tI ?_ (hp:=by exact(p7 hv8)) (h:=by simp only[go_sem,hw8];rfl)
         refine oV (pS (pC ?_))
         cases hC0
         exact⟨[],by rfl,by rfl,by rfl⟩
        ·refine p6 (pB (oW ?_))
         refine oS tI ?_
         refine oV ?_
         cases hC0
         exact⟨[],by rfl,by rfl,by rfl⟩
       ·refine p6 (pB (oW ?_))
        refine oS tI ?_
        refine oV ?_
        cases hC0
        exact⟨[],by rfl,by rfl,by rfl⟩
attribute [irreducible] D6
end
end Go.Proofs.YtfchbnahjcdiiaaGreatDoor
