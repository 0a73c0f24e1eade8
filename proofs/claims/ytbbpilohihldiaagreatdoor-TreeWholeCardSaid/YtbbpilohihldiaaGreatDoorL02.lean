/- Packed by a program of mine (wip/tools/pack.py): the same texts with short names and few blanks. -/
import Derived.BigCall
import Derived.BigGuard
import Derived.Handy
import Derived.KernelRfl
import Derived.Lib.Hide
import Derived.Lib.ItoaMem
import Derived.Lib.MapLaws
import Derived.Lib.TrimAscii
import Derived.Lib.TrimUEq
import Derived.Lib.ValidLaws
import Derived.LoopIn
import Derived.LoopNIn
import Derived.OwnWalkIn
import Derived.RangeFuncBox
import Derived.RangeFuncLeaves
import Derived.Shelf.Abstract
import Derived.Shelf.Small.Strs
import Derived.Shelf.Spec.SlicesInsertGrow
import Derived.Shelf.Strings.Repeat
import Derived.TacticsInMore
import Derived.Test.YtbbpilohihldiaaGreatDoorChecked
import Derived.Test.YtbbpilohihldiaaGreatDoorProg
import Derived.WalkKit
import Derived.Test.YtbbpilohihldiaaGreatDoorL01
set_option linter.unusedVariables false
set_option linter.unusedSimpArgs false
set_option linter.unusedSectionVars false
set_option maxRecDepth 100000
set_option maxHeartbeats 4000000
namespace Go.Proofs.YtbbpilohihldiaaGreatDoor
open Vc Go.RowKit
@[go_sem] def noC:List pA->List p9->Option pF:=fun _ _=>none
def vJ (l:List (List UInt8)):List (List UInt8):=l.mergeSort fun x y=>decide (x<=y)
@[go_sem] def a91:(t:Ty)->List t.den->Option (List t.den)
 | .str,l=>some (vJ l)
 |_,_=>none
theorem a92 {g:Gh}{w:World}: ∀{l:List (List UInt8)}{xs:List Value},sC (Rd g w .str) 1 l xs->xs=l.map Go.Proofs.encStr
 |[],_,h=>h
 |_::_,_,⟨c1,c2,e,_,h2,h3⟩=>by rw[e,show c1=_ from h2,a92 h3];rfl
theorem a93 {g:Gh}{w:World}: ∀(l:List (List UInt8)),sC (Rd g w .str) 1 l (l.map Go.Proofs.encStr)
 |[]=>rfl
 |x::l=>⟨[.string ⟨x.toArray⟩],_,rfl,rfl,rfl,a93 l⟩
theorem aIG (s:List (List UInt8)) (cur:Array Value) (h:s.length<=cur.size):(Go.Sort.putCells Go.Proofs.encStr 0 s.toArray cur).toList.take s.length=s.map Go.Proofs.encStr:=by
 apply List.ext_getElem
 ·simp [Go.Sort.putCells];omega
 ·intro i h1 h2;have hi:i<s.length:=by simpa using h2
  simp only[Go.Sort.putCells,List.getElem_take,Array.getElem_toList,Array.getElem_mapIdx,List.getElem_map];rw[aQj (by simp;exact hi)];simp [hi]
theorem aIH:zA Tryz.prog 147 noC/\∀F,some a91=some F->SA Tryz.prog 147 F:=by
 refine⟨⟨fun _ _=>rfl,fun g w args vals L r _ _ hC _=>by cases hC⟩,fun F hF=> ?_⟩;cases hF;intro g w e t l l' v n xs hT hown hF hl hn hf;cases t with
 |str=>
  have hf:vJ l=l':=aQo hf;subst hf;subst hl;have hlen:(vJ l).length=l.length:=by simp [vJ]
  obtain⟨hx,⟨rfl,h0⟩ |⟨b,cap,cur,rfl,hb0,hbk,hnc,hcm,hcs,htk⟩⟩:=hown
  ·obtain rfl:l=[]:=aRT.1 h0;refine(Any.slices_Sort_string_none Tryz.lays190 none 0 w).mono ?_;rintro en w' ⟨rfl,rfl⟩;exact⟨rfl,hlen,[],⟨rfl,.inl ⟨rfl,rfl⟩⟩,by simp [vJ,sC],⟨rfl,rfl,rfl,aQF _,fun _ _ _=>rfl⟩⟩
  ·have hxs:=a92 hF;subst hxs;have hc1:(Ty.str).cells=1:=rfl;rw[hc1,aSt] at hcs htk;have hbl:b<w.heap.size:=by
    rcases aRV b w.heap.size with h|h
    ·exact h
    ·rw[Array.getElem?_eq_none h] at hbk;cases hbk
   have hH:Go.Sort.Holds Go.Proofs.encStr w b 0 l.toArray:=by
    intro j hj;have hj':j<l.length:=by simpa using hj
    refine⟨?_,Lib.frozen_of_heap hbk _⟩;rw[Lib.cell_of_heap hbk,aQV];have h2:(cur.toList.take l.length)[j]? =(l.map Go.Proofs.encStr)[j]? :=by rw[htk]
    rw[aSm hj',aRo] at h2;rw[h2];simp [hj']
   refine(Any.slices_Sort_string Tryz.lays190 b 0 cap l w hH hbl hn).mono ?_;rintro en w' ⟨rfl,m,os,rfl⟩;have hsz:(vJ l).length<=cur.size:=by rw[hlen,hcs];exact hnc
   have hnew:(Go.Sort.grow (Go.Sort.putRow Go.Proofs.encStr (Go.Sort.ahead w m) b 0 (vJ l).toArray) os).heap[b]? =some (.cells (Go.Sort.putCells Go.Proofs.encStr 0 (vJ l).toArray cur) e (0,0)):=by
    rw[Go.Sort.heap_grow_old _ _ (by simpa using hbl)];simp [Go.Sort.putRow,Go.Sort.mapBlock,aRO,hbk,Go.Sort.onCells]
   refine⟨rfl,hlen,(vJ l).map Go.Proofs.encStr,⟨by simp [hlen,hc1],.inr ⟨b,cap,_,rfl,hb0,hnew,hnc,hcm,?_,?_⟩⟩,a93 _,⟨rfl,rfl,rfl,by simp,fun k hk hne=> ?_⟩⟩
   ·rw[hc1,aSt];simpa[Go.Sort.putCells] using hcs
   ·rw[hc1,aSt,<-hlen];exact aIG _ _ hsz
   ·rw[Go.Sort.heap_grow_old _ _ (by simpa using hk)];have hkb:b≠k:=fun h=>hne (by rw[h];rfl);simp [Go.Sort.putRow,Go.Sort.mapBlock,aRO,hkb]
 |_=>cases hf
def L1 (s c:List UInt8):Int:=Lib.index s c
@[go_sem] def Z9:List pA->List p9->Option pF
 |[(.val .str O,none),(.val .str Z,none)],[]=>some ⟨[List.length O<4294967281],[(.val (.int .i64) (L1 O Z),none)],[]⟩
 |_,_=>none
theorem aII:zA Tryz.prog 173 Z9:=by
 refine KZ (fun _ _=>rfl) fun g w args vals L r hT ha hC hs=> ?_;unfold Z9 at hC;split at hC
 ·rename_i s c;cases hC;have h1:=hs _ aQH;obtain⟨va,_,rfl,ra,vb,_,rfl,rb,hv⟩:=ha;obtain rfl:=xT ra.1;obtain rfl:=xT rb.1;cases hv;obtain⟨m,hm⟩:=hT.2.2.1;exact⟨rfl,rfl,(a9Z (Any.strings_Index Tryz.lays143 ⟨List.toArray s⟩ ⟨List.toArray c⟩ m w h1 hm)).mono fun e w' ⟨he,hb⟩=>⟨_,he,hb,vB _ _ _ _,trivial⟩⟩
 ·cases hC
@[go_sem] def ZA:List pA->List p9->Option pF
 |[(.val .ref (some (0,0)),none)],[.cells (.pair .mref (.pair (.list (.int .u8)) .unit)) ((some (0,0)),O) [(1,1)],.grow Z 1 aA]=>some ⟨[aA=List.length O.1],[],[.cells (.pair .mref (.pair (.list (.int .u8)) .unit)) ((some (0,0)),O) [(1,1)],.grow Z 1 aA]⟩
 |_,_=>none
theorem aIJ {g:Gh}{w:World}{L:List p9}{e:pJ}{w':World}{u v:Value}{r:pF}(hE:qW g w (pM 0 L) e g w' u)
  (hH: ∀i,pC (pM 0 r.H) i=pC (pO e.upd (pM 0 L)) i) (hin: ∀i,i∈pE e.upd->i<L.length) (hlen:r.H.length=L.length)
  (hp: ∀i blk b o,r.H[i]? =some blk->r7 g i blk b o->w.heap.size<=b\/yE g (pM 0 L) b o)
  (hty: ∀(i:Nat) t x ts u y us,L[i]? =some (.cells t x ts)->r.H[i]? =some (.cells u y us)->u=t)
  (hret:NQ g w' r.ret v):IJ g w L r g w' v:=
 ⟨fun b o h=>⟨h,hE.le.cell b o h⟩,hE.heap.ext hH,hret,hE.fr.mono fun b o ⟨i,blk,_,h1,h2⟩=>⟨i,blk,h1,h2⟩,hp,fun _ _ _ _ _=>rfl,hty,fun _ _ _ h=>h,fun _ _ _ _ h=>h⟩
theorem aIK {P:Program}{ρ:Go.Shelf.Ren}(L:Lays.n240 P ρ) (X:Builder.X72 P ρ) {e:TypeId}(b:Nat) (w:World) (h0:w.cell? ⟨b,0,none⟩=some (.pointer none)) (hsh:w.shape? b=some (e,2)) (hl:liesAt P P.depth e (2/P.cellsOf e) 0 (ρ.t 72) 1=true) (hfz:w.frozen? ⟨b,0,none⟩=false):
  Calls P (ρ.f 240) #[.pointer (some ⟨b,0,none⟩)] w fun en w'=>en= .returned (.tuple #[])/\w'=w.setCell ⟨b,0,none⟩ (.pointer (some ⟨b,0,none⟩)):=by
 obtain⟨j,hj,hjs⟩:=aQz.1 X.sizeBuilder;have mixed:=L.mixed;have t72:=L.t72;have a72:=L.a72;have z72:=L.z72;have v72:=L.v72;have u72:=aQD L.t72;have t70:=L.t70;have a70:=L.a70;have z70:=L.z70;have v70:=L.v70;have u70:=aQD L.t70;have t9:=L.t9;have a9:=L.a9;have z9:=L.z9;have v9:=L.v9;have u9:=aQD L.t9;have t4:=L.t4;have a4:=L.a4;have z4:=L.z4;have v4:=L.v4;have u4:=aQD L.t4;have t164:=L.t164;have a164:=L.a164;have z164:=L.z164;have v164:=L.v164;have u164:=aQD L.t164
 go_enter L.f240,Body.n240_ntmps ρ
 go_wp2
 rw[Lib.run_to_unsafe w ⟨b,0,none⟩ L.t70 L.t164 hj (by rw[hjs];decide) hsh (Nat.zero_lt_succ 1)];simp only[Result.andThen];rw[Oper.upon_value]
 go_wp2
 rw[run_callFunc_extern L.f276 (by kernel_rfl) (by kernel_rfl) (by kernel_rfl) (e:=Extern.AbiNoEscape.same) (by kernel_rfl)];rw[Lib.run_noEscape];simp only[Result.andThen];rw[Oper.upon_value]
 go_wp2
 rw[Lib.run_from_unsafe w ⟨b,0,none⟩ L.t164 L.t70 hj hsh hl];simp only[Result.andThen];rw[Oper.upon_value]
 go_wp2
 go_end0
 exact⟨rfl,rfl⟩
theorem aIL:zA Tryz.prog 93 ZA:=by
 refine⟨fun _ _=>rfl,fun g w args vals L r hH ha hC hs=> ?_⟩;unfold ZA at hC;split at hC
 ·rename_i O Z aA;cases hC;obtain⟨va,_,rfl,ra,hv⟩:=ha;cases hv;have hg0:pC (pM 0 [p9.cells (.pair .mref (.pair (.list (.int .u8)) .unit)) ((some (0,0)),O) [(1,1)],.grow Z 1 aA]) 0=some (.cells (.pair .mref (.pair (.list (.int .u8)) .unit)) ((some (0,0)),O) [(1,1)]):=rfl;obtain⟨p,cs,hJ,hR,hra,hth,hns,htk⟩:=hH.blk 0 _ hg0;obtain⟨c1,c2,rfl,hR1,hR2⟩:=hR;obtain⟨p',hJ',⟨hp0,eb,heb,hk3⟩,hc1⟩:=hR1;rw[hJ] at hJ';obtain rfl:=aQo hJ';obtain⟨b,o,k⟩:=p;have ho:o=0:=by simpa using hp0
  subst ho;have hlies:liesAt Tryz.prog Tryz.prog.depth eb (2/Tryz.prog.cellsOf eb) 0 84 1=true:=by
   unfold WH at heb;split at heb
   ·rename_i h;subst h;kernel_rfl
   ·split at heb
    ·rename_i h;subst h;kernel_rfl
    ·cases heb
  have hva:va= .pointer (some ⟨b,0,none⟩):=by
   obtain⟨q,hq,e⟩:=zV ra.1;rw[hJ] at hq;cases hq;exact e
  subst hva;have hsh:w.shape? b=some (eb,2):=hth.2 (by decide) _ hk3;rcases hc1 with rfl|rfl
  ·have h0:w.cell? ⟨b,0,none⟩=some (.pointer none)/\w.frozen? ⟨b,0,none⟩=false:=⟨hra 0 _ rfl,(hth.1 0 (by decide)).2⟩;refine(aIK Tryz.lays240 Tryz.builderX72 b w h0.1 hsh hlies h0.2).mono ?_;rintro en w' ⟨rfl,rfl⟩;refine⟨_,g,rfl,?_⟩;have hE:=qW.store (side:=[]) (rds:=[]) hH (i:=0) (t:= .mref) (y:=some (0,0)) (off:=0) (k:=none) (p:=⟨b,0,k⟩) (cy:=[.pointer (some ⟨b,0,none⟩)]) (v:= .pointer (some ⟨b,0,none⟩)) hg0 hJ (z:=((some (0,0)),O)) (by rfl) ⟨_,hJ,⟨rfl,_,heb,hk3⟩,.inr rfl⟩ trivial (fun _ _ h=>by cases h) (fun _=>rfl);refine aIJ hE.1 ?_ ?_ rfl ?_ ?_ ?_
   ·intro i
    match i with
    |0=>rfl
    |1=>rfl
    |i+2=>rfl
   ·intro i hi;simp [pE] at hi;subst hi;exact Nat.zero_lt_succ _
   ·intro i blk b o hi ho;exact .inr ⟨i,blk,by rw[S8];simpa using hi,ho⟩
   ·intro i t x ts u y us h1 h2;rw[h1] at h2;cases h2;rfl
   ·exact⟨[],rfl,rfl⟩
  ·have h0:w.cell? ⟨b,0,none⟩=some (.pointer (some ⟨b,0,none⟩)):=hra 0 _ rfl;refine(Any.Builder_copyCheck_used Tryz.lays240 Tryz.builderX72 b w h0).mono ?_;rintro en w' ⟨rfl,rfl⟩;refine⟨_,g,rfl,⟨fun b o h=>⟨h,rfl⟩,hH,⟨[],rfl,rfl⟩,Fr.refl _ _ _,?_,fun _ _ _ _ _=>rfl,?_,fun _ _ _ h=>h,fun _ _ _ _ h=>h⟩⟩
   ·intro i blk b o hi ho;exact .inr ⟨i,blk,by rw[S8];simpa using hi,ho⟩
   ·intro i t x ts u y us h1 h2;rw[h1] at h2;cases h2;rfl
 ·cases hC
theorem a94 {P:Program}(w:World): ∀(l:List Int) (a:Addr) (acc:ByteArray),(∀j x,l[j]? =some x->w.cell? (a.add j)=some (.int .u8 x))->
  (loadBytes a acc l.length).run P w= .ok ⟨acc.data++(rW l).toArray⟩ w
 |[],a,acc,_=>by simp [loadBytes,rW]
 |x::l,a,acc,h=>by
  have h0:w.cell? a=some (.int .u8 x):=by
   have:=h 0 x rfl;simpa[Addr.add] using this
  have ih:=a94 (P:=P) w l (a.add 1) (acc.push (UInt8.ofNat x.toNat)) (fun j y hy=>by
   have:=h (j+1) y (by simpa using hy);have e:(a.add 1).add j=a.add (j+1):=by
    unfold Addr.add;by_cases hj:j=0
    ·subst hj;simp
    ·simp [hj];omega
   rw[e];exact this)
  have hx:x.toNat.toUInt8=UInt8.ofNat x.toNat:=rfl;simp only[aQp,loadBytes,aQB,run_load,h0,Result.andThen,hx];rw[ih];congr 1;apply ByteArray.ext;simp [ByteArray.push,rW]
theorem aIM {P:Program}(w:World) (pt it ty e:TypeId) (hp:P.underlying pt=some (.pointer e)) (hc:P.cellsOf e=1) (g cells:Nat) (hsh:w.shape? g=some (e,cells)) (l:List Int) (h0:l≠[]) (hn:l.length<=cells) (h63:l.length<=9223372036854775807)
  (hcell: ∀j x,l[j]? =some x->w.cell? ((⟨g,0,none⟩:Addr).add j)=some (.int .u8 x)):
  (Builtin.unsafeString_ #[pt,it] ty #[.pointer (some ⟨g,0,none⟩),.int .i64 l.length]).run P w= .ok (.string ⟨(rW l).toArray⟩) (w.freeze ⟨g,0,none⟩ l.length):=by
 have hl:l.length≠0:=by simpa using h0
 have hlb:=a94 (P:=P) w l ⟨g,0,none⟩ .empty hcell;have hlies:=Lib.liesAt_bytes (P:=P) hc (cells/P.cellsOf e) l.length (by rw[hc];simpa using hn);have h63': ¬(9223372036854775807:Int)<(l.length:Int):=by omega
 have hdef:Builtin.unsafeString_ #[pt,it] ty #[.pointer (some ⟨g,0,none⟩),.int .i64 l.length]=
   (do
    let n<-asInt (.int .i64 l.length)
    if n<0 then runtimePanic (.error "unsafe.String: len out of range")
    if n>IntKind.i64.max then unsupported (.unsafePointer "String: a length above the largest int")
    if n=0 then pure (.string .empty)
    else if<-variablesAt ⟨g,0,none⟩ (<-elemOf pt) n.toNat then do
     let s<-loadBytes ⟨g,0,none⟩ .empty n.toNat
     freeze ⟨g,0,none⟩ n.toNat
     pure (.string s)
    else unsupported (.unsafePointer "String: not so many bytes at ptr")):=rfl
 rw[hdef];have hmax:IntKind.i64.max=9223372036854775807:=rfl;have hneg: ¬(l.length:Int)<0:=by omega
 simp [asInt,asIntOf,hmax,h63',hneg,hl,variablesAt,hsh,elemOf,aQD hp,hlies,hlb]
theorem ZB {P:Program}{ρ:Go.Shelf.Ren}(L:Lays.n169 P ρ) (X:Builder.Extra P ρ) (b n cap:Nat) (a q:Option Addr) (s:ByteArray) (w w2:World)
  (c1:w.drew.cell? ⟨b,1,none⟩=some (.slice a n cap)) (hSD:(Builtin.unsafeSliceData_ #[(ρ.t 37)] (ρ.t 127) #[.slice a n cap]).run P w.drew= .ok (.pointer q) w.drew)
  (hUS:(Builtin.unsafeString_ #[(ρ.t 127),(ρ.t 3)] (ρ.t 9) #[.pointer q,.int .i64 n]).run P w.drew= .ok (.string s) w2):
  Calls P (ρ.f 169) #[.pointer (some ⟨b,0,none⟩)] w fun e w'=>e= .returned (.string s)/\w'=w2:=by
 have mixed:=L.mixed;have t72:=L.t72;have a72:=L.a72;have z72:=L.z72;have v72:=L.v72;have u72:=aQD L.t72;have t70:=L.t70;have a70:=L.a70;have z70:=L.z70;have v70:=L.v70;have u70:=aQD L.t70;have t37:=L.t37;have a37:=L.a37;have z37:=L.z37;have v37:=L.v37;have u37:=aQD L.t37;have t127:=L.t127;have a127:=L.a127;have z127:=L.z127;have v127:=L.v127;have u127:=aQD L.t127;have t3:=L.t3;have a3:=L.a3;have z3:=L.z3;have v3:=L.v3;have u3:=aQD L.t3;have t9:=L.t9;have a9:=L.a9;have z9:=L.z9;have v9:=L.v9;have u9:=aQD L.t9;have t5:=X.t5;have a5:=X.a5;have z5:=X.z5;have v5:=X.v5;have u5:=aQD X.t5
 go_enter L.f169,Body.n169_ntmps ρ
 go_wp2
 go_region_o
 all_goals (go_wp2;go_ret;exact⟨rfl,rfl⟩)
theorem aIN {P:Program}{ρ:Go.Shelf.Ren}(L:Lays.n169 P ρ) (X:Builder.Extra P ρ) (b g:Nat) (cur:Array Value) (w:World) (hlt:b<w.heap.size)
  (c1:w.drew.cell? ⟨b,1,none⟩=some (.slice (some ⟨g,0,none⟩) 0 0)) (hg:w.drew.heap[g]? =some (.cells cur (ρ.t 5) (0,0))):
  Calls P (ρ.f 169) #[.pointer (some ⟨b,0,none⟩)] w fun e w'=>e= .returned (.string ⟨#[]⟩)/\w'=w.drew.alloc (.view ⟨g,0,none⟩ (ρ.t 5)):=by
 have hUS:=Any.unsafeString_none L X;have hSD:(Builtin.unsafeSliceData_ #[(ρ.t 37)] (ρ.t 127) #[.slice (some ⟨g,0,none⟩) 0 0]).run P w.drew= .ok (.pointer (some ⟨w.drew.heap.size,0,none⟩)) (w.drew.alloc (.view ⟨g,0,none⟩ (ρ.t 5))):=
  Lib.run_unsafeSliceData_zero w.drew _ _ (ρ.t 5) L.t127 ⟨g,0,none⟩ 0 ((ρ.t 5),cur.size) (by simp [World.shape?,hg])
 have c2:(w.drew.alloc (.view ⟨g,0,none⟩ (ρ.t 5))).cell? ⟨b,1,none⟩=some (.slice (some ⟨g,0,none⟩) 0 0):=
  (aQK (a:=⟨b,1,none⟩) (Lib.alloc_old w.drew _ b hlt)).trans c1
 have c3:(w.alloc (.view ⟨g,0,none⟩ (ρ.t 5))).drew.cell? ⟨b,1,none⟩=some (.slice (some ⟨g,0,none⟩) 0 0):=c2;have c0:w.cell? ⟨b,1,none⟩=some (.slice (some ⟨g,0,none⟩) 0 0):=c1;have mixed:=L.mixed;have t72:=L.t72;have a72:=L.a72;have z72:=L.z72;have v72:=L.v72;have u72:=aQD L.t72;have t70:=L.t70;have a70:=L.a70;have z70:=L.z70;have v70:=L.v70;have u70:=aQD L.t70;have t37:=L.t37;have a37:=L.a37;have z37:=L.z37;have v37:=L.v37;have u37:=aQD L.t37;have t127:=L.t127;have a127:=L.a127;have z127:=L.z127;have v127:=L.v127;have u127:=aQD L.t127;have t3:=L.t3;have a3:=L.a3;have z3:=L.z3;have v3:=L.v3;have u3:=aQD L.t3;have t9:=L.t9;have a9:=L.a9;have z9:=L.z9;have v9:=L.v9;have u9:=aQD L.t9;have t5:=X.t5;have a5:=X.a5;have z5:=X.z5;have v5:=X.v5;have u5:=aQD X.t5
 go_enter L.f169,Body.n169_ntmps ρ
 go_wp2
 go_region_o
 all_goals (go_wp2;go_ret;exact⟨rfl,rfl⟩)
@[go_sem] def ZC:List pA->List p9->Option pF
 |[(.val .ref (some (0,0)),none)],[.cells (.pair .mref (.pair (.list (.int .u8)) .unit)) ((some (0,0)),O) [(1,1)],.grow 5 1 Z]=>some ⟨[Z=List.length O.1],[(.val .str (rW O.1),none)],[.cells (.pair .mref (.pair (.list (.int .u8)) .unit)) ((some (0,0)),O) [],.dead]⟩
 |_,_=>none
theorem ZD {g:Gh}{w w':World}{m:Option (Nat×Nat)}{b:(Ty.pair (.list (.int .u8)) .unit).den}{e n:Nat}{s:List UInt8}{sd:List Prop}(hH:rK g w (pM 0 [p9.cells (.pair .mref (.pair (.list (.int .u8)) .unit)) (m,b) [(1,1)],.grow e 1 n]))
  (hos:w'.os=w.os) (htape:w'.tape=w.tape) (hout:w'.output=w.output) (hsz:w.heap.size<=w'.heap.size)
  (hcell: ∀b o,b<w.heap.size->w'.cell? ⟨b,o,none⟩=w.cell? ⟨b,o,none⟩) (hshape: ∀b s,w.shape? b=some s->w'.shape? b=some s)
  (hblk: ∀b,b<w.heap.size->(∀o,¬r7 g 1 (.grow e 1 n) b o)->w'.heap[b]? =w.heap[b]?):
  IJ g w [p9.cells (.pair .mref (.pair (.list (.int .u8)) .unit)) (m,b) [(1,1)],.grow e 1 n] ⟨sd,[(.val .str s,none)],[.cells (.pair .mref (.pair (.list (.int .u8)) .unit)) (m,b) [],.dead]⟩ g w' (.string ⟨s.toArray⟩):=by
 have hg0:pC (pM 0 [p9.cells (.pair .mref (.pair (.list (.int .u8)) .unit)) (m,b) [(1,1)],.grow e 1 n]) 0=some (.cells (.pair .mref (.pair (.list (.int .u8)) .unit)) (m,b) [(1,1)]):=rfl;have hg1:pC (pM 0 [p9.cells (.pair .mref (.pair (.list (.int .u8)) .unit)) (m,b) [(1,1)],.grow e 1 n]) 1=some (.grow e 1 n):=rfl;have hle:Le g w g w':=⟨fun _ _ h=>h,fun b o h=>hcell b o (hH.sl b o h),fun _ _ h=>h,fun _ _ _ h=>h⟩;have hno: ∀c o,r7 g 0 (.cells (.pair .mref (.pair (.list (.int .u8)) .unit)) (m,b) [(1,1)]) c o->∀o',¬r7 g 1 (.grow e 1 n) c o':=fun c o h o' h'=>by
  obtain⟨v,hv,hb⟩:=h';exact hH.dis 0 1 _ _ c o (by decide) hg0 hg1 h ⟨v,hv,hb⟩
 obtain⟨p,cs,hJ,hR,hra,hth,hns,htk⟩:=hH.blk 0 _ hg0;have hown0: ∀j,j<2->r7 g 0 (.cells (.pair .mref (.pair (.list (.int .u8)) .unit)) (m,b) [(1,1)]) p.1 (p.2+j):=fun j hj=>⟨p,hJ,rfl,Nat.le_add_right _ _,Nat.add_lt_add_left hj _⟩;have hpl:p.1<w.heap.size:=NH (hH.blk 0 _ hg0) (hown0 0 (by decide));have hpb:w'.heap[p.1]? =w.heap[p.1]? :=hblk p.1 hpl (hno p.1 _ (hown0 0 (by decide)));have hbk0:z6 g w' 0 (.cells (.pair .mref (.pair (.list (.int .u8)) .unit)) (m,b) []):=
  ⟨p,cs,hJ,wC hle hR,fun j v hj=>(hcell _ _ hpl).trans (hra j v hj),⟨fun j hj=>by
   have h1:=hth.1 j hj;rw[hcell _ _ hpl];exact⟨h1.1,(aRi (a:=⟨p.1,p.2+j,none⟩) hpb).trans h1.2⟩,fun h s hs=>hshape _ _ (hth.2 h s hs)⟩,hns,fun _ _ h=>by cases h⟩
 refine⟨fun b o h=>⟨h,hcell b o (hH.sl b o h)⟩,?_,(show qJ g w' (.val .str s,none) (.string ⟨s.toArray⟩) from⟨F2 _ _ _,trivial⟩),⟨hos,htape,hout,hsz,?_,?_,fun _ _ h=> .inl h,fun b s h=> .inl (hshape b s h)⟩,?_,fun _ _ _ _ _=>rfl,?_,fun _ _ _ h=>h,fun _ _ _ _ h=>h⟩
 ·refine⟨fun i blk h=> ?_,fun i j bi bj c o hij hi hj hoi hoj=> ?_,fun b o h=>aQZ (hH.sl b o h) hsz,MQ hH.tab.1 hsz (fun c hc=>hblk c (aQZ hc hH.tab.1.1) fun o ho=>absurd (hH.tab.2 1 _ c o hg1 ho) (by omega)),fun i blk c o h ho=> ?_⟩
  ·match i,h with
   |0,h=>cases h;exact hbk0
   |1,h=>cases h;trivial
   |i+2,h=>simp [pM,pC] at h
  ·match i,j,hi,hj with
   |0,0,_,_=>exact hij rfl
   |0,1,_,hj=>cases hj;exact hoj
   |1,_,hi,_=>cases hi;exact hoi
   |0,j+2,_,hj=>simp [pM,pC] at hj
   |i+2,_,hi,_=>simp [pM,pC] at hi
  ·match i,h with
   |0,h=>cases h;exact hH.tab.2 0 _ c o hg0 ho
   |1,h=>cases h;exact ho.elim
   |i+2,h=>simp [pM,pC] at h
 ·intro c hc hn;exact hblk c hc fun o ho=>hn o ⟨1,_,hg1,ho⟩
 ·intro c o hc hn;exact⟨hcell c o hc,aRi (a:=⟨c,o,none⟩) (hblk c hc fun o' ho=>hn ⟨1,_,hg1,by obtain⟨v,hv,hb⟩:=ho;exact⟨v,hv,hb⟩⟩)⟩
 ·intro i blk c o hi ho
  match i,hi with
  |0,hi=>cases hi;exact .inr ⟨0,_,hg0,ho⟩
  |1,hi=>cases hi;exact ho.elim
  |i+2,hi=>simp at hi
 ·intro i t x ts u y us h1 h2
  match i,h1,h2 with
  |0,h1,h2=>cases h1;cases h2;rfl
  |1,h1,_=>cases h1
  |i+2,h1,_=>simp at h1
theorem aIO (w:World) (a p:Addr) (n:Nat):(w.freeze a n).cell? p=w.cell? p:=by
 unfold World.freeze;split
 ·rfl
 ·simp only[World.cell?,aRO];by_cases h:a.block=p.block
  ·rw[aQj h];cases w.heap[p.block]? with
   |none=>rfl
   |some o=>cases o<;>rfl
  ·rw[aQl h]
theorem aIP (w:World) (a:Addr) (n b:Nat):(w.freeze a n).shape? b=w.shape? b:=by
 unfold World.freeze;split
 ·rfl
 ·simp only[World.shape?,aRO];by_cases h:a.block=b
  ·rw[aQj h];cases w.heap[b]? with
   |none=>rfl
   |some o=>cases o<;>rfl
  ·rw[aQl h]
theorem aIQ (w:World) (a:Addr) (n b:Nat) (h:b≠a.block):(w.freeze a n).heap[b]? =w.heap[b]? :=by
 unfold World.freeze;split
 ·rfl
 ·simp only[aRO];rw[aQl (Ne.symm h)]
theorem aIR (w:World) (a:Addr) (n:Nat):(w.freeze a n).os=w.os/\(w.freeze a n).tape=w.tape/\(w.freeze a n).output=w.output/\(w.freeze a n).heap.size=w.heap.size:=by
 unfold World.freeze;split
 ·exact⟨rfl,rfl,rfl,rfl⟩
 ·exact⟨rfl,rfl,rfl,by simp⟩
theorem a95 {g:Gh}{w:World}{b:Nat}: ∀{l:List Int}{o:Nat},xC (Rd g w (.int .u8)) w g.S 1 b o l->∀j x,l[j]? =some x->w.cell? ⟨b,o+j,none⟩=some (.int .u8 x)
 |[],_,_,_,_,h=>by cases h
 |y::l,o,⟨⟨cs,_,hra,_,hR⟩,hl⟩,j,x,h=>by
  match j,h with
  |0,h=>
   cases h;have hR:cs=[.int .u8 y]:=hR;subst hR;exact hra 0 _ rfl
  |j+1,h=>
   have:=a95 hl j x (by simpa using h);rw[show o+(j+1)=o+1+j by omega];exact this
theorem aIS {u:Ty}{m:Option (Nat×Nat)}{bv:(Ty.pair (.list (.int .u8)) .unit).den}{l:List u.den}(hget:pX (.list u) (.pair .mref (.pair (.list (.int .u8)) .unit)) (m,bv) 1=some l):l.length=bv.1.length:=by
 have h2:pX (.list u) (.list (.int .u8)) bv.1 0=some l:=hget;simp only[pX] at h2;split at h2
 ·rename_i h;injection h with h
  subst h;cases h2;rfl
 ·cases h2
theorem aIT:zA Tryz.prog 54 ZC:=by
 refine⟨fun _ _=>rfl,fun g w args vals L r hH ha hC hs=> ?_⟩;unfold ZC at hC;split at hC
 ·rename_i bv n;cases hC;obtain rfl:n=List.length bv.1:=hs _ (by simp);obtain⟨va,_,rfl,ra,hv⟩:=ha;cases hv;have hg0:pC (pM 0 [p9.cells (.pair .mref (.pair (.list (.int .u8)) .unit)) ((some (0,0)),bv) [(1,1)],.grow 5 1 (List.length bv.1)]) 0=some (.cells (.pair .mref (.pair (.list (.int .u8)) .unit)) ((some (0,0)),bv) [(1,1)]):=rfl;have hg1:pC (pM 0 [p9.cells (.pair .mref (.pair (.list (.int .u8)) .unit)) ((some (0,0)),bv) [(1,1)],.grow 5 1 (List.length bv.1)]) 1=some (.grow 5 1 (List.length bv.1)):=rfl;obtain⟨p,cs,hJ,hR,hra,hth,hns,htk⟩:=hH.blk 0 _ hg0;obtain⟨v',xs,hv',hown,hmax,hsl⟩:=hH.blk 1 _ hg1;obtain⟨c1,c2,rfl,hR1,hR2⟩:=hR;obtain⟨d1,d2,rfl,⟨a,cap,rfl,hcap,hl⟩,hd2⟩:=hR2;obtain⟨p',hJ',⟨hp0,_,_,_⟩,hc1⟩:=hR1;rw[hJ] at hJ';obtain rfl:=aQo hJ';obtain⟨b,o,k⟩:=p;have ho:o=0:=by simpa using hp0
  subst ho;have hlen1:c1.length=1:=by rcases hc1 with rfl|rfl<;>rfl
  obtain⟨q,hq,hva⟩:=zV ra.1;rw[hJ] at hq;cases hq;subst hva;have hcell1:w.cell? ⟨b,1,none⟩=some (.slice a bv.1.length cap):=hra 1 _ (by rw[aQv (by omega),hlen1];rfl);obtain⟨u,l,v,hget,hcv,hcur⟩:=htk 1 1 (by simp);have hvv:v= .slice a bv.1.length cap:=by
   rw[aQv (by omega),hlen1] at hcv;exact(aQo hcv).symm
  have hll:l.length=bv.1.length:=aIS hget;rw[hll,hv',hvv] at hcur;obtain rfl:=aQo hcur;have hbl:b<w.heap.size:=RX hcell1;have hdr: ∀(s:List UInt8) (sd:List Prop),IJ g w _ ⟨sd,[(.val .str s,none)],[.cells (.pair .mref (.pair (.list (.int .u8)) .unit)) ((some (0,0)),bv) [],.dead]⟩ g w.drew (.string ⟨s.toArray⟩):=fun s sd=>
   ZD hH rfl rfl rfl (aQF _) (fun _ _ _=>rfl) (fun _ _ h=>h) (fun _ _ _=>rfl)
  obtain⟨hx,⟨hnil,h0⟩ |⟨gb,cap',cur,hsl',hb0,hbk,hnc,hcm,hcs,htake⟩⟩:=hown
  ·have hb0:bv.1=[]:=aRT.1 h0;have hz:rW bv.1=[]:=by rw[hb0];rfl
   have hl0:List.length bv.1=0:=h0;injection hnil with e1 e2 e3
   subst e1;subst e3;refine(ZB Tryz.lays169 Tryz.builderExtra b bv.1.length 0 none none .empty w w.drew hcell1 rfl (by rw[hl0];exact Any.unsafeString_none Tryz.lays169 Tryz.builderExtra w.drew none)).mono ?_;rintro e w' ⟨rfl,rfl⟩;exact⟨_,g,rfl,by rw[hz];exact hdr [] _⟩
  ·injection hsl' with e1 e2 e3
   subst e1;subst e3;have hsz:bv.1.length<=cur.size:=by omega
   by_cases hb0:bv.1=[]
   ·have hz:rW bv.1=[]:=by rw[hb0];rfl
    have hl0:List.length bv.1=0:=by rw[hb0];rfl
    by_cases hc0:cap=0
    ·subst hc0;rw[hl0] at hcell1;refine(aIN Tryz.lays169 Tryz.builderExtra b gb cur w hbl hcell1 hbk).mono ?_;rintro e w' ⟨rfl,rfl⟩;have hold: ∀c,c<w.heap.size->(w.drew.alloc (.view ⟨gb,0,none⟩ 5)).heap[c]? =w.heap[c]? :=fun c hc=>Lib.alloc_old w.drew _ c hc;refine⟨_,g,rfl,?_⟩;rw[hz];exact ZD hH rfl rfl rfl (by simp) (fun c o hc=>aQK (a:=⟨c,o,none⟩) (hold c hc)) (fun c s h=>(CY (hold c (CX h))).trans h) (fun c hc _=>hold c hc)
    ·refine(ZB Tryz.lays169 Tryz.builderExtra b bv.1.length cap (some ⟨gb,0,none⟩) (some ⟨gb,0,none⟩) .empty w w.drew hcell1 (Lib.run_unsafeSliceData_row _ _ _ _ _ _ hc0) (by rw[hl0];exact Any.unsafeString_none Tryz.lays169 Tryz.builderExtra w.drew _)).mono ?_;rintro e w' ⟨rfl,rfl⟩;exact⟨_,g,rfl,by rw[hz];exact hdr [] _⟩
   ·have hcap0:cap≠0:=fun h=>hb0 (aRT.1 (by omega));have hcb: ∀j x,bv.1[j]? =some x->w.cell? ⟨gb,j,none⟩=some (.int .u8 x):=by
     rcases hl with hl|⟨b',o',ha',hl⟩
     ·exact absurd hl hb0
     ·cases ha';intro j x hj;have:=a95 hl j x hj;rwa [aQV] at this
    have hbk':w.drew.heap[gb]? =some (.cells cur 5 (0,0)):=hbk;have hshp:w.drew.shape? gb=some (5,cur.size):=by simp only[World.shape?,hbk']
    refine(ZB Tryz.lays169 Tryz.builderExtra b bv.1.length cap (some ⟨gb,0,none⟩) (some ⟨gb,0,none⟩) ⟨(rW bv.1).toArray⟩ w (w.drew.freeze ⟨gb,0,none⟩ bv.1.length) hcell1 (Lib.run_unsafeSliceData_row _ _ _ _ _ _ hcap0)
     (aIM w.drew _ _ _ 5 (Tryz.lays169).t127 (Tryz.builderExtra).cellsByte gb cur.size hshp bv.1 hb0 hsz (by unfold maxLen at hcm;omega) (fun j x h=>by rw[aRz,aQV];exact hcb j x h))).mono ?_
    rintro e w' ⟨rfl,rfl⟩;refine⟨_,g,rfl,?_⟩;have hblk: ∀c,(∀o,¬r7 g 1 (.grow 5 1 (List.length bv.1)) c o)->(w.drew.freeze ⟨gb,0,none⟩ bv.1.length).heap[c]? =w.heap[c]? :=fun c hc=>aIQ w.drew _ _ c fun e=>hc 0 ⟨_,hv',by rw[e];rfl⟩;have hr:=aIR w.drew ⟨gb,0,none⟩ bv.1.length;refine ZD hH hr.1 hr.2.1 hr.2.2.1 (aR0 hr.2.2.2.symm) (fun c o _=>aIO w.drew _ _ _) (fun c s h=>(aIP w.drew _ _ c).trans h) (fun c _ hc=>hblk c hc)
 ·cases hC
theorem a96:sB Tryz.prog 149 ⟨(.pair .str (.pair .str .unit)),0,0,false,[]⟩:=⟨by kernel_rfl,(show ((_/\∃_,_/\_)\/_)/\_ from⟨.inl ⟨rfl,_,Tryz.underlying149,(show _/\_/\_/\_ from⟨rfl,by kernel_rfl,by kernel_rfl,(show _/\_/\_/\_ from⟨rfl,by kernel_rfl,by kernel_rfl,trivial⟩)⟩)⟩,(fun h=>absurd h (by decide))⟩)⟩
theorem T1 {P:Program}(w:World) (dT sT ty elem:TypeId) (sz g o dLen dCap:Nat) (a:Addr) (sLen sCap:Nat) (cur:Array Value) (t:TypeId) (cs:List Value)
  (hu:P.underlying dT=some (.slice elem)) (hs:(P.info? elem).map (·.size)=some sz)
  (hg:w.heap[g]? =some (.cells cur t (0,0))) (hn:cs.length=Nat.min sLen dLen*sz)
  (hsrc: ∀j v,cs[j]? =some v->w.cell? (a.add j)=some v) (hfit:o+cs.length<=cur.size) (h1: ∀v∈cs,v.oneCell'=true):
  (Builtin.copy_ #[dT,sT] ty #[.slice (some ⟨g,o,none⟩) dLen dCap,.slice (some a) sLen sCap]).run P w=
   .ok (goInt (Nat.min sLen dLen:Nat)) (w.setRow g (cur.toList.take o++cs++cur.toList.drop (o+cs.length)).toArray):=by
 have hl:=run_loadCells_list (P:=P) w a cs hsrc;have hst:=run_storeCells_at P g o t cs 0 cur w hg (by simpa using hfit) h1;cases hq:P.info? elem with
 |none=>simp [hq] at hs
 |some i=>
  have hi:i.size=sz:=by simpa[hq] using hs
  simp [Builtin.copy_,aQD hu,Builtin.lenOf,Builtin.firstCells,sizeOf,typeInfo,hq,hi,<-hn,hl,hst]
theorem aIU {P:Program}(w:World) (tS tR e:TypeId) (ht:P.underlying tS=some (.slice e)) (size:Nat) (hz: ∀w,(Go.sizeOf e).run P w= .ok size w)
  (a b:Addr) (la ca lb cb:Nat) (hne:a.block≠b.block) (tA tB:TypeId) (kA kB:Nat)
  (hsa:w.shape? a.block=some (tA,kA)) (hkA:kA≠0) (hsb:w.shape? b.block=some (tB,kB)) (hfb: ∀o,w.frozen? ⟨b.block,o,none⟩=false) (hsp:b.spot=none):
  (Extern.SlicesOverlaps.overlaps #[tS,tS] #[tR] #[.slice (some a) la ca,.slice (some b) lb cb]).run P w= .ok (.bool false) w:=by
 have hnb:(a.block != b.block)=true:=by simpa using hne
 have hnb':(a.block==b.block)=false:=by simpa using hne
 have hfb1:w.frozen? b=false:=by
  obtain⟨bb,bo,bs⟩:=b;cases hsp;exact hfb bo
 have hfb2:=hfb kB;change Sem.run P (α:=Value) (do
  let some t:=(#[tS,tS]:Array TypeId)[0]? |stuck "slices.overlaps: no parameter types"
  let .slice elem<-underlying t|stuck "slices.overlaps: slice type expected"
  let size<-sizeOf elem
  match (some a:Option Addr),(some b:Option Addr) with
  |some a,some b=>
   if la=0\/lb=0\/size=0 then pure (Value.bool false)
   else if a.block != b.block&&(<-frozen a)&&(<-frozen b) then unsupported .addressObserved
   else do
    if a.block != b.block then do
     noView a;noView b
     if<-mayBeOne a b then return Value.bool ((<-choose (.extern "sameAddr.stringBytes" 2))==1)
    pure (Value.bool (a.block==b.block&&a.off<b.off+lb*size&&b.off<a.off+la*size))
  |_,_=>pure (Value.bool false)) w=_
 by_cases h0:la=0\/lb=0\/size=0
 ·simp [aQD ht,hz,h0]
 ·cases kA with
  |zero=>exact absurd rfl hkA
  |succ kA=>
   cases hfa:w.frozen? a<;>cases hfe:w.frozen? {block:=a.block,off:=kA+1}<;>
   simp [aQD ht,hz,h0,hnb,hnb',frozen,noView,viewAt,mayBeOne,stringish,shape,Sem.run,hsa,hsb,hfb1,hfb2,hfa,hfe]
theorem aIV {α:Type}{l:List α}{i n:Nat}(hin:i<=n):(l.drop (i*2)).take ((n-i)*2)=(l.take (n*2)).drop (i*2):=by
 rw[List.drop_take,show n*2-i*2=(n-i)*2 by omega]
theorem a97 {α:Type}{l:List α}{i n:Nat}{v:α}(h:v∈(l.drop (i*2)).take ((n-i)*2)):v∈l.take (n*2):=by
 rw[show (n-i)*2=n*2-i*2 by omega,<-List.drop_take] at h;exact List.mem_of_mem_drop h
theorem aIW {cur c1 c2:Array Value}{mid vs:List Value}{i n m:Nat}(hc1:c1=(cur.toList.take ((i+m)*2)++mid++cur.toList.drop ((i+m)*2+mid.length)).toArray) (hc2:c2=(c1.toList.take (i*2)++vs++c1.toList.drop (i*2+vs.length)).toArray)
  (hml:mid.length=(n-i)*2) (hvl:vs.length=m*2) (hcur:(n+m)*2<=cur.toList.length) (hin:i<=n):c2.toList.take ((n+m)*2)=cur.toList.take (i*2)++vs++mid:=by
 have e1:c1.toList=cur.toList.take ((i+m)*2)++(mid++cur.toList.drop ((i+m)*2+mid.length)):=by rw[hc1,aQt]
 have l1:(cur.toList.take ((i+m)*2)).length=(i+m)*2:=by rw[aQM];omega
 have e2:c1.toList.take (i*2)=cur.toList.take (i*2):=by
  rw[e1,aRR (by omega),List.take_take,Nat.min_eq_left (by omega)]
 have e3:c1.toList.drop (i*2+vs.length)=mid++cur.toList.drop ((i+m)*2+mid.length):=by
  rw[e1,hvl,show i*2+m*2=(cur.toList.take ((i+m)*2)).length by omega,aRY]
 have l2:(cur.toList.take (i*2)).length=i*2:=by rw[aQM];omega
 have e4:c2.toList=(cur.toList.take (i*2)++vs++mid)++cur.toList.drop ((i+m)*2+mid.length):=by rw[hc2,e2,e3];simp only[aQt]
 rw[e4,show (n+m)*2=(cur.toList.take (i*2)++vs++mid).length by simp only[aQm];omega,aRw]
theorem aIX (b n c i vb voff m vc:Nat) (cur:Array Value) (vs:List Value) (w:World) (hi:i<n) (hm:0<m) (hroom:n+m<=c) (hc63:c<=maxLen) (hvb:vb≠b)
  (hg:w.heap[b]? =some (.cells cur 149 (0,0))) (hcs:cur.size=c*2) (hvl:vs.length=m*2)
  (hvs: ∀j v,vs[j]? =some v->w.cell? ⟨vb,voff+j,none⟩=some v) (h1: ∀v∈cur.toList.take (n*2),v.oneCell'=true) (h1v: ∀v∈vs,v.oneCell'=true):
  Calls Tryz.prog 240 #[.slice (some ⟨b,0,none⟩) n c,.int .i64 i,.slice (some ⟨vb,voff,none⟩) m vc] w fun e w'=>
   e= .returned (.slice (some ⟨b,0,none⟩) (n+m) c)/\∃cur':Array Value,w'=w.drew.setRow b cur'/\cur'.size=cur.size/\cur'.toList.take ((n+m)*2)=cur.toList.take (i*2)++vs++(cur.toList.drop (i*2)).take ((n-i)*2):=by
 have u24:=aQD Tryz.underlying24;have hz1: ¬((m:Int)=0):=by omega
 have hz2: ¬((i:Int)=(n:Int)):=by omega
 have hw1:IntKind.i64.wrap ((i:Int)+(m:Int))=(i:Int)+(m:Int):=by rw[aRk];unfold maxLen at hc63;omega
 have hw2:IntKind.i64.wrap ((n:Int)+(m:Int))=(n:Int)+(m:Int):=by rw[aRk];unfold maxLen at hc63;omega
 have hb1:(0:Int)<=(i:Int)+(m:Int):=by omega
 have hin:i<=n:=by omega
 have htn:((i:Int)+(m:Int)).toNat=i+m:=by omega
 have hb2: ¬(c=i+m):=by omega
 have hb3:(i:Int)<=(n:Int)+(m:Int):=by omega
 have hb4: ¬(c=i):=by omega
 have z144: ∀w,(Go.sizeOf 149).run Tryz.prog w= .ok 2 w:=fun w=>by
  simp only[sizeOf,typeInfo,aQB,aRp,aQu];rfl
 have hsz:(Tryz.prog.info? 149).map (·.size)=some 2:=by kernel_rfl
 have hvs0:w.cell? ⟨vb,voff,none⟩=some (vs[0]'(by omega)):=hvs 0 _ (aQs (by omega));obtain⟨⟨tA,kA⟩,hsa,hkA⟩: ∃q:TypeId×Nat,w.shape? vb=some q/\q.2≠0:=by
  have h0:=hvs0;simp only[World.cell?] at h0;simp only[World.shape?];cases hh:w.heap[vb]? with
  |none=>rw[hh] at h0;simp at h0
  |some o=>
   rw[hh] at h0;cases o with
   |cells cs e fr=>
    refine⟨(e,cs.size),rfl,fun hz=> ?_⟩;have hz:cs.size=0:=hz;have:cs= #[]:=Array.eq_empty_of_size_eq_zero hz;subst this;simp at h0
   |_=>simp at h0
 have hov: ∀lb cb,(callFunc 268 #[.slice (some ⟨vb,voff,none⟩) m vc,.slice (some ⟨b,(i+m)*2,none⟩) lb cb]).run Tryz.prog w= .ok (.value (.bool false)) w:=fun lb cb=>by
  rw[run_callFunc_extern Tryz.func268 (by kernel_rfl) (by kernel_rfl) (by kernel_rfl) (e:=Extern.SlicesOverlaps.overlaps #[24,24] #[4]) (by kernel_rfl),
   aIU w 24 4 149 Tryz.underlying24 2 z144 ⟨vb,voff,none⟩ ⟨b,(i+m)*2,none⟩ m vc lb cb hvb tA 149 kA cur.size hsa hkA (by simp [World.shape?,hg]) (fun o=>Lib.frozen_of_heap hg _) rfl]
  rfl
 have mixed:Tryz.prog.follows .mixedOrders=true:=by kernel_rfl
 obtain⟨mid,hmid⟩: ∃mid,mid=(cur.toList.drop (i*2)).take ((n-i)*2):=⟨_,rfl⟩;have hml:mid.length=(n-i)*2:=by rw[hmid,aQM,aQw,aQT];omega
 have hmin1:Nat.min (n+m-i) (n+m- (i+m))=n-i:=by simp only[Nat.min_def];split<;>omega
 have hmin2:Nat.min m (n+m-i)=m:=by simp only[Nat.min_def];split<;>omega
 obtain⟨c1,hc1⟩: ∃c1:Array Value,c1=(cur.toList.take ((i+m)*2)++mid++cur.toList.drop ((i+m)*2+mid.length)).toArray:=⟨_,rfl⟩;have hc1l:c1.size=cur.size:=by rw[hc1];simp only[aRb,aQm,aQM,aQw,aQT,hml];omega
 obtain⟨c2,hc2⟩: ∃c2:Array Value,c2=(c1.toList.take (i*2)++vs++c1.toList.drop (i*2+vs.length)).toArray:=⟨_,rfl⟩;have hc2l:c2.size=cur.size:=by rw[hc2];simp only[aRb,aQm,aQM,aQw,aQT,hc1l,hvl];omega
 have hcp1: ∀ty dc sc,(Builtin.copy_ #[24,24] ty #[.slice (some ⟨b,(i+m)*2,none⟩) (n+m- (i+m)) dc,.slice (some ⟨b,i*2,none⟩) (n+m-i) sc]).run Tryz.prog w.drew= .ok (goInt (n-i:Nat)) (w.drew.setRow b c1):=fun ty dc sc=>by
  have h:=T1 (P:=Tryz.prog) w.drew 24 24 ty 149 2 b ((i+m)*2) (n+m- (i+m)) dc ⟨b,i*2,none⟩ (n+m-i) sc cur 149 mid Tryz.underlying24 hsz hg (by rw[hml,hmin1]) (fun j v hj=>by
    rw[aSb];rw[hmid,aR8] at hj;split at hj
    ·rw[List.getElem?_drop,aRo] at hj;show (w.cell? ⟨b,i*2+j,none⟩)=_;rw[Lib.cell_of_heap hg];exact hj
    ·cases hj) (by rw[hml];omega) (fun v hv=>h1 v (a97 (hmid▸hv)))
  rw[h,hmin1,hc1]
 have hg1:(w.drew.setRow b c1).heap[b]? =some (.cells c1 149 (0,0)):=aSj w.drew b cur c1 _ _ hg;have hcp2: ∀ty dc,(Builtin.copy_ #[24,24] ty #[.slice (some ⟨b,i*2,none⟩) (n+m-i) dc,.slice (some ⟨vb,voff,none⟩) m vc]).run Tryz.prog (w.drew.setRow b c1)= .ok (goInt (m:Nat)) ((w.drew.setRow b c1).setRow b c2):=fun ty dc=>by
  have h:=T1 (P:=Tryz.prog) (w.drew.setRow b c1) 24 24 ty 149 2 b (i*2) (n+m-i) dc ⟨vb,voff,none⟩ m vc c1 149 vs Tryz.underlying24 hsz hg1 (by rw[hvl,hmin2]) (fun j v hj=>by
    rw[aSb,aQK (w:=w) (a:=⟨vb,voff+j,none⟩) (aRU w.drew b vb c1 hvb)];exact hvs j v hj) (by rw[hvl,hc1l];omega) h1v
  rw[h,hmin2,hc2]
 have Hmid:=Lib.hid hmid;have Hc1:=Lib.hid hc1;have Hc2:=Lib.hid hc2;have Hs1:=Lib.hid hc1l;have Hs2:=Lib.hid hc2l;have Hml:=Lib.hid hml;clear hmid hc1 hc2 hc1l hc2l hml hmin1 hmin2
 go_enter Tryz.func240,Tryz.ntmps240
 go_wp2_with (simp only[hov])
 go_region_law_o (refine step_copy_runI rfl _ _ 24 24 rfl _ _ (by simp [Act.eval,Act.put]) (by simp [Act.eval,Act.put]) (hcp1 _ _ _) ?_)
 go_wp2_with (at_builtin;refine wpList_copy_runI _ rfl _ _ 24 24 rfl _ _ rfl rfl (hcp2 _ _) ?_)
 go_ret
 refine⟨rfl,c2,?_,Hs2.out,?_⟩
 ·rw[setRow_setRow]
 ·rw[<-Hmid.out];exact aIW Hc1.out Hc2.out Hml.out hvl (by rw[aQT];omega) hin
theorem aIY (base:Option Addr) (n c i:Nat) (v0:Option Addr) (vc:Nat) (w:World) (hi:i<=n) (hnc:n<=c) (hc63:c<=maxLen):
  Calls Tryz.prog 240 #[.slice base n c,.int .i64 i,.slice v0 0 vc] w fun e w'=>e= .returned (.slice base n c)/\w'=w:=by
 have u24:=aQD Tryz.underlying24
 go_enter Tryz.func240,Tryz.ntmps240
 go_wp2_with fail
 all_goals (go_ret;exact⟨rfl,rfl⟩)
theorem aIZ (v:Value) (n vb voff m vc:Nat) (xs vs:List Value) (w:World) (hm:0<m) (hown:w.ownsRow 0 149 2 v n xs) (h63:n+m<=maxLen) (hby:(n+m)*32<=140737488355328)
  (hvl:vs.length=m*2) (hvs: ∀j v,vs[j]? =some v->w.cell? ⟨vb,voff+j,none⟩=some v) (h1v: ∀v∈vs,v.oneCell'=true):
  Calls Tryz.prog 240 #[v,.int .i64 n,.slice (some ⟨vb,voff,none⟩) m vc] w fun e w'=>
   ∃q cap,e= .returned (.slice (some ⟨q,0,none⟩) (n+m) cap)/\w'.ownsRow 0 149 2 (.slice (some ⟨q,0,none⟩) (n+m) cap) (n+m) (xs++vs)/\
   (q=w.heap.size\/v.ownBlock=some q)/\w.grownBy w' v.ownBlock:=by
 have u24:=aQD Tryz.underlying24;obtain⟨inf,hi,hsz,hz⟩:=F3 a96;have hby2:inf.bytes=32:=by
  have:(Tryz.prog.info? 149).map (·.bytes)=some 32:=by kernel_rfl
  rw[hi] at this;exact aQo this
 have hrun: ∀ty,∃q cap w',(Builtin.append_ #[24,24] ty #[v,.slice (some ⟨vb,voff,none⟩) m vc]).run Tryz.prog w= .ok (.slice (some ⟨q,0,none⟩) (n+m) cap) w'/\_:=
  fun ty=>XP (P:=Tryz.prog) w 24 ty 149 inf _ 2 32 Tryz.underlying24 hi hz hsz hby2 (by rfl) v n xs hown ⟨vb,voff,none⟩ m vc vs hvl (fun j u hj=>by rw[aSb];exact hvs j u hj) h1v hm h63 hby
 obtain⟨q,cap,w2,hr,h1,h2,h3,h4,h5⟩:=hrun 24;have H1:=Lib.hid h1;have H2:=Lib.hid h2;have H3:=Lib.hid h3;have Hown:=Lib.hid hown;have hz1: ¬((m:Int)=0):=by omega
 have hmx:n+m<=9223372036854775807:=by unfold maxLen at h63;omega
 obtain⟨hxl,hv⟩:=hown;clear h1 h2 h3 h5 hrun hz hsz hby2 hi hxl;rcases hv with⟨rfl,rfl⟩ |⟨b,c,cur,rfl,_,hbk,hnc,hcm,hcs,htk⟩
 ·clear Hown;rw[aQV] at hr
  go_enter Tryz.func240,Tryz.ntmps240
  go_wp2_with (at_builtin;refine Lib.wpList_append_run _ rfl _ _ _ _ rfl _ _ rfl rfl _ _ hr ?_)
  all_goals (go_ret;exact⟨q,cap,by rw[aQV];rfl,H1.out,H2.out,H3.out⟩)
 ·clear hbk hcs htk;have hcm:c<=9223372036854775807:=by unfold maxLen at hcm;omega
  go_enter Tryz.func240,Tryz.ntmps240
  go_wp2_with (at_builtin;refine Lib.wpList_append_run _ rfl _ _ _ _ rfl _ _ rfl rfl _ _ hr ?_)
  all_goals (go_ret;exact⟨q,cap,rfl,H1.out,H2.out,H3.out⟩)
theorem aI0 (b n c i vb voff m vc:Nat) (cur:Array Value) (vs:List Value) (w:World) (hi:i<n) (hm:0<m) (hnc:n<=c) (hroom:c<n+m) (hbig:(n+m)*32<=140737488355328)
  (hg:w.heap[b]? =some (.cells cur 149 (0,0))) (hcs:cur.size=c*2) (hvl:vs.length=m*2)
  (hvs: ∀j v,vs[j]? =some v->w.cell? ⟨vb,voff+j,none⟩=some v) (h1: ∀v∈cur.toList.take (n*2),v.oneCell'=true) (h1v: ∀v∈vs,v.oneCell'=true):
  Calls Tryz.prog 240 #[.slice (some ⟨b,0,none⟩) n c,.int .i64 i,.slice (some ⟨vb,voff,none⟩) m vc] w fun e w'=>
   ∃G,e= .returned (.slice (some ⟨w.heap.size,0,none⟩) (n+m) G)/\w'.ownsRow 0 149 2 (.slice (some ⟨w.heap.size,0,none⟩) (n+m) G) (n+m) (cur.toList.take (i*2)++vs++(cur.toList.drop (i*2)).take ((n-i)*2))/\w.grownBy w' none:=by
 have u24:=aQD Tryz.underlying24;have mixed:Tryz.prog.follows .mixedOrders=true:=by kernel_rfl
 obtain⟨inf,hinf,hzs,hz⟩:=F3 a96;have hzb:inf.bytes=32:=by
  have:(Tryz.prog.info? 149).map (·.bytes)=some 32:=by kernel_rfl
  rw[hinf] at this;exact aQo this
 have hsz:(Tryz.prog.info? 149).map (·.size)=some 2:=by kernel_rfl
 have hz1: ¬((m:Int)=0):=by omega
 have hz2: ¬((i:Int)=(n:Int)):=by omega
 have hz3:(c:Int)<(n:Int)+(m:Int):=by omega
 have hbw:b<w.heap.size:=by
  rcases aRV b w.heap.size with h|h
  ·exact h
  ·rw[Array.getElem?_eq_none h] at hg;cases hg
 have hvw:vb<w.heap.size:=block_lt_of_cell (hvs 0 _ (aQs (by omega)));have hkk:(n:Int)+(m:Int)- (i:Int)=((n+m-i:Nat):Int):=by omega
 have hik:i+(n+m-i)=n+m:=by omega
 have hold:(Builtin.firstCells inf.size i (.slice (some ⟨b,0,none⟩) i c)).run Tryz.prog w.drew= .ok (cur.toList.take (i*2)).toArray w.drew:=by
  rw[hzs];exact run_firstCells_some w.drew 2 i ⟨b,0,none⟩ i c (cur.toList.take (i*2)) (by rw[aQM,aQT];omega) (fun j v hj=>by
   rw[aSb,aQV];rw[aR8] at hj;split at hj
   ·rw[aRo] at hj;show w.cell? ⟨b,j,none⟩=_;rw[Lib.cell_of_heap hg];exact hj
   ·cases hj)
 have hrz: ∀ty,(Builtin.append_ #[24,3] ty #[.slice (some ⟨b,0,none⟩) i c,.int .i64 ((n:Int)+(m:Int)- (i:Int))]).run Tryz.prog w=
   .ok (.slice (some ⟨w.heap.size,0,none⟩) (n+m) (grownCap w (n+m) c 149)) (w.drew.alloc (.cells ((cur.toList.take (i*2)).toArray++Builtin.zeroCells (vS (.pair .str (.pair .str .unit))).cells (n+m-i)++Builtin.zeroCells (vS (.pair .str (.pair .str .unit))).cells (grownCap w (n+m) c 149- (n+m))) 149)):=fun ty=>by
  have h:=Lib.run_append_grow_zeros (P:=Tryz.prog) w 24 3 ty 149 inf _ .i64 .i64 Tryz.underlying24 Tryz.underlying3 hinf hz (some ⟨b,0,none⟩) i c (cur.toList.take (i*2)) hold (n+m-i) (by omega) (by rw[hzs];decide) (by omega) (by omega) (by rw[hzb];omega) (by rw[hzb,hik];exact growslice_fits hroom hbig);rw[hik] at h;rw[hkk];exact h
 obtain⟨G,hG⟩: ∃G,G=grownCap w (n+m) c 149:=⟨_,rfl⟩;obtain⟨ROW,hROW⟩: ∃ROW:Array Value,ROW=(cur.toList.take (i*2)).toArray++Builtin.zeroCells (vS (.pair .str (.pair .str .unit))).cells (n+m-i)++Builtin.zeroCells (vS (.pair .str (.pair .str .unit))).cells (G- (n+m)):=⟨_,rfl⟩;rw[<-hG] at hrz;rw[<-hROW] at hrz;have hGn:n+m<=G:=by rw[hG];exact grownCap_ge w _ _ _
 have hGm:G<=maxLen:=by rw[hG];exact grownCap_le_maxLen w (n+m) c _ (by unfold maxLen;omega)
 have hzc:(vS (.pair .str (.pair .str .unit))).cells.size=2:=rfl;have hRl:ROW.size=G*2:=by
  rw[hROW];simp only[aSu,aRb,size_zeroCells,hzc,aQM,aQT];omega
 have hRt:ROW.toList.take (i*2)=cur.toList.take (i*2):=by
  rw[hROW];simp only[Array.toList_append,aQt];rw[aRR (by rw[aQM,aQT];omega),List.take_take,Nat.min_self]
 obtain⟨q,hq⟩: ∃q,q=w.heap.size:=⟨_,rfl⟩;obtain⟨mid,hmid⟩: ∃mid,mid=(cur.toList.drop (i*2)).take ((n-i)*2):=⟨_,rfl⟩;have hml:mid.length=(n-i)*2:=by rw[hmid,aQM,aQw,aQT];omega
 have hmin1:Nat.min m (n+m-i)=m:=by simp only[Nat.min_def];split<;>omega
 have hmin2:Nat.min (n-i) (n+m- (i+m))=n-i:=by simp only[Nat.min_def];split<;>omega
 obtain⟨c1,hc1⟩: ∃c1:Array Value,c1=(ROW.toList.take (i*2)++vs++ROW.toList.drop (i*2+vs.length)).toArray:=⟨_,rfl⟩;have hc1l:c1.size=G*2:=by rw[hc1];simp only[aRb,aQm,aQM,aQw,aQT,hRl,hvl];omega
 obtain⟨c2,hc2⟩: ∃c2:Array Value,c2=(c1.toList.take ((i+m)*2)++mid++c1.toList.drop ((i+m)*2+mid.length)).toArray:=⟨_,rfl⟩;have hc2l:c2.size=G*2:=by rw[hc2];simp only[aRb,aQm,aQM,aQw,aQT,hc1l,hml];omega
 obtain⟨W1,hW1⟩: ∃W1,W1=w.drew.alloc (.cells ROW 149):=⟨_,rfl⟩;rw[<-hW1] at hrz;have hbq:b≠q:=by omega
 have hvq:vb≠q:=by omega
 have hg1:W1.heap[q]? =some (.cells ROW 149 (0,0)):=by rw[hW1,hq];exact aSv w.drew _
 have hO1: ∀k,k<w.heap.size->W1.heap[k]? =w.heap[k]? :=fun k hk=>by rw[hW1];exact aQP w.drew _ k hk
 have hcpA: ∀(W:World),W.heap=W1.heap->∀ty dc,(Builtin.copy_ #[24,24] ty #[.slice (some ⟨q,i*2,none⟩) (n+m-i) dc,.slice (some ⟨vb,voff,none⟩) m vc]).run Tryz.prog W= .ok (goInt (m:Nat)) (W.setRow q c1):=fun W hW ty dc=>by
  have h:=T1 (P:=Tryz.prog) W 24 24 ty 149 2 q (i*2) (n+m-i) dc ⟨vb,voff,none⟩ m vc ROW 149 vs Tryz.underlying24 hsz (by rw[hW];exact hg1) (by rw[hvl,hmin1]) (fun j v hj=>by
    rw[aSb,aQK (w:=w) (a:=⟨vb,voff+j,none⟩) (by rw[hW];exact hO1 vb hvw)];exact hvs j v hj) (by rw[hvl,hRl];omega) h1v
  rw[h,hmin1,hc1]
 have hcpB: ∀(W:World),W.heap=(W1.setRow q c1).heap->∀ty dc sc,(Builtin.copy_ #[24,24] ty #[.slice (some ⟨q,(i+m)*2,none⟩) (n+m- (i+m)) dc,.slice (some ⟨b,i*2,none⟩) (n-i) sc]).run Tryz.prog W= .ok (goInt (n-i:Nat)) (W.setRow q c2):=fun W hW ty dc sc=>by
  have h:=T1 (P:=Tryz.prog) W 24 24 ty 149 2 q ((i+m)*2) (n+m- (i+m)) dc ⟨b,i*2,none⟩ (n-i) sc c1 149 mid Tryz.underlying24 hsz (by rw[hW];exact aSj W1 q ROW c1 _ _ hg1) (by rw[hml,hmin2]) (fun j v hj=>by
    rw[aSb,aQK (w:=w) (a:=⟨b,i*2+j,none⟩) (by rw[hW,aRU W1 q b c1 hbq];exact hO1 b hbw),Lib.cell_of_heap hg];rw[hmid,aR8] at hj;split at hj
    ·rw[List.getElem?_drop,aRo] at hj;exact hj
    ·cases hj) (by rw[hml,hc1l];omega) (fun v hv=>h1 v (a97 (hmid▸hv)))
  rw[h,hmin2,hc2]
 have hGi: ¬(G=i):=by omega
 have hGim: ¬(G=i+m):=by omega
 have hci: ¬(c=i):=by omega
 have hw1:IntKind.i64.wrap ((i:Int)+(m:Int))=(i:Int)+(m:Int):=by rw[aRk];omega
 have hw2:IntKind.i64.wrap ((n:Int)+(m:Int))=(n:Int)+(m:Int):=by rw[aRk];omega
 have hw3:IntKind.i64.wrap ((n:Int)+(m:Int)- (i:Int))=(n:Int)+(m:Int)- (i:Int):=by rw[aRk];omega
 have hb1:(0:Int)<=(i:Int)+(m:Int):=by omega
 have hin:i<=n:=by omega
 have htn:((i:Int)+(m:Int)).toNat=i+m:=by omega
 have hb3:(i:Int)<=(n:Int):=by omega
 have hG63:G<=9223372036854775807:=by unfold maxLen at hGm;omega
 rw[<-hq] at hrz⊢;have hend: ∀W:World,W.heap=((W1.setRow q c1).setRow q c2).heap->W.os=w.os->W.tape=w.tape->W.output=w.output->
   W.ownsRow 0 149 2 (.slice (some ⟨q,0,none⟩) (n+m) G) (n+m) (cur.toList.take (i*2)++vs++mid)/\w.grownBy W none:=fun W hW e1 e2 e3=>by
  have hg2:W.heap[q]? =some (.cells c2 149 (0,0)):=by rw[hW];exact aSj (W1.setRow q c1) q c1 c2 _ _ (aSj W1 q ROW c1 _ _ hg1)
  have hs:w.heap.size<=W.heap.size:=by
   have:=(aQJ.1 hg2).1;omega
  refine⟨⟨?_,.inr ⟨q,G,c2,rfl,aRc _,hg2,hGn,hGm,hc2l,?_⟩⟩,⟨e1,e2,e3,hs,fun k hk _=> ?_⟩⟩
  ·simp only[aQm,aQM,aQT,hml,hvl];omega
  ·have x1:c1.toList=cur.toList.take (i*2)++vs++ROW.toList.drop (i*2+vs.length):=by rw[hc1,hRt]
   have l1:(cur.toList.take (i*2)++vs).length=(i+m)*2:=by rw[aQm,aQM,aQT,hvl];omega
   have x2:c2.toList=cur.toList.take (i*2)++vs++mid++c1.toList.drop ((i+m)*2+mid.length):=by
    rw[hc2];show c1.toList.take ((i+m)*2)++mid++_=_;rw[x1,<-l1,aRw]
   rw[x2,show (n+m)*2=(cur.toList.take (i*2)++vs++mid).length by rw[aQm,l1,hml];omega,aRw]
  ·rw[hW,aRU _ q k c2 (by omega),aRU _ q k c1 (by omega)];exact hO1 k hk
 have Hmid:=Lib.hid hmid;have Hq:=Lib.hid hq;have Hend:=Lib.hid hend;have HW1:=Lib.hid hW1;clear hkk hik hold hROW hG hRl hmid hq hend hW1 hc1 hc2 hc1l hc2l hml hmin1 hmin2 hz hzs hzb hinf hRt hg1 hO1
 go_enter Tryz.func240,Tryz.ntmps240
 go_wp2_with (first
  |(at_builtin;refine Lib.wpList_append_run _ rfl _ _ _ _ rfl _ _ rfl rfl _ _ (hrz _) ?_)
  |(at_builtin;refine wpList_copy_runI _ rfl _ _ 24 24 rfl _ _ rfl rfl (hcpA _ rfl _ _) ?_))
 go_region_law_o (refine step_copy_runI rfl _ _ 24 24 rfl (.slice (some ⟨q,(i+m)*2,none⟩) (n+m- (i+m)) (G- (i+m))) (.slice (some ⟨b,i*2,none⟩) (n-i) (c-i)) (by simp [Act.eval,Act.put]) (by simp [Act.eval,Act.put]) (hcpB (W1.setRow q c1).drew rfl _ (G- (i+m)) (c-i)) ?_)
 go_wp2_with fail
 go_ret
 rw[<-Hmid.out];exact⟨G,rfl,Hend.out _ rfl (by rw[HW1.out];rfl) (by rw[HW1.out];rfl) (by rw[HW1.out];rfl)⟩
theorem aI1 (v:Value) (n i m vc:Nat) (v0:Option Addr) (xs vs:List Value) (w:World) (hin:i<=n) (hown:w.ownsRow 0 149 2 v n xs) (hby:(n+m)*32<=140737488355328)
  (h1: ∀u∈xs,u.oneCell'=true) (hv0:m=0\/∃vb voff,v0=some ⟨vb,voff,none⟩/\v.ownBlock≠some vb/\∀j u,vs[j]? =some u->w.cell? ⟨vb,voff+j,none⟩=some u)
  (hvl:vs.length=m*2) (h1v: ∀v∈vs,v.oneCell'=true):
  Calls Tryz.prog 240 #[v,.int .i64 i,.slice v0 m vc] w fun e w'=>
   ∃v',e= .returned v'/\w'.ownsRow 0 149 2 v' (n+m) (xs.take (i*2)++vs++xs.drop (i*2))/\(m=0->v'=v)/\(∀b,v'.ownBlock=some b->b=w.heap.size\/v.ownBlock=some b)/\w.grownBy w' v.ownBlock:=by
 have h63:n+m<=maxLen:=by unfold maxLen;omega
 rcases Nat.eq_zero_or_pos m with hm|hm
 ·subst hm;have hvs:vs=[]:=aRT.1 (by omega);subst hvs;have hres:w.ownsRow 0 149 2 v (n+0) (xs.take (i*2)++[]++xs.drop (i*2)):=by
   rw[List.append_nil,aRy];exact hown
  obtain⟨base,c,rfl,hnc,hc⟩: ∃base c,v= .slice base n c/\n<=c/\c<=maxLen:=by
   rcases hown.2 with⟨rfl,rfl⟩ |⟨b,c,cur,rfl,_,_,h2,h3,_⟩
   ·exact⟨none,0,rfl,aQF _,by unfold maxLen;omega⟩
   ·exact⟨_,c,rfl,h2,h3⟩
  refine(aIY base n c i v0 vc w hin hnc hc).mono ?_;rintro e w' ⟨rfl,rfl⟩;exact⟨_,rfl,hres,fun _=>rfl,fun b hb=> .inr hb,World.grownBy.refl _ _⟩
 ·obtain⟨vb,voff,rfl,hvb,hvs⟩: ∃vb voff,v0=some ⟨vb,voff,none⟩/\v.ownBlock≠some vb/\∀j u,vs[j]? =some u->w.cell? ⟨vb,voff+j,none⟩=some u:=by
   rcases hv0 with h|h
   ·omega
   ·exact h
  have hxl:=hown.1;rcases aRV i n with hlt|hge
  ·rcases hown.2 with⟨rfl,rfl⟩ |⟨b,c,cur,rfl,_,hbk,hnc,hcm,hcs,htk⟩
   ·omega
   ·have hb:vb≠b:=fun h=>hvb (by rw[h];rfl);have hx1:cur.toList.take (i*2)=xs.take (i*2):=by rw[<-htk,List.take_take,Nat.min_eq_left (by omega)]
    have hx2:(cur.toList.drop (i*2)).take ((n-i)*2)=xs.drop (i*2):=by rw[aIV hin,htk]
    rcases aRV c (n+m) with hr|hr
    ·refine(aI0 b n c i vb voff m vc cur vs w hlt hm hnc hr hby hbk hcs hvl hvs (by rw[htk];exact h1) h1v).mono ?_;rintro e w' ⟨G,rfl,ho,hg⟩;rw[hx1,hx2] at ho;exact⟨_,rfl,ho,fun h=>by omega,fun b hb=> .inl (by simpa[Value.ownBlock] using hb.symm),⟨hg.os,hg.tape,hg.output,hg.size,fun k hk _=>hg.block k hk (by simp)⟩⟩
    ·refine(aIX b n c i vb voff m vc cur vs w hlt hm hr hcm hb hbk hcs hvl hvs (by rw[htk];exact h1) h1v).mono ?_;rintro e w' ⟨rfl,cur',rfl,hs,ht⟩;rw[hx1,hx2] at ht;refine⟨_,rfl,⟨?_,.inr ⟨b,c,cur',rfl,aRc _,aSj w.drew b cur cur' _ _ hbk,hr,hcm,by rw[hs,hcs],ht⟩⟩,fun h=>by omega,fun b' hb'=> .inr hb',⟨rfl,rfl,rfl,by simp,fun k hk hne=>aRU w.drew b k cur' (fun h=>hne (by rw[h];rfl))⟩⟩;simp only[aQm,aQM,aQw,hxl,hvl];omega
  ·obtain rfl:i=n:=by omega
   refine(aIZ v i vb voff m vc xs vs w hm hown h63 hby hvl hvs h1v).mono ?_;rintro e w' ⟨q,cap,rfl,ho,hq,hg⟩;refine⟨_,rfl,?_,fun h=>by omega,fun b hb=> ?_,hg⟩
   ·rw[<-hxl,List.take_length,aQ3,List.append_nil];exact ho
   ·have hb:q=b:=by simpa[Value.ownBlock] using hb
    exact hb▸hq
theorem a98 {α:Type}{R:α->List Value->Prop}{c:Nat}: ∀{l:List α}{cs:List Value}(i:Nat),sC R c l cs->sC R c (l.take i) (cs.take (i*c))
 |_,_,0,_=>by simp [sC]
 |[],_,_+1,h=>by rw[show _=[] from h];simp [sC]
 |x::l,_,i+1,⟨c1,c2,e,h1,h2,h3⟩=>by
  refine⟨c1,c2.take (i*c),?_,h1,h2,a98 i h3⟩;rw[e,aRn,Nat.add_comm,<-h1,List.take_length_add_append]
theorem a99 {α:Type}{R:α->List Value->Prop}{c:Nat}: ∀{l:List α}{cs:List Value}(i:Nat),sC R c l cs->sC R c (l.drop i) (cs.drop (i*c))
 |_,_,0,h=>by simpa using h
 |[],_,_+1,h=>by rw[show _=[] from h];simp [sC]
 |x::l,_,i+1,⟨c1,c2,e,h1,h2,h3⟩=>by
  rw[e,show (i+1)*c=c1.length+i*c by rw[h1,aRn,Nat.add_comm],List.drop_length_add_append];exact a99 i h3
def AV {t:Type}(l:List t) (i:Int) (v:List t):List t:=List.take i.toNat l++v++List.drop i.toNat l
@[go_sem] def ZE:List pA->List p9->Option pF
 |[(.own 0 O,none),(.val (.int .i64) Z,none),(.val (.list (.pair .str (.pair .str .unit))) aA,none)],[.row 149 (.pair .str (.pair .str .unit)) aB aC]=>
  some ⟨[O=aC,0<=Z/\Z<=List.length aB,(List.length aB+List.length aA)*32<=140737488355328],[(.own 0 (List.length (AV aB Z aA)),none)],[.row 149 (.pair .str (.pair .str .unit)) (AV aB Z aA) (List.length (AV aB Z aA))]⟩
 |_,_=>none
theorem aI2:zA Tryz.prog 240 ZE:=by
 refine⟨fun _ _=>rfl,fun g w args vals L r hH ha hC hs=> ?_⟩;unfold ZE at hC;split at hC
 ·rename_i n iI vl l n2;cases hC;obtain rfl:n=n2:=hs _ (by simp);obtain⟨hi0,hil⟩:=hs (0<=iI/\iI<=List.length l) (by simp);have hby:=hs ((List.length l+List.length vl)*32<=140737488355328) (by simp);clear hs;obtain⟨va,_,rfl,ra,vb,_,rfl,rb,vc,_,rfl,rc,hv⟩:=ha;cases hv;have hg0:pC (pM 0 [p9.row 149 (.pair .str (.pair .str .unit)) l n]) 0=some (.row 149 (.pair .str (.pair .str .unit)) l n):=rfl;obtain⟨hl,v,xs,hcur,hown,hF,hnone,hseal⟩:=hH.blk 0 _ hg0;have hva:va=v:=by
   have:=ra.1.1;rw[hcur] at this;exact(aQo this).symm
  subst hva;obtain⟨i,rfl⟩:=Int.eq_ofNat_of_zero_le hi0;have hvb:vb= .int .i64 i:=uM rb.1;subst hvb;obtain⟨a,cap,rfl,hcap,hlist⟩:=D0 rc.1;have hRone: ∀(x:(Ty.pair .str (.pair .str .unit)).den) cs,Rd g w (.pair .str (.pair .str .unit)) x cs->∀v∈cs,v.oneCell'=true:=fun x cs h=>AP h;obtain⟨vs,hFv,hv0⟩: ∃vs,sC (Rd g w (.pair .str (.pair .str .unit))) 2 vl vs/\(vl.length=0\/∃vb voff,a=some ⟨vb,voff,none⟩/\va.ownBlock≠some vb/\∀j u,vs[j]? =some u->w.cell? ⟨vb,voff+j,none⟩=some u):=by
   rcases hlist with rfl|⟨b,o,rfl,hL⟩
   ·exact⟨[],rfl,.inl rfl⟩
   ·obtain⟨cs,h1,h2,h3⟩:=KN hL;rcases Nat.eq_zero_or_pos vl.length with h0|h0
    ·exact⟨cs,h1,.inl h0⟩
    ·exact⟨cs,h1,.inr ⟨b,o,rfl,fun hb=>hseal b hb _ (h3 0 (Nat.mul_pos h0 (by decide))),h2⟩⟩
  have hvl:=GJ hFv;have hil2:(i:Int)<=(l.length:Int):=hil;have hil':i<=n:=by omega
  subst hl;refine(aI1 va l.length i vl.length cap a xs vs w (by omega) hown hby (NN hRone hF) hv0 hvl (NN hRone hFv)).mono ?_;rintro e w' ⟨v',rfl,hown',hm0,hob,hgr⟩;have hlen:(AV l (i:Int) vl).length=l.length+vl.length:=by
   simp only[AV,aQ2,aQm,aQM,aQw];omega
  have hF':sC (Rd g w (.pair .str (.pair .str .unit))) 2 (AV l (i:Int) vl) (xs.take (i*2)++vs++xs.drop (i*2)):=by
   unfold AV;rw[aQ2];exact NE (NE (a98 i hF) hFv) (a99 i hF)
  have hsl: ∀b o,g.S b o->w'.cell? ⟨b,o,none⟩=w.cell? ⟨b,o,none⟩:=fun b o h=>aQK (a:=⟨b,o,none⟩) (hgr.block b (hH.sl b o h) (fun e=>hseal b e.symm o h));have hE:=qW.row (side:=[]) (rds:=[]) (s:=(.own 0 (AV l (i:Int) vl).length,none)) (val:=v') (k:=0) (g:=g) (w:=w) (H:=pM 0 [p9.row 149 (.pair .str (.pair .str .unit)) l l.length]) hH (e:=149) (t:= .pair .str (.pair .str .unit)) (l:=AV l (i:Int) vl) (n:=(AV l (i:Int) vl).length) (v:=v') rfl (by rw[hlen];exact hown') hF'
   (fun m hm=>hnone m (by omega)) (fun u hu=>by
    rcases Nat.eq_zero_or_pos vl.length with h0|h0
    ·rw[hlen,h0,aRW,hcur] at hu;rw[hm0 h0];exact(aQo hu).symm
    ·rw[hnone _ (by omega)] at hu;cases hu)
   (.inr ⟨va.ownBlock,hgr,fun b hb o=>⟨0,_,by simp,hg0,va,hcur,hb⟩⟩) hsl
   (fun b hb o hS=>by
    rcases hob b hb with h|h
    ·have:=hH.sl b o hS;omega
    ·exact hseal b h o hS)
   (fun b hb=>(hob b hb).imp (fun h=>by omega) fun h o=>⟨0,_,by simp,hg0,va,hcur,h⟩)
   ⟨⟨by simp [Gh.tok],by
    rw[hlen];rcases hown'.2 with⟨rfl,h⟩ |⟨b,cap',_,rfl,_,_,h,_⟩
    ·exact .inl ⟨rfl,h⟩
    ·exact .inr ⟨b,cap',rfl,h⟩⟩,trivial⟩
  refine⟨v',_,rfl,⟨fun b o h=>⟨hE.le.S b o h,hE.le.cell b o h⟩,hE.heap.ext ?_,hE.slot,hE.fr.mono fun b o ⟨i,blk,_,h1,h2⟩=>⟨i,blk,h1,h2⟩,fun i blk b o hi ho=> ?_,fun i t x ts h=> ?_,fun i t x ts u y us h _=> ?_,fun _ _ _ h=>h,fun i m u hi h=> ?_⟩⟩
  ·intro i
   match i with
   |0=>rfl
   |i+1=>rfl
  ·match i,hi with
   |0,hi=>
    cases hi;exact(hE.perm 0 _ b o (by simp [pE]) rfl ho).imp id fun⟨i,blk,_,h1,h2⟩=>⟨i,blk,h1,h2⟩
   |i+1,hi=>simp at hi
  ·match i,h with
   |0,h=>cases h
   |i+1,h=>simp at h
  ·match i,h with
   |0,h=>cases h
   |i+1,h=>simp at h
  ·exact hE.le.cur i m u h
 ·cases hC
end Go.Proofs.YtbbpilohihldiaaGreatDoor
namespace Go.Proofs.YtbbpilohihldiaaGreatDoor.Vc
open Go.RowKit
@[go_sem] def ZF (np:Nat):DV->Bool
 | .any=>true
 | .nilS=>true
 | .val .ref (some (i,_))=>decide (i<np)
 | .val .ref none=>true
 | .val t _=>t.pure
 |_=>false
@[go_sem] def T2 (np:Nat):pA->Bool
 |(d,none)=>ZF np d
 |(.val (.list t) _,some k)=>t.pure&&decide (k<np)
 |_=>false
@[go_sem] def L2 (np:Nat):List (Nat×pA)->Bool
 |[]=>true
 |(_,s)::r=>T2 np s&&L2 np r
theorem aAa {np:Nat}: ∀{env:List (Nat×pA)},L2 np env=true->∀t,T2 np (lk env t)=true
 |[],_,t=>rfl
 |(k,s)::r,h,t=>by
  simp only[L2,aQr] at h;unfold lk;split
  ·exact h.1
  ·exact aAa h.2 t
theorem aI3 {np:Nat}{g g':Gh}{w:World}(hS:g'.S=g.S) (hJ: ∀i,i<np->g'.J i=g.J i) (hC: ∀i n,i<np->g'.cur i n=g.cur i n) {s:pA}{v:Value}(hp:T2 np s=true) (h:qJ g w s v):qJ g' w s v:=by
 have hV: ∀{t:Ty}{x:t.den},t.pure=true->s9 g w t x v->s9 g' w t x v:=fun ht hv=>by
  rcases hv with⟨h1,cs,h2,h3⟩ |⟨h1,h2⟩
  ·exact .inl ⟨h1,cs,h2,uF hS ht h3⟩
  ·exact .inr ⟨h1,uF hS ht h2⟩
 have hD: ∀d,ZF np d=true->yZ g w d v->yZ g' w d v:=by
  intro d hd hr;unfold ZF at hd;split at hd
  ·trivial
  ·exact hr
  ·rename_i i o;have hi:=aRa hd;rcases hr with⟨h1,_⟩ |⟨h1,h2⟩
   ·cases h1
   ·refine .inr ⟨h1,?_⟩;obtain⟨p,hp1,hp2⟩:=h2;exact⟨p,(hJ i hi).trans hp1,hp2⟩
  ·rcases hr with⟨h1,_⟩ |⟨h1,h2⟩
   ·cases h1
   ·exact .inr ⟨h1,h2⟩
  ·exact hV hd hr
  ·cases hd
 obtain⟨d,k⟩:=s;cases k with
 |none=>exact⟨hD d hp h.1,trivial⟩
 |some k=>
  unfold T2 at hp;split at hp
  ·rename_i heq;cases heq
  ·rename_i t x k' heq;cases heq;simp only[aQr,aQq] at hp;exact⟨hV (t:= .list t) hp.1 h.1,(hC k _ hp.2).trans h.2⟩
  ·cases hp
theorem aI4 {np:Nat}{g g':Gh}{w w':World}{env:List (Nat×pA)}{tmps:Array Value}(h:AS g w env tmps) (hp:L2 np env=true) (hS: ∀b o,g.S b o->g'.S b o) (hc: ∀b o,g.S b o->w'.cell? ⟨b,o,none⟩=w.cell? ⟨b,o,none⟩)
  (hJ: ∀i p,i<np->g.J i=some p->g'.J i=some p) (hC: ∀i n v,i<np->g.cur i n=some v->g'.cur i n=some v):AS g' w' env tmps:=fun t=>by
 have le:Le g w ⟨g'.S,fun i=>if i<np then g'.J i else g.J i,fun i n=>if i<np then g'.cur i n else g.cur i n⟩ w':=by
  refine⟨hS,hc,fun i p hi=> ?_,fun i n v hi=> ?_⟩
  ·show (if i<np then _ else _)=_;split
   ·rename_i hlt;exact hJ i p hlt hi
   ·exact hi
  ·show (if i<np then _ else _)=_;split
   ·rename_i hlt;exact hC i n v hlt hi
   ·exact hi
 exact aI3 (np:=np) (g:=⟨g'.S,fun i=>if i<np then g'.J i else g.J i,fun i n=>if i<np then g'.cur i n else g.cur i n⟩) (g':=g') rfl (fun i hi=>(aQj hi).symm) (fun i n hi=>by show g'.cur i n=(if i<np then g'.cur i n else g.cur i n);rw[aQj hi]) (aAa hp t) (AO le (h t))
theorem s3.inner {A A':Nat->Nat->Prop}{L L':List p9}{g0 g g':Gh}{w0 w w':World}{H H':r5}(h:s3 A L g0 w0 g w H) (k:s3 A' L' g w g' w' H') (hA: ∀b o,A' b o->w.heap.size<=b\/yE g H b o) (hl:L.length<=L'.length)
  (hL: ∀i,i<L.length->∀b,L'[i]? =some b->pC H i=some b):s3 A L g0 w0 g' w' H':=by
 have own: ∀b o,A' b o->w0.heap.size<=b\/A b o:=fun b o x=>by
  rcases hA b o x with h1|⟨i,blk,h1,h2⟩
  ·exact .inl (aRj h.fr.size h1)
  ·exact h.perm i blk b o h1 h2
 refine⟨fun b o x=> ?_,h.fr.trans k.fr own,fun i blk b o h1 h2=> ?_,fun i p hi hp=>k.J i p (by omega) (h.J i p hi hp),fun i hi=>k.live i (by omega),fun i u y us hi hg=> ?_,fun i n v hi hv=>k.cur i n v (by omega) (h.cur i n v hi hv)⟩
 ·obtain⟨h1,h2⟩:=h.shut b o x;obtain⟨k1,k2⟩:=k.shut b o h1;exact⟨k1,k2.trans h2⟩
 ·rcases k.perm i blk b o h1 h2 with h3|h3
  ·exact .inl (aRj h.fr.size h3)
  ·exact own b o h3
 ·obtain⟨x,ts,hx⟩:=k.ty i u y us (by omega) hg;exact h.ty i u x ts hi (hL i hi _ hx)
theorem s3.start {g:Gh}{w:World}{H:r5}{L':List p9}(hH:rK g w H) (hL: ∀i b,L'[i]? =some b->pC H i=some b/\b≠.dead) (hty: ∀i,i<L'.length->∀b,pC H i=some b->L'[i]? =some b):s3 (yE g H) L' g w g w H:=by
 refine⟨fun b o h=>⟨h,rfl⟩,Fr.refl _ _ _,fun i blk b o hg ho=> .inr ⟨i,blk,hg,ho⟩,fun _ _ _ h=>h,fun i hi=> ?_,fun i u y us hi hg=>⟨y,us,hty i hi _ hg⟩,fun _ _ _ _ h=>h⟩;obtain⟨h1,h2⟩:=hL i L'[i] (by simp);have hbk:=hH.blk i _ h1;generalize L'[i]=blk at hbk h2;cases blk with
 |cells t x ts=>obtain⟨p,cs,hp,_⟩:=hbk;exact .inl ⟨p,hp⟩
 |grow e c n=>obtain⟨v,xs,hv,_⟩:=hbk;exact .inr ⟨n,v,hv⟩
 |row e t l n=>obtain⟨_,v,xs,hv,_⟩:=hbk;exact .inr ⟨n,v,hv⟩
 |map k v l=>obtain⟨p,es,cl,hp,_⟩:=hbk;exact .inl ⟨p,hp⟩
 |iter s n=>obtain⟨p,hp,_⟩:=hbk;exact .inl ⟨p,hp⟩
 |dead=>exact absurd rfl h2
@[go_sem] def O5 (env:List (Nat×pA)):List Nat->List pA->List (Nat×pA)
 |p::ps,s::ss=>O5 (sK (some p) s env) ps ss
 |_,_=>env
theorem aAb {g:Gh}{w:World}: ∀{ps:List Nat}{ss:List pA}{vs:List Value}{env:List (Nat×pA)}{tmps:Array Value},AS g w env tmps->(∀p∈ps,p<tmps.size)->tZ g w ss vs->ps.length=ss.length->
  AS g w (O5 env ps ss) ((ps.zip vs).foldl (fun t (q:Nat×Value)=>t.setIfInBounds q.1 q.2) tmps)/\((ps.zip vs).foldl (fun t (q:Nat×Value)=>t.setIfInBounds q.1 q.2) tmps).size=tmps.size
 |[],[],vs,env,tmps,h,_,ha,_=>by
  have:vs=[]:=ha;subst this;exact⟨h,rfl⟩
 |p::ps,s::ss,vs,env,tmps,h,hp,ha,hl=>by
  obtain⟨v,vs',rfl,h1,h2⟩:=ha;have hput:AS g w (sK (some p) s env) (tmps.setIfInBounds p v):=YK (a:={tmps:=tmps,defers:=[]}) (o:=⟨some p,.move (.tmp 0),0, "",#[],none⟩) (N:=tmps.size) h (Le.refl g w) h1 rfl (by simpa[GE] using hp p (by simp))
  have:=aAb (tmps:=tmps.setIfInBounds p v) hput (fun q hq=>by simpa using hp q (aQy _ hq)) h2 (by simpa using hl);exact⟨this.1,by rw[List.zip_cons_cons,List.foldl_cons];rw[this.2];simp⟩
def aAc (P:Program) (gf:Nat) (u:Ty) {ι:Type}(pre:u.den->Prop) (items:u.den->List ι) (vl:ι->List Value):Prop:=
 (∀args w,(callFunc gf args).run P w= .ok (.enter gf args) w)/\
 ∀(l b o:Nat) (x:u.den) (cs:List Value) (g:Gh) (W0:World) (J:Nat->World->Prop) (Jx:World->Prop),pre x->Rd g W0 u x cs->
  (∀i W,J i W->W.rangeAt b o cs/\∀b o,g.S b o->W.cell? ⟨b,o,none⟩=W0.cell? ⟨b,o,none⟩)->
  (∀i W d,J i W->J i {W with drawn:=d})->(∀W d,Jx W->Jx {W with drawn:=d})->
  (∀i it W,(items x)[i]? =some it->J i W->YieldAt Fence.wide 0 P l (vl it).toArray W fun e W'=>(e= .returned (.bool true)/\J (i+1) W')\/(e= .returned (.bool false)/\Jx W'))->
  ∀W,J 0 W->Calls P gf #[.func (.yield l) #[] #[],.pointer (some ⟨b,o,none⟩)] W fun e W'=>(∃v,e= .returned v)/\(J (items x).length W'\/Jx W')
def D4 {ι σ ρ:Type}(f:ι->σ->Option (σ⊕ρ)):List ι->σ->Option (σ⊕ρ)
 |[],x=>some (.inl x)
 |it::r,x=>(f it x).bind fun w=>match w with
  | .inl x'=>D4 f r x'
  | .inr y=>some (.inr y)
theorem aI5 {ι σ ρ:Type}{f:ι->σ->Option (σ⊕ρ)}{it:ι}{r:List ι}{x:σ}{y:σ⊕ρ}(h:D4 f (it::r) x=some y): ∃w,f it x=some w/\(∀x',w= .inl x'->D4 f r x'=some y)/\(∀z,w= .inr z->y= .inr z):=by
 unfold D4 at h;cases hf:f it x with
 |none=>rw[hf] at h;cases h
 |some w=>
  rw[hf] at h;refine⟨w,rfl,fun x' e=> ?_,fun z e=> ?_⟩
  ·subst e;exact h
  ·subst e;exact(aQo h).symm
def qA (st:St):Ex->St->Prop
 | .normal,s=> ∃k:uV,s.keep k=st
 |_,_=>False
def qF {σ ρ:Type}(encH:σ->List p9) (E0:List (Nat×pA)) (N np np':Nat) (w:σ⊕ρ) (Q:Ex->St->Prop):Ex->St->Prop
 | .normal,s=> ∃(k:uV) (x:σ),w= .inl x/\s.keep k=⟨[],pM 0 (encH x),pV (encH x),N,np'⟩
 |e,s=> ∃(k:uV) (B:List p9),s.keep k=⟨[],pM 0 B,pV B,N,np'⟩/\(∃z,w= .inr z)/\Q e ⟨E0,pM 0 B,pV B,N,np⟩
section
variable {B:Nat}{A:Nat->Nat->Prop}{L:List p9}{g0 g:Gh}{w0 w:World}{b0 o0 n0:Nat}{cs:List Value}{E0:List (Nat×pA)}{tmps:Array Value}{ds:List Deferred}
structure E3 (B:Nat) (A:Nat->Nat->Prop) (L:List p9) (g0:Gh) (w0:World) (g:Gh) (w:World) (b0 o0 n0:Nat) (cs:List Value) (E0:List (Nat×pA)) (tmps:Array Value) (ds:List Deferred) (g1:Gh) (W:World) (H:r5):Prop where
 env:AS g1 W E0 tmps
 heap:rK g1 W H
 good:s3 A L g0 w0 g1 W H
 sld: ∀b o,g.S b o->g1.S b o/\W.cell? ⟨b,o,none⟩=w.cell? ⟨b,o,none⟩
 rng:W.rangeAt b0 o0 cs
 len:cs.length=n0
 lt:0<n0->b0<W.heap.size
 out: ∀o,o0<=o->o<o0+n0->¬yE g1 H b0 o
 defs:yF B W ds
theorem E3.turn {g1:Gh}{W W2:World}{H:r5}(h:E3 B A L g0 w0 g w b0 o0 n0 cs E0 tmps ds g1 W H) (t:tK w0.heap.size W W2) {ds':List Deferred}(hd:yF B W2 ds'):E3 B A L g0 w0 g w b0 o0 n0 cs E0 tmps ds' g1 W2 H:=by
 refine⟨fun x=>AO (t.le h.heap.sl) (h.env x),t.heapOk h.heap,h.good.turn h.heap.sl t,fun b o x=>⟨(h.sld b o x).1,(t.cell (h.heap.sl b o (h.sld b o x).1) o).1.trans (h.sld b o x).2⟩,fun j v hv=> ?_,h.len,fun x=>aQZ (h.lt x) t.size,h.out,hd⟩;have hj:j<cs.length:=(aQA.1 hv).1;have:=h.len;exact(t.cell (h.lt (by omega)) _).1.trans (h.rng j v hv)
theorem E3.inner {g1 g2:Gh}{W W2:World}{H H2:r5}{L':List p9}{np':Nat}(h:E3 B A L g0 w0 g w b0 o0 n0 cs E0 tmps ds g1 W H) (k:s3 (yE g1 H) L' g1 W g2 W2 H2) (hH:rK g2 W2 H2) (hpin:L2 np' E0=true) (hnp:np'=L'.length) (hl:L.length<=L'.length)
  (hL: ∀i,i<L.length->∀b,L'[i]? =some b->pC H i=some b):E3 B A L g0 w0 g w b0 o0 n0 cs E0 tmps ds g2 W2 H2:=by
 subst hnp;refine⟨aI4 h.env hpin (fun b o x=>(k.shut b o x).1) (fun b o x=>(k.shut b o x).2) (fun i p hi x=>k.J i p hi x) (fun i n v hi x=>k.cur i n v hi x),hH,h.good.inner k (fun b o x=> .inr x) hl hL,fun b o x=> ?_,fun j v hv=> ?_,h.len,fun x=>aQZ (h.lt x) k.fr.size,fun o h1 h2 ⟨i,blk,h3,h4⟩=> ?_,h.defs.same fun D hD=> ?_⟩
 ·obtain⟨h1,h2⟩:=h.sld b o x;exact⟨(k.shut b o h1).1,(k.shut b o h1).2.trans h2⟩
 ·have hj:j<cs.length:=(aQA.1 hv).1;have:=h.len;exact(k.fr.cell _ _ (h.lt (by omega)) (h.out _ (by omega) (by omega))).1.trans (h.rng j v hv)
 ·rcases k.perm i blk _ _ h3 h4 with h5|h5
  ·have:=h.lt (by omega);omega
  ·exact h.out o h1 h2 h5
 ·rw[k.fr.blk D (aQJ.1 hD).1 (fun o ⟨i,blk,h1,h2⟩=>SN (h.heap.blk i blk h1) h2 hD rfl)];exact hD
theorem aAd {g1 g2:Gh}{W W2:World}{H H2:r5}{L':List p9}(hH:rK g1 W H) (k:s3 (yE g1 H) L' g1 W g2 W2 H2) {D:Nat}{ob:Obj}(hD:W.heap[D]? =some ob) (hm:F6 ob=true):W2.heap[D]? =some ob:=by
 rw[k.fr.blk D (aQJ.1 hD).1 (fun o ⟨i,blk,h1,h2⟩=>SN (hH.blk i blk h1) h2 hD hm)];exact hD
end
theorem tK.put {B:Nat}{W:World}{l:Nat}{o o':Obj}(h:W.heap[l]? =some o) (hB:B<=l) (hN:NG<=l) (hm:F6 o=true) (hm':F6 o'=true):tK B W (W.putObj l o'):=by
 have hlt:=(aQJ.1 h).1;refine⟨rfl,rfl,rfl,by simp [World.putObj],fun b hb=> ?_⟩;by_cases e:b=l
 ·subst e;exact .inr ⟨hB,hN,_,_,h,World.putObj_heap_same hlt,hm,hm'⟩
 ·exact .inl (World.putObj_heap_other e)
theorem tK.new (B:Nat) (W:World) (o:Obj):tK B W (W.alloc o):=by
 refine⟨rfl,rfl,rfl,by simp,fun b hb=> .inl ?_⟩;exact aQP W o b hb
theorem aAe {e:Ex}{x:Exit}(h:CC x=some e):(x= .normal/\e= .normal)\/(x= .ret/\e= .ret)\/∃id,x= .exit id/\e= .exit id:=by
 cases x<;>simp only[CC,aQk] at h
 ·exact .inl ⟨rfl,h.symm⟩
 ·exact .inr (.inr ⟨_,rfl,h.symm⟩)
 ·cases h
 ·exact .inr (.inl ⟨rfl,h.symm⟩)
 ·cases h
 ·cases h
def aI6:Ex->Option Code
 | .normal=>none
 | .ret=>some .ret
 | .exit id=>some (.exit id)
theorem aI7 {P:Program}{gf:Nat}{u:Ty}{ι:Type}{pre:u.den->Prop}{items:u.den->List ι}{vl:ι->List Value}(hit:aAc P gf u pre items vl) {sl:ι->List pA}(hsl: ∀it g w,tZ g w (sl it) (vl it))
  {fo:Operand}{ps:Array Tmp}{assign body:Code}{s:St}{Q:Ex->St->Prop}{c:Nat}{k0:Option Nat}(hf:sN s.env fo=(.val .clo (some (gf,[(c,0)])),k0)) {xc:u.den}{toks:List (Nat×Nat)}(hc:pC s.H c=some (.cells u xc toks)) (hpre:pre xc)
  {σ ρ:Type}{f:ι->σ->Option (σ⊕ρ)}{x0:σ}{y:σ⊕ρ}(hy:D4 f (items xc) x0=some y)
  (E0:List (Nat×pA)) (E1:ι->List (Nat×pA)) (encH:σ->List p9) (np':Nat) (k:uV) (hk:wA s.np k.ids=true) (h0:s.keep k=⟨E0,pM 0 (encH x0),pV (encH x0),s.N,s.np⟩)
  (hcd:k.ids.all (fun q=>decide (q.2≠c))=true) (hpin:L2 np' E0=true) (hnp:s.np<=np') (hlen: ∀x,np'<=pV (encH x)) (hdead: ∀x,((encH x).take np').all (fun b=>match b with| .dead=>false|_=>true)=true)
  (hps: ∀it,ps.toList.length=(sl it).length) (hpN:(ps.toList.all fun p=>decide (p<s.N))=true)
  (hround: ∀it x w,f it x=some w->(∀z,w= .inr z->y= .inr z)->Ev true P assign ⟨O5 E0 ps.toList (sl it),pM 0 (encH x),pV (encH x),s.N,np'⟩ (qA ⟨E1 it,pM 0 (encH x),pV (encH x),s.N,np'⟩)/\
   Ev true P body ⟨E1 it,pM 0 (encH x),pV (encH x),s.N,np'⟩ (qF encH E0 s.N s.np np' w Q))
  (hdone: ∀x,y= .inl x->Q .normal ⟨E0,pM 0 (encH x),pV (encH x),s.N,s.np⟩):Ev false P (.rangeFunc fo ps assign body) s Q:=by
 intro ro hro A L g0 w0 g a w B hB hr hg hn;have hN:ro=none:=by cases ro<;>first|rfl|cases hro
 subst hN;have hfv:=zC hr.env fo;rw[hf] at hfv;obtain⟨p,hpJ,hev⟩: ∃p,g.J c=some p/\a.eval fo= .func (.func gf) #[] #[.pointer (some ⟨p.1,p.2,none⟩)]:=by
  rcases hfv.1 with⟨h1,_⟩ |⟨_,vs,⟨p,vs',h4,h5,h6⟩,h3⟩
  ·cases h1
  ·rw[show vs'=[] from h6] at h5;subst h5;simp only[aRf,and_true] at h3;exact⟨p,h4,h3⟩
 obtain⟨p',cs,hp',hRc,hra,hth,hns,htk⟩:=hr.heap.blk c _ hc;rw[hpJ] at hp';obtain rfl:=aQo hp';have hcl:=rS hRc;obtain⟨hr1,hg1,hn1,_⟩:=YJ hr hg hn k hk;have hout: ∀o,p.2<=o->o<p.2+u.cells->¬yE (t6 g s.np k.ids) (s.keep k).H p.1 o:=by
  rintro o h1 h2 ⟨i,blk,h3,h4⟩;have h3':pC (N8 s k (wA s.np k.ids)).H i=some blk:=h3;rw[hk] at h3';obtain⟨o',h5,rfl⟩:=GN h3';obtain⟨c1,h6,h7⟩:=(IM hk h5 fun c1 hc1=>hr.heap.blk o' c1 hc1).2 _ _ h4;have h8:=aRh.1 hcd _ h5;exact hr.heap.dis o' c c1 _ p.1 o (aRa h8) h6 hc h7 ⟨p,hpJ,rfl,h1,h2⟩
 rw[h0] at hr1 hg1 hout;have inv0:E3 B A L g0 w0 g w p.1 p.2 u.cells cs E0 a.tmps a.defers (t6 g s.np k.ids) w (pM 0 (encH x0)):=
  ⟨hr1.env,hr1.heap,hg1,fun b o h=>⟨h,rfl⟩,hra,hcl,fun hpos=>by
   obtain⟨v,hv⟩:=aQn.1 (hth.1 0 hpos).1;exact RX hv,hout,hr.def_⟩
 have hNG:NG<=w.heap.size:=hr.heap.tab.1.1;have hBw:w0.heap.size<=w.heap.size:=hg.fr.size;refine wpIn_rangeFunc fun fn _=> ?_;obtain⟨rec,hrec⟩: ∃rec:LoopState->Option Code->Loop,rec=fun st pe=>{state:=st,pending:=pe,fn,tmps:=a.tmps,params:=ps,assign,body,defers:=w.heap.size}:=⟨_,rfl⟩;obtain⟨W1,hW1⟩: ∃W1,(w.alloc (.deferred (some []))).alloc (.loop (rec .ready none))=W1:=⟨_,rfl⟩;have hL1:W1.heap[w.heap.size+1]? =some (.loop (rec .ready none)):=by
  rw[<-hW1];have:=World.alloc_heap_new (w.alloc (.deferred (some []))) (.loop (rec .ready none));rwa [World.size_alloc] at this
 have hK1:W1.heap[w.heap.size]? =some (.deferred (some [])):=by
  rw[<-hW1];exact(aQP _ _ _ (by simp)).trans (World.alloc_heap_new w _)
 have t1:tK w0.heap.size w W1:=by rw[<-hW1];exact(tK.new _ _ _).trans (tK.new _ _ _)
 obtain⟨ds,hds⟩: ∃ds:List Deferred,{target:= .collected w.heap.size,args:= #[]}::a.defers=ds:=⟨_,rfl⟩;have hd1:yF B W1 ds:=by
  rw[<-hds];refine⟨List.nodup_cons.2 ⟨fun hm=> ?_,hr.def_.1⟩,fun d hd=> ?_⟩
  ·obtain⟨D,h1,_,_,h4⟩:=hr.def_.2 _ hm;have h5:w.heap.size=D:=by injection h1 with h1;injection h1
   have:=(aQJ.1 h4).1;omega
  ·rcases aQC.1 hd with rfl|hd
   ·exact⟨_,rfl,by omega,hNG,hK1⟩
   ·obtain⟨D,h1,h2,h3,h4⟩:=hr.def_.2 _ hd;have hlt:=(aQJ.1 h4).1;refine⟨D,h1,h2,h3,?_⟩;rw[<-hW1];exact(aQP _ _ D (by simp;omega)).trans ((aQP _ _ D hlt).trans h4)
 let l:=w.heap.size+1
 let J:Nat->World->Prop:=fun i W=> ∃g1 x,D4 f ((items xc).drop i) x=some y/\E3 B A L g0 w0 g w p.1 p.2 u.cells cs E0 a.tmps ds g1 W (pM 0 (encH x))/\
  (∀j,pV (encH x)<=j->g1.J j=none/\∀n,g1.cur j n=none)/\W.heap[l]? =some (.loop (rec .ready none))
 let Jx:World->Prop:=fun W=> ∃g1 Bl e cd z,aI6 e=some cd/\y= .inr z/\Q e ⟨E0,pM 0 Bl,pV Bl,s.N,s.np⟩/\E3 B A L g0 w0 g w p.1 p.2 u.cells cs E0 a.tmps ds g1 W (pM 0 Bl)/\
  (∀j,pV Bl<=j->g1.J j=none/\∀n,g1.cur j n=none)/\s.np<=pV Bl/\W.heap[l]? =some (.loop (rec .done (some cd)))
 have tdrawn: ∀(W:World) (d:Nat),tK w0.heap.size W {W with drawn:=d}:=fun W d=>⟨rfl,rfl,rfl,aQF _,fun _ _=> .inl rfl⟩
 have hJd: ∀i W d,J i W->J i {W with drawn:=d}:=fun i W d ⟨g1,x,h1,h2,h3,h4⟩=>⟨g1,x,h1,h2.turn (tdrawn W d) (h2.defs.same fun _ h=>h),h3,h4⟩
 have hJxd: ∀W d,Jx W->Jx {W with drawn:=d}:=fun W d ⟨g1,Bl,e,cd,z,h1,h2,h3,h4,h5,h6,h7⟩=>⟨g1,Bl,e,cd,z,h1,h2,h3,h4.turn (tdrawn W d) (h4.defs.same fun _ h=>h),h5,h6,h7⟩
 have hround2: ∀i it W,(items xc)[i]? =some it->J i W->YieldAt Fence.wide 0 P l (vl it).toArray W fun e W'=>(e= .returned (.bool true)/\J (i+1) W')\/(e= .returned (.bool false)/\Jx W'):=by
  rintro i it W hi ⟨g1,x,hfold,inv,nb,hl⟩;have hil:i<(items xc).length:=(aQA.1 hi).1;have hdrop:(items xc).drop i=it::(items xc).drop (i+1):=by
   rw[aQL hil];congr 1;exact(aQA.1 hi).2
  rw[hdrop] at hfold;obtain⟨wv,hw,hinl,hinr⟩:=aI5 hfold;obtain⟨evA,evB⟩:=hround it x wv hw hinr;have hvl:(vl it).toArray.size=ps.size:=by
   rw[aRb,(SW (hsl it g1 W)).1,<-hps it,aQT]
  have hyl:=run_yield (P:=P) (args:=(vl it).toArray) hl (by rw[hrec];exact hvl);rw[hrec] at hyl;refine⟨fn,_,assign,body,hyl,roundIn_of_wpIn trivial ?_⟩;have hz:(ps.zip (vl it).toArray).foldl (fun tmps (t,v)=>tmps.setIfInBounds t v) a.tmps=(ps.toList.zip (vl it)).foldl (fun t (q:Nat×Value)=>t.setIfInBounds q.1 q.2) a.tmps:=by
   rw[<-aSr,Array.toList_zip]
  rw[hz];obtain⟨henv,hsz⟩:=aAb inv.env (fun q hq=>by rw[hr.size];exact aRa (aRh.1 hpN q hq)) (hsl it g1 W) (hps it);have hL'len:((encH x).take np').length=np':=by
   rw[aQM];have:=hlen x;rw[SX] at this;omega
  have hLget: ∀i b,((encH x).take np')[i]? =some b->pC (pM 0 (encH x)) i=some b:=fun i b h=>by
   rw[wN];exact(aSm (by have:=(aQA.1 h).1;omega)).symm.trans h
  have hLget2: ∀i b,((encH x).take np')[i]? =some b->pC (pM 0 (encH x)) i=some b/\b≠.dead:=fun i b h=>⟨hLget i b h,fun e=>by
   have:=aRh.1 (hdead x) b (List.mem_of_getElem? h);subst e;cases this⟩
  have hLty: ∀i,i<((encH x).take np').length->∀b,pC (pM 0 (encH x)) i=some b->((encH x).take np')[i]? =some b:=fun i hi b h=>by
   rw[wN] at h;exact(aSm (by omega)).trans h
  have gs:=s3.start inv.heap hLget2 hLty;have rA:tP W.heap.size g1 W ⟨O5 E0 ps.toList (sl it),pM 0 (encH x),pV (encH x),s.N,np'⟩ {tmps:=(ps.toList.zip (vl it)).foldl (fun t (q:Nat×Value)=>t.setIfInBounds q.1 q.2) a.tmps,defers:=[]}:=⟨henv,inv.heap,hsz.trans hr.size,nb,a80 _ _,hlen x⟩;have hlow:L.length<=((encH x).take np').length:=by rw[hL'len,<-hn];exact hnp
  refine aR3 (evA (some l) rfl _ _ g1 W g1 _ W _ (aQF _) rA gs hL'len.symm) fun e a1 wa hp=> ?_;obtain⟨e',g2,s2,e1,e2,e3,e4,e5⟩:=hp;rcases aAe e1 with⟨rfl,rfl⟩ |⟨rfl,rfl⟩ |⟨id,rfl,rfl⟩
  ·obtain⟨kA,hkA⟩:=e2;obtain⟨g3,k1,k2,k3,_⟩:=F7 e3 e4 e5 kA;rw[hkA] at k1 k2;have inva:=inv.inner k2 k1.heap hpin hL'len.symm hlow (fun i hi b h=>hLget i b h);have hla:=aAd inv.heap k2 hl rfl;refine⟨_,run_beginRound hla (by rw[hrec]),?_⟩;obtain⟨Wb,hWb⟩: ∃Wb,wa.putObj l (.loop {rec .ready none with state:= .busy})=Wb:=⟨_,rfl⟩
   have tb:tK w0.heap.size wa Wb:=by rw[<-hWb];exact tK.put hla (by show w0.heap.size<=w.heap.size+1;omega) (by show NG<=w.heap.size+1;omega) rfl rfl
   have hlt:=(aQJ.1 hla).1;have other: ∀{W:World}{o o':Obj}{D:Nat},W.heap[l]? =some (.loop (rec .ready none))\/W.heap[l]? =some (.loop {rec .ready none with state:= .busy})->W.heap[D]? =some (.deferred (some []))->(W.putObj l o').heap[D]? =some (.deferred (some [])):=by
    intro W o o' D h1 h2;rw[World.putObj_heap_other (fun e=>by subst e;rcases h1 with h1|h1<;>(rw[h1] at h2;cases h2))]
    exact h2
   have invb:=inva.turn tb (inva.defs.same fun D hD=>by rw[<-hWb];exact other (o:= .loop (rec .ready none)) (.inl hla) hD);have hlb:Wb.heap[l]? =some (.loop {rec .ready none with state:= .busy}):=by rw[<-hWb];exact World.putObj_heap_same hlt
   rw[hWb];have gsb:=s3.start invb.heap hLget2 hLty;have rB:tP W.heap.size g3 Wb ⟨E1 it,pM 0 (encH x),pV (encH x),s.N,np'⟩ a1:=⟨fun t=>AO (tb.le k1.heap.sl) (k1.env t),invb.heap,k1.size,k1.nb,k1.def_.same fun D hD=>by rw[<-hWb];exact other (o:= .loop (rec .ready none)) (.inl hla) hD,hlen x⟩;have hWW:W.heap.size<=Wb.heap.size:=aRj k2.fr.size tb.size;refine aR3 (evB (some l) rfl _ _ g3 Wb g3 a1 Wb _ hWW rB gsb hL'len.symm) fun e a2 wc hp=> ?_;obtain⟨e',g4,s4,e1,e2,e3,e4,e5⟩:=hp;have vP: ∀(kB:uV) (Bl:List p9),s4.keep kB=⟨[],pM 0 Bl,pV Bl,s.N,np'⟩->∀jump:Option Code,∃g5,E3 B A L g0 w0 g w p.1 p.2 u.cells cs E0 a.tmps ds g5 (wc.putObj l (.loop (rec (if jump.isNone then .ready else .done) jump))) (pM 0 Bl)/\
     (∀j,pV Bl<=j->g5.J j=none/\∀n,g5.cur j n=none)/\np'<=pV Bl/\(wc.putObj l (.loop (rec (if jump.isNone then .ready else .done) jump))).heap[l]? =some (.loop (rec (if jump.isNone then .ready else .done) jump))/\
     (Instr.endRound l jump).run P wc= .ok (.bool jump.isNone) (wc.putObj l (.loop (rec (if jump.isNone then .ready else .done) jump))):=by
    intro kB Bl hkB jump;obtain⟨g5,j1,j2,j3,_⟩:=F7 e3 e4 e5 kB;rw[hkB] at j1 j2;have invc:=invb.inner j2 j1.heap hpin hL'len.symm hlow (fun i hi b h=>hLget i b h);have hlc:=aAd invb.heap j2 hlb rfl;have hltc:=(aQJ.1 hlc).1;have tc:tK w0.heap.size wc (wc.putObj l (.loop (rec (if jump.isNone then .ready else .done) jump))):=tK.put hlc (by show w0.heap.size<=w.heap.size+1;omega) (by show NG<=w.heap.size+1;omega) rfl rfl;refine⟨g5,invc.turn tc (invc.defs.same fun D hD=>other (o:= .loop (rec .ready none)) (.inr hlc) hD),j1.nb,j1.np,World.putObj_heap_same hltc,?_⟩;have:=run_endRound (P:=P) jump hlc;rw[this,hrec]
   rcases aAe e1 with⟨rfl,rfl⟩ |⟨rfl,rfl⟩ |⟨id,rfl,rfl⟩
   ·obtain⟨kB,x',rfl,hkB⟩:=e2;obtain⟨g5,q1,q2,q3,q4,q5⟩:=vP kB _ hkB none;exact⟨_,_,q5,.inl ⟨rfl,g5,x',hinl x' rfl,q1,q2,q4⟩⟩
   ·obtain⟨kB,Bl,hkB,⟨z,rfl⟩,hq⟩:=e2;obtain⟨g5,q1,q2,q3,q4,q5⟩:=vP kB _ hkB (some .ret);exact⟨_,_,q5,.inr ⟨rfl,g5,Bl,.ret,.ret,z,rfl,hinr z rfl,hq,q1,q2,aRj hnp q3,q4⟩⟩
   ·obtain⟨kB,Bl,hkB,⟨z,rfl⟩,hq⟩:=e2;obtain⟨g5,q1,q2,q3,q4,q5⟩:=vP kB _ hkB (some (.exit id));exact⟨_,_,q5,.inr ⟨rfl,g5,Bl,.exit id,.exit id,z,rfl,hinr z rfl,hq,q1,q2,aRj hnp q3,q4⟩⟩
  ·exact e2.elim
  ·exact e2.elim
 refine⟨l,[{target:= .collected w.heap.size,args:= #[]}],W1,{target:= .fn (.func gf) #[.pointer (some ⟨p.1,p.2,none⟩)],args:= #[.func (.yield l) #[] #[]]},W1,gf,#[.func (.yield l) #[] #[]]++ #[.pointer (some ⟨p.1,p.2,none⟩)],W1,?_,?_,fun _ _=>trivial,?_,fun h=>(by cases h),?_⟩
 ·rw[<-hW1,hrec];exact run_enterLoop_outer _ _ _ _ _
 ·simp only[resolve,hev];simp [go_sem]
 ·simp [invoke,go_sem,hit.1]
 ·have inv1:=inv0.turn t1 hd1;refine(a88 (ro:=none) (n:=0-1) (hit.2 l p.1 p.2 xc cs g w J Jx hpre hRc (fun i W ⟨g1,x,_,h2,_⟩=>⟨h2.rng,fun b o hb=>(h2.sld b o hb).2⟩) hJd hJxd hround2 W1 ⟨_,x0,hy,inv1,hr1.nb,hL1⟩)).mono ?_;have hend: ∀{W:World}{r:Loop},W.heap[l]? =some (.loop r)->∀{ds0:List Deferred},yF B W ds0->yF B (W.putObj l (.loop {r with state:= .exhausted})) ds0:=by
   intro W r h1 ds0 h2;refine h2.same fun D hD=> ?_;rw[World.putObj_heap_other (fun e=>by subst e;rw[h1] at hD;cases hD)];exact hD
  rintro e W2 ⟨⟨v,rfl⟩,(⟨g1,x,h1,h2,h3,h4⟩ |⟨g1,Bl,e,cd,z,h1,h2,h3,h4,h5,h6,h7⟩)⟩
  ·rw[aQ3] at h1;have hyx:y= .inl x:=(aQo h1).symm;have hin:=h2.turn (tK.put (o':= .loop {rec .ready none with state:= .exhausted}) h4 (by show w0.heap.size<=w.heap.size+1;omega) (by show NG<=w.heap.size+1;omega) rfl rfl) (hend h4 h2.defs)
   refine⟨none,W2.putObj l (.loop {rec .ready none with state:= .exhausted}),by have:=run_endLoop (P:=P) h4 (by rw[hrec];simp);rw[hrec] at this⊢;exact this,?_⟩
   refine⟨.normal,g1,_,rfl,hdone x hyx,⟨hin.env,hin.heap,hr.size,h3,?_,aRj hnp (hlen x)⟩,hin.good,hn⟩;have:=hin.defs;rw[<-hds] at this;exact this
  ·have hin:=h4.turn (tK.put (o':= .loop {rec .done (some cd) with state:= .exhausted}) h7 (by show w0.heap.size<=w.heap.size+1;omega) (by show NG<=w.heap.size+1;omega) rfl rfl) (hend h7 h4.defs)
   refine⟨some cd,W2.putObj l (.loop {rec .done (some cd) with state:= .exhausted}),by have:=run_endLoop (P:=P) h7 (by rw[hrec];simp);rw[hrec] at this⊢;exact this,?_⟩
   have hdef:=hin.defs;rw[<-hds] at hdef;have hrel:tP B g1 (W2.putObj l (.loop {rec .done (some cd) with state:= .exhausted})) ⟨E0,pM 0 Bl,pV Bl,s.N,s.np⟩ {a with defers:=[{target:= .collected w.heap.size,args:= #[]}]++a.defers}:=⟨hin.env,hin.heap,hr.size,h5,hdef,h6⟩
   cases e with
   |normal=>cases h1
   |ret=>
    obtain rfl:=aQo h1;exact wpIn_ret ⟨.ret,g1,_,rfl,h3,hrel,hin.good,hn⟩
   |exit id=>
    obtain rfl:=aQo h1;exact wpIn_exit ⟨.exit id,g1,_,rfl,h3,hrel,hin.good,hn⟩
section
variable {σ ρ:Type}{encH:σ->List p9}{E0:List (Nat×pA)}{N np np':Nat}{w:σ⊕ρ}{Q:Ex->St->Prop}{st s:St}
theorem aI8 (k:uV) (h:s.keep k=st):qA st .normal s:=⟨k,h⟩
theorem aI9 (k:uV) (x:σ) (hw:w= .inl x) (h:s.keep k=⟨[],pM 0 (encH x),pV (encH x),N,np'⟩):qF encH E0 N np np' w Q .normal s:=⟨k,x,hw,h⟩
end
end Go.Proofs.YtbbpilohihldiaaGreatDoor.Vc
namespace Go.Proofs.YtbbpilohihldiaaGreatDoor
open Go.RowKit Go.Shelf Vc
section
attribute [local go_sem] Oper.semAt_some
def BP (d:(Ty.pair .str (.pair (.list .str) (.pair .str .unit))).den):List (Int×List UInt8):=
 (0,d.1)::((List.range d.2.1.length).map fun j:Nat=>((j:Int)+1,d.2.1.getD j []))++[((d.2.1.length:Int)+1,d.2.2.1)]
def O6 (it:Int×List UInt8):List Value:=[.int .i64 it.1,.string ⟨it.2.toArray⟩]
@[go_sem] def aAf (it:Int×List UInt8):List pA:=[(.val (.int .i64) it.1,none),(.val .str it.2,none)]
theorem aJa (it:Int×List UInt8) (g:Gh) (w:World):tZ g w (aAf it) (O6 it):=⟨_,_,rfl,⟨vB _ _ _ _,trivial⟩,_,_,rfl,⟨F2 _ _ _,trivial⟩,rfl⟩
theorem aJb (d:(Ty.pair .str (.pair (.list .str) (.pair .str .unit))).den):(BP d).length=d.2.1.length+2:=by simp [BP]
theorem aJc (d:(Ty.pair .str (.pair (.list .str) (.pair .str .unit))).den):(BP d)[0]? =some (0,d.1):=by simp [BP]
theorem aJd (d:(Ty.pair .str (.pair (.list .str) (.pair .str .unit))).den) {j:Nat}(h:j<d.2.1.length):(BP d)[j+1]? =some ((j:Int)+1,d.2.1.getD j []):=by
 simp [BP,aQE,h]
theorem aJe (d:(Ty.pair .str (.pair (.list .str) (.pair .str .unit))).den):(BP d)[d.2.1.length+1]? =some ((d.2.1.length:Int)+1,d.2.2.1):=by
 simp [BP]
theorem aJf:aAc Tryz.prog 92 (.pair .str (.pair (.list .str) (.pair .str .unit))) (fun d=>d.2.1.length<=4611686018427387904) BP O6:=by
 refine⟨fun _ _=>rfl,?_⟩;intro l b o d cs g W0 J Jx hpre hR hrd hJd hJxd hY W h0;obtain⟨c1,c2,rfl,hh,c3,c4,rfl,hl,c5,c6,rfl,ht,hu⟩:=hR;rw[show c1=[.string ⟨d.1.toArray⟩] from hh] at hrd;rw[show c5=[.string ⟨d.2.2.1.toArray⟩] from ht,show c6=[] from hu] at hrd;obtain⟨a,cap,rfl,hcap,hel⟩:=hl;have r0: ∀i W,J i W->W.cell? ⟨b,o,none⟩=some (.string ⟨d.1.toArray⟩):=fun i W h=>by simpa using(hrd i W h).1 0 _ rfl
 have r1: ∀i W,J i W->W.cell? ⟨b,o+1,none⟩=some (.slice a d.2.1.length cap):=fun i W h=>(hrd i W h).1 1 _ rfl;have r2: ∀i W,J i W->W.cell? ⟨b,o+2,none⟩=some (.string ⟨d.2.2.1.toArray⟩):=fun i W h=>(hrd i W h).1 2 _ rfl;have re: ∀j,j<d.2.1.length->∃b' o',a=some ⟨b',o',none⟩/\∀i W,J i W->W.cell? ⟨b',o'+j,none⟩=some (.string ⟨(d.2.1.getD j []).toArray⟩):=by
  intro j hj;rcases hel with h|⟨b',o',h1,h2⟩
  ·rw[h] at hj;cases hj
  ·refine⟨b',o',h1,fun i W h=> ?_⟩;have hg:d.2.1[j]? =some (d.2.1.getD j []):=by rw[aQI,aQs hj];rfl
   obtain⟨cs,k1,k2,k3,k4⟩:=S0 h2 hg;rw[show cs=[.string ⟨(d.2.1.getD j []).toArray⟩] from k4] at k2;have k5:=k2 0 _ rfl;have k6:=k3 0 (by decide);rw[aRW,show j*Ty.str.cells=j from aSt j] at k5 k6;rw[(hrd i W h).2 _ _ k6];exact k5
 have q0:=aJc d;have qm:=fun j=>aJd d (j:=j);have ql:=aJe d;have qn:=aJb d;generalize hn:d.2.1.length=n at*;refine(callsIn_wide (n:=0)).1 (callsIn_of_wp Tryz.func92 rfl trivial ?_);simp only[Tryz.ntmps92,aRb,aQp,aQG,Nat.reduceAdd,Nat.reduceSub,Array.replicate_succ,Array.replicate_zero,List.push_toArray,List.append_toArray,List.nil_append,List.cons_append];have c0:=r0 0 W h0;obtain⟨fn,tmps,assign,body,hy,hQ⟩:=hY 0 _ W q0 h0;dsimp only[O6] at hy
 gi_wp2
 refine⟨rfl,hQ.mono ?_⟩;clear hQ hy;rintro e W1 (⟨rfl,hJ1⟩ |⟨rfl,hJx⟩)
 ·have s1:=r1 _ W1 hJ1
  gi_wp2
  gi_loopw [13] (fun i wr=> ∃k:Nat,k<=n/\i= .int .i64 k/\J (k+1) wr) (fun i _=>n- (RowKit.intOf i).toNat)
  case atStart=>exact⟨0,aRc _,rfl,hJ1⟩
  case round=>
   obtain⟨k,hk,rfl,hJs⟩:=hrel;by_cases hlt:k<n
   ·obtain⟨b',o',rfl,hce⟩:=re k hlt;have hc':=hce _ _ hJs;have hq:=qm k hlt;clear re qm ql q0 hce;generalize d.2.1.getD k []=x at hc' hq;obtain⟨fn,tmps,assign,body,hy,hQ⟩:=hY _ _ wr hq hJs;dsimp only[O6] at hy
    gi_wp2
    refine⟨rfl,hQ.mono ?_⟩;clear hQ hy;rintro e W2 (⟨rfl,hJ2⟩ |⟨rfl,hJx⟩)
    ·gi_wp2
     go_roundw
     case rel=>exact⟨k+1,by omega,by simp,hJ2⟩
     case measure=>
      show n- (k+1)<n-k;omega
    ·gi_wp2
     refine bodyPost_ret (results_none rfl _ _ _) rfl ?_;exact⟨⟨_,rfl⟩,.inr hJx⟩
   ·obtain rfl:k=n:=by omega
    have s1:=r1 _ _ hJs;have s2:=r2 _ _ hJs;obtain⟨fn,tmps,assign,body,hy,hQ⟩:=hY _ _ wr ql hJs;dsimp only[O6] at hy
    gi_wp2
    refine⟨rfl,hQ.mono ?_⟩;clear hQ hy;rintro e W2 (⟨rfl,hJ2⟩ |⟨rfl,hJx⟩)
    ·gi_wp2
     go_end0
     exact⟨⟨_,rfl⟩,.inl (by rw[qn];exact hJ2)⟩
    ·gi_wp2
     go_end0
     exact⟨⟨_,rfl⟩,.inr hJx⟩
 ·gi_wp2
  refine bodyPost_ret (results_none rfl _ _ _) rfl ?_;exact⟨⟨_,rfl⟩,.inr hJx⟩
end
end Go.Proofs.YtbbpilohihldiaaGreatDoor
namespace Go.Proofs.YtbbpilohihldiaaGreatDoor
open Go.RowKit Go.Shelf Go.Lib
theorem aJg {w:World}(hc:w.cell? ⟨5,15,none⟩=some (.int .u8 4)):
  Calls Tryz.prog 299 #[.int .u64 16] w fun e w'=>e= .returned (.int .i64 4)/\w'=w:=by
 go_enter Tryz.func299,Tryz.ntmps299
 have k0:bits BinOp.and IntKind.u64 16 (IntKind.u64.wrap (-16))=16:=by decide+kernel
 have k1:IntKind.u64.wrap (16*285870213051353865) /288230376151711744=15:=by decide+kernel
 go_wp2
 go_ret
 exact⟨rfl,rfl⟩
theorem tzU {w:World}(hc:w.cell? ⟨5,15,none⟩=some (.int .u8 4)):
  Calls Tryz.prog 295 #[.int .u64 16] w fun e w'=>e= .returned (.int .i64 4)/\w'=w:=by
 go_enter Tryz.func295,Tryz.ntmps295
 go_wp2_with fail
 refine(aJg hc).mono ?_;rintro e w' ⟨rfl,rfl⟩
 go_wp2
 go_ret
 exact⟨rfl,rfl⟩
theorem aAh {w:World}:
  Calls Tryz.prog 294 #[.int .i64 16] w fun e w'=>e= .returned (.bool true)/\w'=w:=by
 have k0:bits BinOp.and IntKind.i64 16 15=0:=by decide+kernel
 go_enter Tryz.func294,Tryz.ntmps294
 go_wp2
 go_ret
 exact⟨rfl,rfl⟩
theorem aAi {w:World}{a:Addr}{v:Value}(h:w.cell? a=some v):a.block<w.heap.size:=by
 unfold World.cell? at h;split at h
 ·rename_i hb;exact(aQJ.1 hb).1
 ·cases h
def IT (n:Nat):UInt8:=if n<10 then(48+n).toUInt8 else(87+n).toUInt8
theorem aJh (w:World) (d:UInt8):(convert 42 9 (.slice (some ⟨w.heap.size,64,none⟩) 1 1)).run Tryz.prog (w.alloc (.cells (Tryz.zeroCells285.setIfInBounds 64 (.int .u8 (d.toNat:Int))) 285))= .ok (.string ⟨#[d]⟩) (w.alloc (.cells (Tryz.zeroCells285.setIfInBounds 64 (.int .u8 (d.toNat:Int))) 285)):=by
 refine run_convert_bytes_back _ _ _ 5 ⟨w.heap.size,64,none⟩ 1 [d] Tryz.underlying42 Tryz.underlying5 Tryz.underlying9 fun j hj=> ?_;have:j=0:=by simpa using hj
 subst this;simp [Addr.add,aRM]
theorem ZG: ∀u:Fin 16,(⟨#[48,49,50,51,52,53,54,55,56,57,97,98,99,100,101,102,103,104,105,106,107,108,109,110,111,112,113,114,115,116,117,118,119,120,121,122]⟩:ByteArray).data[u.val]? =some (IT u.val):=by decide+kernel
theorem aJi {w:World}(hc:w.cell? ⟨5,15,none⟩=some (.int .u8 4)) (u:Nat) (hu:u<16):
  Calls Tryz.prog 285 #[.slice none 0 0,.int .u64 u,.int .i64 16,.bool false,.bool false] w fun e w'=>e= .returned (.tuple #[.slice none 0 0,.string ⟨#[IT u]⟩])/\Below w.heap.size w w':=by
 have hc2:(w.alloc (.cells Tryz.zeroCells285 285)).cell? ⟨5,15,none⟩=some (.int .u8 4):=by
  rw[aQK (a:=⟨5,15,none⟩) (aQP _ _ _ (aAi hc))];exact hc
 go_enter Tryz.func285,Tryz.ntmps285
 go_wp2_with fail
 refine aAh.mono ?_;rintro e w' ⟨rfl,rfl⟩
 go_wp2_with fail
 refine(tzU hc2).mono ?_;rintro e w' ⟨rfl,rfl⟩
 go_wp2_with fail
 go_rounds 1
 rw[aJh];simp only[Result.andThen];rw[Oper.upon_value]
 go_wp2
 go_ret2
 refine⟨?_,(Below.refl _ _).alloc (aQF _) _⟩;have h:=ZG ⟨u,hu⟩;obtain⟨h1,h2⟩:=aQJ.1 h;rw[<-h2];rfl
theorem aJj (w:World) (d e:UInt8):(convert 42 9 (.slice (some ⟨w.heap.size,63,none⟩) 2 2)).run Tryz.prog (w.alloc (.cells ((Tryz.zeroCells285.setIfInBounds 64 (.int .u8 (e.toNat:Int))).setIfInBounds 63 (.int .u8 (d.toNat:Int))) 285))= .ok (.string ⟨#[d,e]⟩) (w.alloc (.cells ((Tryz.zeroCells285.setIfInBounds 64 (.int .u8 (e.toNat:Int))).setIfInBounds 63 (.int .u8 (d.toNat:Int))) 285)):=by
 refine run_convert_bytes_back _ _ _ 5 ⟨w.heap.size,63,none⟩ 2 [d,e] Tryz.underlying42 Tryz.underlying5 Tryz.underlying9 fun j hj=> ?_
 match j,hj with
 |0,_=>simp [Addr.add,aRM]
 |1,_=>simp [Addr.add,aRM]
theorem aJk: ∀u:Fin 256,bits BinOp.and IntKind.u64 (u.val:Int) 15=((u.val%16:Nat):Int):=by decide+kernel
theorem aJl {w:World}(hc:w.cell? ⟨5,15,none⟩=some (.int .u8 4)) (u:Nat) (hu:16<=u) (hu2:u<256):
  Calls Tryz.prog 285 #[.slice none 0 0,.int .u64 u,.int .i64 16,.bool false,.bool false] w fun e w'=>e= .returned (.tuple #[.slice none 0 0,.string ⟨#[IT (u/16),IT (u%16)]⟩])/\Below w.heap.size w w':=by
 have hc2:(w.alloc (.cells Tryz.zeroCells285 285)).cell? ⟨5,15,none⟩=some (.int .u8 4):=by
  rw[aQK (a:=⟨5,15,none⟩) (aQP _ _ _ (aAi hc))];exact hc
 have h15:=aJk ⟨u,hu2⟩;have hm:u%16<16:=Nat.mod_lt _ (by decide);have hq:u/16<16:=by omega
 have hq2:((u:Int)) /16=((u/16:Nat):Int):=rfl;dsimp only at h15;have H15:=Lib.hid h15;clear h15;obtain⟨m,hmm⟩: ∃m,u%16=m:=⟨_,rfl⟩;obtain⟨q,hqq⟩: ∃q,u/16=q:=⟨_,rfl⟩;rw[hmm] at hm;rw[hqq] at hq hq2;have h15:=H15.out;rw[hmm] at h15;have HM:=Lib.hid hmm;have HQ:=Lib.hid hqq;clear hmm hqq H15
 go_enter Tryz.func285,Tryz.ntmps285
 go_wp2_with fail
 refine aAh.mono ?_;rintro e w' ⟨rfl,rfl⟩
 go_wp2_with fail
 refine(tzU hc2).mono ?_;rintro e w' ⟨rfl,rfl⟩
 go_wp2_with fail
 go_rounds 2
 rw[aJj];simp only[Result.andThen];rw[Oper.upon_value]
 go_wp2
 go_ret2
 refine⟨?_,(Below.refl _ _).alloc (aQF _) _⟩;have h:=ZG ⟨m,hm⟩;obtain⟨h1,h2⟩:=aQJ.1 h;have k:=ZG ⟨q,hq⟩;obtain⟨k1,k2⟩:=aQJ.1 k;rw[HM.out,HQ.out,<-h2,<-k2];rfl
def vK (c _b:Int):List UInt8:=if c<16 then[IT c.toNat] else[IT (c.toNat/16),IT (c.toNat%16)]
theorem fb {w:World}(hc:w.cell? ⟨5,15,none⟩=some (.int .u8 4)) (u:Nat) (hu2:u<256):
  Calls Tryz.prog 285 #[.slice none 0 0,.int .u64 u,.int .i64 16,.bool false,.bool false] w fun e w'=>e= .returned (.tuple #[.slice none 0 0,.string ⟨(vK u 16).toArray⟩])/\Below w.heap.size w w':=by
 unfold vK;by_cases h:(u:Int)<16
 ·rw[aQj h];exact aJi hc u (by omega)
 ·rw[aQl h];exact aJl hc u (by omega) hu2
theorem aJm {w:World}(hc:w.cell? ⟨5,15,none⟩=some (.int .u8 4)) (u:Nat) (hu2:u<256):
  Calls Tryz.prog 272 #[.int .i64 u,.int .i64 16] w fun e w'=>e= .returned (.string ⟨(vK u 16).toArray⟩)/\Below w.heap.size w w':=by
 obtain⟨s,hs⟩: ∃s,vK u 16=s:=⟨_,rfl⟩;have hfb:=fb hc u hu2;rw[hs] at hfb⊢;clear hs;have hk:IntKind.u64.wrap (u:Int)=u:=by rw[IntKind.wrap_u64];omega
 have hn: ¬(u:Int)<0:=by omega
 go_enter Tryz.func272,Tryz.ntmps272
 go_wp2_with fail
 refine hfb.mono ?_;rintro e w' ⟨rfl,hb⟩
 go_wp2
 go_ret
 exact⟨rfl,hb⟩
theorem aAj {w:World}(hc:w.cell? ⟨5,15,none⟩=some (.int .u8 4)) (u:Nat) (hu2:u<256):
  Calls Tryz.prog 245 #[.int .i64 u,.int .i64 16] w fun e w'=>e= .returned (.string ⟨(vK u 16).toArray⟩)/\Below w.heap.size w w':=by
 obtain⟨s,hs⟩: ∃s,vK u 16=s:=⟨_,rfl⟩;have hfb:=aJm hc u hu2;rw[hs] at hfb⊢;clear hs
 go_enter Tryz.func245,Tryz.ntmps245
 go_wp2_with fail
 refine hfb.mono ?_;rintro e w' ⟨rfl,hb⟩
 go_wp2
 go_ret
 exact⟨rfl,hb⟩
#print axioms aAj
end Go.Proofs.YtbbpilohihldiaaGreatDoor
namespace Go.Proofs
open Go.RowKit Go.Lib
def Tryz.lays105_ren:Go.Shelf.Ren:=⟨fun|105=>246|212=>273|99=>136|165=>274|166=>53|170=>275|169=>54|263=>286|264=>287|206=>183|240=>93|241=>288|276=>133|277=>296|n=>n,fun|9=>9|3=>3|4=>4|20=>20|0=>0|46=>219|109=>266|5=>5|72=>84|76=>87|51=>241|146=>270|53=>243|148=>280|70=>82|37=>42|75=>86|127=>125|164=>168|80=>89|n=>n,fun|n=>n⟩
theorem Tryz.lays105:Go.Proofs.Lays.n105 Tryz.prog Tryz.lays105_ren:={
 mixed:=by kernel_rfl
 f99:=Tryz.func136.trans (aQW some (by kernel_rfl))
 f105:=Tryz.func246.trans (aQW some (by kernel_rfl))
 f165:=Tryz.func274.trans (aQW some (by kernel_rfl))
 f166:=Tryz.func53.trans (aQW some (by kernel_rfl))
 f169:=Tryz.func54.trans (aQW some (by kernel_rfl))
 f170:=Tryz.func275.trans (aQW some (by kernel_rfl))
 f206:=Tryz.func183.trans (aQW some (by kernel_rfl))
 f212:=Tryz.func273.trans (aQW some (by kernel_rfl))
 f240:=Tryz.func93.trans (aQW some (by kernel_rfl))
 f241:=Tryz.func288.trans (aQW some (by kernel_rfl))
 f263:=Tryz.func286.trans (aQW some (by kernel_rfl))
 f264:=Tryz.func287.trans (aQW some (by kernel_rfl))
 f276:=Tryz.func133.trans (aQW some (by kernel_rfl))
 f277:=Tryz.func296.trans (aQW some (by kernel_rfl))
 t0:=Tryz.underlying0
 a0:=Tryz.isAgg0
 z0:=Tryz.sizeOf0
 v0:=Tryz.zeroValue0
 t3:=Tryz.underlying3
 a3:=Tryz.isAgg3
 z3:=Tryz.sizeOf3
 v3:=Tryz.zeroValue3
 t4:=Tryz.underlying4
 a4:=Tryz.isAgg4
 z4:=Tryz.sizeOf4
 v4:=Tryz.zeroValue4
 t5:=Tryz.underlying5
 a5:=Tryz.isAgg5
 z5:=Tryz.sizeOf5
 v5:=Tryz.zeroValue5
 t9:=Tryz.underlying9
 a9:=Tryz.isAgg9
 z9:=Tryz.sizeOf9
 v9:=Tryz.zeroValue9
 t20:=Tryz.underlying20
 a20:=Tryz.isAgg20
 z20:=Tryz.sizeOf20
 v20:=Tryz.zeroValue20
 t37:=Tryz.underlying42
 a37:=Tryz.isAgg42
 z37:=Tryz.sizeOf42
 v37:=Tryz.zeroValue42
 t46:=Tryz.underlying219
 a46:=Tryz.isAgg219
 z46:=Tryz.sizeOf219
 v46:=Tryz.zeroValue219
 t51:=Tryz.underlying241
 a51:=Tryz.isAgg241
 z51:=Tryz.sizeOf241
 v51:=Tryz.zeroValue241
 t53:=Tryz.underlying243
 a53:=Tryz.isAgg243
 z53:=Tryz.sizeOf243
 v53:=Tryz.zeroValue243
 t70:=Tryz.underlying82
 a70:=Tryz.isAgg82
 z70:=Tryz.sizeOf82
 v70:=Tryz.zeroValue82
 t72:=Tryz.underlying84
 a72:=Tryz.isAgg84
 z72:=Tryz.sizeOf84
 v72:=Tryz.zeroValue84
 t75:=Tryz.underlying86
 a75:=Tryz.isAgg86
 z75:=Tryz.sizeOf86
 v75:=Tryz.zeroValue86
 t76:=Tryz.underlying87
 a76:=Tryz.isAgg87
 z76:=Tryz.sizeOf87
 v76:=Tryz.zeroValue87
 t109:=Tryz.underlying266
 a109:=Tryz.isAgg266
 z109:=Tryz.sizeOf266
 v109:=Tryz.zeroValue266
 t127:=Tryz.underlying125
 a127:=Tryz.isAgg125
 z127:=Tryz.sizeOf125
 v127:=Tryz.zeroValue125
 t146:=Tryz.underlying270
 a146:=Tryz.isAgg270
 z146:=Tryz.sizeOf270
 v146:=Tryz.zeroValue270
 t148:=Tryz.underlying280
 a148:=Tryz.isAgg280
 z148:=Tryz.sizeOf280
 v148:=Tryz.zeroValue280
 t164:=Tryz.underlying168
 a164:=Tryz.isAgg168
 z164:=Tryz.sizeOf168
 v164:=Tryz.zeroValue168}
theorem Tryz.Builder_Extra_105:Builder.Extra Tryz.prog Tryz.lays105_ren:={
 sizeBuilder:=by kernel_rfl
 liesBuilder:=by kernel_rfl
 t5:=Tryz.underlying5
 a5:=Tryz.isAgg5
 z5:=Tryz.sizeOf5
 v5:=Tryz.zeroValue5
 infoByte:=by kernel_rfl
 cellsByte:=by kernel_rfl
 sizeByte:=by kernel_rfl
 neB5:=by decide}
end Go.Proofs
namespace Go.Proofs.YtbbpilohihldiaaGreatDoor
open Vc Go.RowKit
def ZH (n:Int):Prop:=n=16
instance (n:Int):Decidable (ZH n):=inferInstanceAs (Decidable (n=16))
@[go_sem] def ZI:List pA->List p9->Option pF
 |[(.val (.int .i64) O,none),(.val (.int .i64) Z,none)],[]=>some ⟨[0<=O/\O<256/\ZH Z],[(.val .str (vK O Z),none)],[]⟩
 |_,_=>none
theorem aJn:zA Tryz.prog 245 ZI:=by
 refine KZ (fun _ _=>rfl) fun g w args vals L r hT ha hC hs=> ?_;unfold ZI at hC;split at hC
 ·rename_i c d;cases hC;obtain⟨h1,h2,h3⟩:=hs _ aQH;obtain⟨va,_,rfl,ra,vb,_,rfl,rb,hv⟩:=ha;obtain rfl:=uM ra.1;obtain rfl:=uM rb.1;cases hv;obtain⟨u,rfl⟩: ∃u:Nat,c=((u:Nat):Int):=⟨Int.toNat c,(Int.toNat_of_nonneg h1).symm⟩;have h2:(u:Int)<256:=h2;obtain rfl:d=(16:Int):=h3;have hcell:w.cell? ⟨5,15,none⟩=some (.int .u8 4):=(hT.2.2.2 _ aQH).2;exact⟨rfl,rfl,(aAj hcell u (by omega)).mono fun e w' ⟨he,hb⟩=>⟨_,he,hb,F2 _ _ _,trivial⟩⟩
 ·cases hC
def IU (s:List UInt8) (c:Int):List UInt8:=Lib.repeatL s c.toNat
@[go_sem] def ZJ:List pA->List p9->Option pF
 |[(.val .str O,none),(.val (.int .i64) Z,none)],[]=>some ⟨[0<=Z/\Z<=140737488355328/\(List.length O:Int)*Z<=140737488355328],[(.val .str (IU O Z),none)],[]⟩
 |_,_=>none
theorem aJo:zA Tryz.prog 246 ZJ:=by
 refine KZ (fun _ _=>rfl) fun g w args vals L r hT ha hC hs=> ?_;unfold ZJ at hC;split at hC
 ·rename_i s c;cases hC;obtain⟨h1,h2,h3⟩:=hs _ aQH;obtain⟨va,_,rfl,ra,vb,_,rfl,rb,hv⟩:=ha;obtain rfl:=xT ra.1;obtain rfl:=uM rb.1;cases hv;obtain⟨u,rfl⟩: ∃u:Nat,c=((u:Nat):Int):=⟨Int.toNat c,(Int.toNat_of_nonneg h1).symm⟩;have h2:(u:Int)<=140737488355328:=h2;have h3:((List.length s:Nat):Int)*(u:Int)<=140737488355328:=h3;have h4:List.length s*u<=140737488355328:=by rw[<-Int.natCast_mul] at h3;exact Int.ofNat_le.1 h3
  have h:=Any.strings_Repeat Tryz.lays105 Tryz.Builder_Extra_105 ⟨List.toArray s⟩ u w (by omega) (by show (List.toArray s).size*u<=_;rw[aRb];exact h4);exact⟨rfl,rfl,h.mono fun e w' ⟨he,hb⟩=>⟨_,he,hb,F2 _ _ _,trivial⟩⟩
 ·cases hC
def T3 (_c:Int):List UInt8:=[]
@[go_sem] def ZK:List pA->List p9->Option pF
 |[(.val (.int .u8) O,none)],[]=>some ⟨[False],[(.val .str (T3 O),none)],[]⟩
 |_,_=>none
theorem aJp:zA Tryz.prog 165 ZK:=by
 refine KZ (fun _ _=>rfl) fun g w args vals L r hT ha hC hs=> ?_;unfold ZK at hC;split at hC
 ·cases hC;exact(hs _ aQH).elim
 ·cases hC
end Go.Proofs.YtbbpilohihldiaaGreatDoor
namespace Go.Proofs.YtbbpilohihldiaaGreatDoor
open Vc
noncomputable section
@[go_sem] abbrev uB:Ty:=(.pair .str (.pair .str (.pair .str (.pair (.list .str) (.pair (.list .str) (.pair (.int .i64) (.pair (.list (.pair .str (.pair .str .unit))) .unit)))))))
@[go_sem] abbrev L3:Ty:=(.pair .str (.pair (.list .str) (.pair (.list (.pair .str (.pair .str .unit))) (.pair (.list uB) .unit))))
@[go_sem] abbrev vW:Ty:=(.pair .str (.pair (.list .str) (.pair .str .unit)))
@[go_sem] abbrev wD:Ty:=(.pair .mref (.pair (.list (.int .u8)) .unit))
@[go_sem] abbrev D5:Ty:=(.pair .str (.pair (.int .i64) .unit))
@[go_sem] abbrev L4:Ty:=(.pair (.int .i64) (.pair .str (.pair (.int .i64) (.pair (.int .i64) .unit))))
@[go_sem] abbrev rH:Ty:=(.pair D5 (.pair L4 (.pair (.int .i64) (.pair (.int .i64) (.pair L3 (.pair .mp (.pair (.list (.int .i64)) (.pair (.int .i64) .unit))))))))
@[go_sem] abbrev yT8:Ty:=(.pair .str (.pair .str (.pair .str (.pair (.list .str) (.pair (.rl 9 .str) (.pair (.int .i64) (.pair (.list (.pair .str (.pair .str .unit))) .unit)))))))
@[go_sem] abbrev sJ:Ty:=(.pair yT8 (.pair .bool (.pair .mp .unit)))
@[go_sem] abbrev O7:Ty:=(.pair (.int .i64) (.pair .str .unit))
@[go_sem] abbrev aAl:Ty:=(.pair uB (.pair .bool (.pair .mp .unit)))
abbrev pR:Type:=((List UInt8)×((List UInt8)×Unit))
abbrev rG:Type:=((List UInt8)×((List UInt8)×((List UInt8)×((List (List UInt8))×((List (List UInt8))×(Int×((List pR)×Unit)))))))
abbrev tW:Type:=((List UInt8)×((List (List UInt8))×((List UInt8)×Unit)))
abbrev rJ:Type:=(Int×((List UInt8)×(Int×(Int×Unit))))
abbrev rC:Type:=((List UInt8)×((List (List UInt8))×((List pR)×((List rG)×Unit))))
abbrev FB:Type:=((List UInt8)×(Int×(Int×(Int×(rC×((List Int)×Unit))))))
@[go_sem] abbrev rR:Nat×TI:=(9,⟨.str,0,0,false,[]⟩)
theorem rU:sB Tryz.prog rR.1 rR.2:=⟨by kernel_rfl,(show Tryz.prog.underlying _=_ from by kernel_rfl)⟩
@[go_sem] abbrev vX:Nat×TI:=(23,⟨(.list .str),9,16,false,[]⟩)
theorem wP:sB Tryz.prog vX.1 vX.2:=⟨by kernel_rfl,(show _/\_/\_ from⟨by kernel_rfl,by kernel_rfl,by kernel_rfl⟩)⟩
@[go_sem] abbrev FC:Nat×TI:=(34,⟨vW,0,0,false,[(1,9,1)]⟩)
theorem IV:sB Tryz.prog FC.1 FC.2:=⟨by kernel_rfl,(show ((_/\∃_,_/\_)\/_)/\_ from⟨.inl ⟨rfl,_,Tryz.underlying34,(show _/\_/\_/\_ from⟨rfl,by kernel_rfl,by kernel_rfl,(show _/\_/\_/\_ from⟨rfl,by kernel_rfl,by kernel_rfl,(show _/\_/\_/\_ from⟨rfl,by kernel_rfl,by kernel_rfl,trivial⟩)⟩)⟩)⟩,(fun h=>absurd h (by decide))⟩)⟩
@[go_sem] abbrev L5:Nat×TI:=(37,⟨vW,0,0,false,[(1,9,1)]⟩)
theorem T4:sB Tryz.prog L5.1 L5.2:=⟨by kernel_rfl,(show ((_/\∃_,_/\_)\/_)/\_ from⟨.inl ⟨rfl,_,Tryz.underlying37,(show _/\_/\_/\_ from⟨rfl,by kernel_rfl,by kernel_rfl,(show _/\_/\_/\_ from⟨rfl,by kernel_rfl,by kernel_rfl,(show _/\_/\_/\_ from⟨rfl,by kernel_rfl,by kernel_rfl,trivial⟩)⟩)⟩)⟩,(fun h=>absurd h (by decide))⟩)⟩
@[go_sem] abbrev IW:Nat×TI:=(25,⟨(.list uB),55,128,false,[]⟩)
theorem O8:sB Tryz.prog IW.1 IW.2:=⟨by kernel_rfl,(show _/\_/\_ from⟨by kernel_rfl,by kernel_rfl,by kernel_rfl⟩)⟩
@[go_sem] abbrev E4:Nat×TI:=(27,⟨L3,0,0,false,[(1,9,1),(2,149,2),(3,55,7)]⟩)
theorem GS:sB Tryz.prog E4.1 E4.2:=⟨by kernel_rfl,(show ((_/\∃_,_/\_)\/_)/\_ from⟨.inl ⟨rfl,_,Tryz.underlying27,(show _/\_/\_/\_ from⟨rfl,by kernel_rfl,by kernel_rfl,(show _/\_/\_/\_ from⟨rfl,by kernel_rfl,by kernel_rfl,(show _/\_/\_/\_ from⟨rfl,by kernel_rfl,by kernel_rfl,(show _/\_/\_/\_ from⟨rfl,by kernel_rfl,by kernel_rfl,trivial⟩)⟩)⟩)⟩)⟩,(fun h=>absurd h (by decide))⟩)⟩
@[go_sem] abbrev E6:Nat×TI:=(55,⟨uB,0,0,false,[(3,9,1),(4,9,1),(6,149,2)]⟩)
theorem GT:sB Tryz.prog E6.1 E6.2:=⟨by kernel_rfl,(show ((_/\∃_,_/\_)\/_)/\_ from⟨.inl ⟨rfl,_,Tryz.underlying55,(show _/\_/\_/\_ from⟨rfl,by kernel_rfl,by kernel_rfl,(show _/\_/\_/\_ from⟨rfl,by kernel_rfl,by kernel_rfl,(show _/\_/\_/\_ from⟨rfl,by kernel_rfl,by kernel_rfl,(show _/\_/\_/\_ from⟨rfl,by kernel_rfl,by kernel_rfl,(show _/\_/\_/\_ from⟨rfl,by kernel_rfl,by kernel_rfl,(show _/\_/\_/\_ from⟨rfl,by kernel_rfl,by kernel_rfl,(show _/\_/\_/\_ from⟨rfl,by kernel_rfl,by kernel_rfl,trivial⟩)⟩)⟩)⟩)⟩)⟩)⟩)⟩,(fun h=>absurd h (by decide))⟩)⟩
@[go_sem] abbrev FD:Nat×TI:=(42,⟨(.list (.int .u8)),5,1,false,[]⟩)
theorem IX:sB Tryz.prog FD.1 FD.2:=⟨by kernel_rfl,(show _/\_/\_ from⟨by kernel_rfl,by kernel_rfl,by kernel_rfl⟩)⟩
@[go_sem] abbrev FE:Nat×TI:=(84,⟨wD,0,0,false,[(1,5,1)]⟩)
theorem IY:sB Tryz.prog FE.1 FE.2:=⟨by kernel_rfl,(show ((_/\∃_,_/\_)\/_)/\_ from⟨.inl ⟨rfl,_,Tryz.underlying84,(show _/\_/\_/\_ from⟨rfl,by kernel_rfl,by kernel_rfl,(show _/\_/\_/\_ from⟨rfl,by kernel_rfl,by kernel_rfl,trivial⟩)⟩)⟩,(fun h=>absurd h (by decide))⟩)⟩
@[go_sem] abbrev AW:Nat×TI:=(24,⟨(.list (.pair .str (.pair .str .unit))),149,32,false,[]⟩)
theorem CF:sB Tryz.prog AW.1 AW.2:=⟨by kernel_rfl,(show _/\_/\_ from⟨by kernel_rfl,by kernel_rfl,by kernel_rfl⟩)⟩
@[go_sem] abbrev E8:Nat×TI:=(149,⟨(.pair .str (.pair .str .unit)),0,1,false,[]⟩)
theorem GU:sB Tryz.prog E8.1 E8.2:=⟨by kernel_rfl,(show ((_/\∃_,_/\_)\/_)/\_ from⟨.inl ⟨rfl,_,Tryz.underlying149,(show _/\_/\_/\_ from⟨rfl,by kernel_rfl,by kernel_rfl,(show _/\_/\_/\_ from⟨rfl,by kernel_rfl,by kernel_rfl,trivial⟩)⟩)⟩,(fun _=>⟨by kernel_rfl,1,by decide,(.struct rfl Tryz.underlying149 (by kernel_rfl) (.cons (by decide) rfl (by kernel_rfl) (by kernel_rfl) (.str Tryz.underlying9) (.cons (by decide) rfl (by kernel_rfl) (by kernel_rfl) (.str Tryz.underlying9) .nil)))⟩)⟩)⟩
@[go_sem] abbrev vL:Nat×TI:=(3,⟨(.int .i64),0,0,false,[]⟩)
theorem wE:sB Tryz.prog vL.1 vL.2:=⟨by kernel_rfl,(show Tryz.prog.underlying _=_ from by kernel_rfl)⟩
@[go_sem] abbrev E9:Nat×TI:=(4,⟨.bool,0,0,false,[]⟩)
theorem GV:sB Tryz.prog E9.1 E9.2:=⟨by kernel_rfl,(show Tryz.prog.underlying _=_ from by kernel_rfl)⟩
@[go_sem] abbrev GW:Nat×TI:=(66,⟨.mp,9,4,false,[]⟩)
theorem L6:sB Tryz.prog GW.1 GW.2:=⟨by kernel_rfl,(show Tryz.prog.underlying _=_ from by kernel_rfl)⟩
@[go_sem] abbrev FF:Nat×TI:=(5,⟨(.int .u8),0,0,false,[]⟩)
theorem IZ:sB Tryz.prog FF.1 FF.2:=⟨by kernel_rfl,(show Tryz.prog.underlying _=_ from by kernel_rfl)⟩
@[go_sem] abbrev L7:Nat×TI:=(21,⟨(.int .i32),0,0,false,[]⟩)
theorem T5:sB Tryz.prog L7.1 L7.2:=⟨by kernel_rfl,(show Tryz.prog.underlying _=_ from by kernel_rfl)⟩
@[go_sem] abbrev T6:Nat×TI:=(60,⟨.ref,0,0,false,[]⟩)
theorem aAm:sB Tryz.prog T6.1 T6.2:=⟨by kernel_rfl,(show∃_,_ from⟨_,Tryz.underlying60⟩)⟩
@[go_sem] abbrev xF:Nat×TI:=(69,⟨rH,0,0,false,[(9,9,1),(10,149,2),(11,55,7),(13,3,1)]⟩)
theorem yJ:sB Tryz.prog xF.1 xF.2:=⟨by kernel_rfl,(show ((_/\∃_,_/\_)\/_)/\_ from⟨.inl ⟨rfl,_,Tryz.underlying69,(show _/\_/\_/\_ from⟨rfl,by kernel_rfl,by kernel_rfl,(show _/\_/\_/\_ from⟨rfl,by kernel_rfl,by kernel_rfl,(show _/\_/\_/\_ from⟨rfl,by kernel_rfl,by kernel_rfl,(show _/\_/\_/\_ from⟨rfl,by kernel_rfl,by kernel_rfl,(show _/\_/\_/\_ from⟨rfl,by kernel_rfl,by kernel_rfl,(show _/\_/\_/\_ from⟨rfl,by kernel_rfl,by kernel_rfl,(show _/\_/\_/\_ from⟨rfl,by kernel_rfl,by kernel_rfl,(show _/\_/\_/\_ from⟨rfl,by kernel_rfl,by kernel_rfl,trivial⟩)⟩)⟩)⟩)⟩)⟩)⟩)⟩)⟩,(fun h=>absurd h (by decide))⟩)⟩
@[go_sem] abbrev FG:Nat×TI:=(28,⟨(.int .i64),0,0,false,[]⟩)
theorem J0:sB Tryz.prog FG.1 FG.2:=⟨by kernel_rfl,(show Tryz.prog.underlying _=_ from by kernel_rfl)⟩
@[go_sem] abbrev T7:Nat×TI:=(24,⟨(.list (.pair .str (.pair .str .unit))),149,32,true,[]⟩)
theorem aAn:sB Tryz.prog T7.1 T7.2:=⟨by kernel_rfl,(show _/\_/\_ from⟨by kernel_rfl,by kernel_rfl,by kernel_rfl⟩)⟩
@[go_sem] abbrev zE:Nat×TI:=(65,⟨L4,0,1,false,[]⟩)
theorem AX:sB Tryz.prog zE.1 zE.2:=⟨by kernel_rfl,(show ((_/\∃_,_/\_)\/_)/\_ from⟨.inl ⟨rfl,_,Tryz.underlying65,(show _/\_/\_/\_ from⟨rfl,by kernel_rfl,by kernel_rfl,(show _/\_/\_/\_ from⟨rfl,by kernel_rfl,by kernel_rfl,(show _/\_/\_/\_ from⟨rfl,by kernel_rfl,by kernel_rfl,(show _/\_/\_/\_ from⟨rfl,by kernel_rfl,by kernel_rfl,trivial⟩)⟩)⟩)⟩)⟩,(fun _=>⟨by kernel_rfl,1,by decide,(.struct rfl Tryz.underlying65 (by kernel_rfl) (.cons (by decide) rfl (by kernel_rfl) (by kernel_rfl) (.int Tryz.underlying3) (.cons (by decide) rfl (by kernel_rfl) (by kernel_rfl) (.str Tryz.underlying9) (.cons (by decide) rfl (by kernel_rfl) (by kernel_rfl) (.int Tryz.underlying3) (.cons (by decide) rfl (by kernel_rfl) (by kernel_rfl) (.int Tryz.underlying3) .nil)))))⟩)⟩)⟩
@[go_sem] abbrev BQ:Nat×TI:=(204,⟨sJ,0,0,false,[(3,9,1),(6,149,2)]⟩)
theorem D6:sB Tryz.prog BQ.1 BQ.2:=⟨by kernel_rfl,(show ((_/\∃_,_/\_)\/_)/\_ from⟨.inl ⟨rfl,_,Tryz.underlying204,(show _/\_/\_/\_ from⟨rfl,by kernel_rfl,by kernel_rfl,(show _/\_/\_/\_ from⟨rfl,by kernel_rfl,by kernel_rfl,(show _/\_/\_/\_ from⟨rfl,by kernel_rfl,by kernel_rfl,trivial⟩)⟩)⟩)⟩,(fun h=>absurd h (by decide))⟩)⟩
@[go_sem] abbrev T8:Nat×TI:=(205,⟨.fn,0,0,false,[]⟩)
theorem aAo:sB Tryz.prog T8.1 T8.2:=⟨by kernel_rfl,(show∃_ _ _,_ from⟨_,_,_,Tryz.underlying205⟩)⟩
@[go_sem] abbrev T9:Nat×TI:=(207,⟨.mp,9,205,false,[]⟩)
theorem aAp:sB Tryz.prog T9.1 T9.2:=⟨by kernel_rfl,(show Tryz.prog.underlying _=_ from by kernel_rfl)⟩
@[go_sem] abbrev ZL:Nat×TI:=(2,⟨(.int .i64),0,0,false,[]⟩)
theorem aJq:sB Tryz.prog ZL.1 ZL.2:=⟨by kernel_rfl,(show Tryz.prog.underlying _=_ from by kernel_rfl)⟩
@[go_sem] abbrev TA:Nat×TI:=(241,⟨(.int .u32),0,0,false,[]⟩)
theorem aAq:sB Tryz.prog TA.1 TA.2:=⟨by kernel_rfl,(show Tryz.prog.underlying _=_ from by kernel_rfl)⟩
@[go_sem] abbrev L8:Nat×TI:=(67,⟨(.list (.int .i64)),3,8,false,[]⟩)
theorem TB:sB Tryz.prog L8.1 L8.2:=⟨by kernel_rfl,(show _/\_/\_ from⟨by kernel_rfl,by kernel_rfl,by kernel_rfl⟩)⟩
@[go_sem] abbrev TC:Nat×TI:=(74,⟨(.list O7),122,24,false,[]⟩)
theorem aAr:sB Tryz.prog TC.1 TC.2:=⟨by kernel_rfl,(show _/\_/\_ from⟨by kernel_rfl,by kernel_rfl,by kernel_rfl⟩)⟩
@[go_sem] abbrev ZM:Nat×TI:=(122,⟨O7,0,1,false,[]⟩)
theorem aJr:sB Tryz.prog ZM.1 ZM.2:=⟨by kernel_rfl,(show ((_/\∃_,_/\_)\/_)/\_ from⟨.inl ⟨rfl,_,Tryz.underlying122,(show _/\_/\_/\_ from⟨rfl,by kernel_rfl,by kernel_rfl,(show _/\_/\_/\_ from⟨rfl,by kernel_rfl,by kernel_rfl,trivial⟩)⟩)⟩,(fun _=>⟨by kernel_rfl,1,by decide,(.struct rfl Tryz.underlying122 (by kernel_rfl) (.cons (by decide) rfl (by kernel_rfl) (by kernel_rfl) (.int Tryz.underlying3) (.cons (by decide) rfl (by kernel_rfl) (by kernel_rfl) (.str Tryz.underlying9) .nil)))⟩)⟩)⟩
@[go_sem] abbrev D7:Nat×TI:=(55,⟨yT8,0,0,false,[(3,9,1),(6,149,2)]⟩)
theorem FH:sB Tryz.prog D7.1 D7.2:=⟨by kernel_rfl,(show ((_/\∃_,_/\_)\/_)/\_ from⟨.inl ⟨rfl,_,Tryz.underlying55,(show _/\_/\_/\_ from⟨rfl,by kernel_rfl,by kernel_rfl,(show _/\_/\_/\_ from⟨rfl,by kernel_rfl,by kernel_rfl,(show _/\_/\_/\_ from⟨rfl,by kernel_rfl,by kernel_rfl,(show _/\_/\_/\_ from⟨rfl,by kernel_rfl,by kernel_rfl,(show _/\_/\_/\_ from⟨rfl,by kernel_rfl,by kernel_rfl,(show _/\_/\_/\_ from⟨rfl,by kernel_rfl,by kernel_rfl,(show _/\_/\_/\_ from⟨rfl,by kernel_rfl,by kernel_rfl,trivial⟩)⟩)⟩)⟩)⟩)⟩)⟩)⟩,(fun h=>absurd h (by decide))⟩)⟩
@[go_sem] abbrev L9:Nat×TI:=(202,⟨.ref,0,0,false,[]⟩)
theorem TD:sB Tryz.prog L9.1 L9.2:=⟨by kernel_rfl,(show∃_,_ from⟨_,Tryz.underlying202⟩)⟩
@[go_sem] abbrev O9:Nat×TI:=(63,⟨D5,0,1,false,[]⟩)
theorem ZN:sB Tryz.prog O9.1 O9.2:=⟨by kernel_rfl,(show ((_/\∃_,_/\_)\/_)/\_ from⟨.inl ⟨rfl,_,Tryz.underlying63,(show _/\_/\_/\_ from⟨rfl,by kernel_rfl,by kernel_rfl,(show _/\_/\_/\_ from⟨rfl,by kernel_rfl,by kernel_rfl,trivial⟩)⟩)⟩,(fun _=>⟨by kernel_rfl,1,by decide,(.struct rfl Tryz.underlying63 (by kernel_rfl) (.cons (by decide) rfl (by kernel_rfl) (by kernel_rfl) (.str Tryz.underlying9) (.cons (by decide) rfl (by kernel_rfl) (by kernel_rfl) (.int Tryz.underlying3) .nil)))⟩)⟩)⟩
@[go_sem] abbrev ZO:Nat×TI:=(204,⟨aAl,0,0,false,[(3,9,1),(4,9,1),(6,149,2)]⟩)
theorem aJs:sB Tryz.prog ZO.1 ZO.2:=⟨by kernel_rfl,(show ((_/\∃_,_/\_)\/_)/\_ from⟨.inl ⟨rfl,_,Tryz.underlying204,(show _/\_/\_/\_ from⟨rfl,by kernel_rfl,by kernel_rfl,(show _/\_/\_/\_ from⟨rfl,by kernel_rfl,by kernel_rfl,(show _/\_/\_/\_ from⟨rfl,by kernel_rfl,by kernel_rfl,trivial⟩)⟩)⟩)⟩,(fun h=>absurd h (by decide))⟩)⟩
theorem qH:Tryz.prog.follows .mixedOrders=true:=by kernel_rfl
@[go_sem] abbrev LA:Nat×pY:=(135,⟨[.v,.v],Z7,[],[],none⟩)
theorem OA:qI Tryz.prog LA:=⟨aIE,fun _ h=>by cases h⟩
@[go_sem] abbrev aAs:Nat×pY:=(243,⟨[.v],Z8,[],[],none⟩)
theorem aJt:qI Tryz.prog aAs:=⟨aIF,fun _ h=>by cases h⟩
@[go_sem] abbrev aAt:Nat×pY:=(173,⟨[.v,.v],Z9,[],[],none⟩)
theorem aJu:qI Tryz.prog aAt:=⟨aII,fun _ h=>by cases h⟩
@[go_sem] abbrev TE:Nat×pY:=(93,⟨[.p wD [1]],ZA,[],[],none⟩)
theorem ZP:qI Tryz.prog TE:=⟨aIL,fun _ h=>by cases h⟩
@[go_sem] abbrev OB:Nat×pY:=(54,⟨[.p wD [1]],ZC,[],[],none⟩)
theorem TF:qI Tryz.prog OB:=⟨aIT,fun _ h=>by cases h⟩
@[go_sem] abbrev aAu:Nat×pY:=(240,⟨[.r,.v,.v],ZE,[],[],none⟩)
theorem aJv:qI Tryz.prog aAu:=⟨aI2,fun _ h=>by cases h⟩
@[go_sem] abbrev aAv:Nat×pY:=(245,⟨[.v,.v],ZI,[],[],none⟩)
theorem aJw:qI Tryz.prog aAv:=⟨aJn,fun _ h=>by cases h⟩
@[go_sem] abbrev aAw:Nat×pY:=(246,⟨[.v,.v],ZJ,[],[],none⟩)
theorem aJx:qI Tryz.prog aAw:=⟨aJo,fun _ h=>by cases h⟩
@[go_sem] abbrev aAx:Nat×pY:=(165,⟨[.v],ZK,[],[],none⟩)
theorem aJy:qI Tryz.prog aAx:=⟨aJp,fun _ h=>by cases h⟩
@[go_sem] abbrev ZQ:Nat×pY:=(147,⟨[.v],noC,[],[],some a91⟩)
theorem aJz:qI Tryz.prog ZQ:=aIH
end
theorem xG {σ ρ:Type}(f:σ->Option (σ⊕ρ)) (x:σ):pU f x=(f x).bind fun w=>match w with
  | .inl y=>pU f y
  | .inr r=>some r:=by
 cases h:f x with
 |none=>
  cases h2:pU f x with
  |none=>rfl
  |some r=>
   obtain⟨n,hn⟩:=SZ h2;cases n with
   |zero=>cases hn
   |succ n=>unfold iter at hn;rw[h] at hn;cases hn
 |some w=>
  cases w with
  |inl y=>exact IQ h
  |inr r=>exact wO h
theorem zY {t:Ty}{l:List t.den}{i:Nat}(h:i<l.length):pZ t l (i:Int)=l[i]:=by
 unfold pZ;rw[aQ2,aQI,aQs h];rfl
theorem xV {l:List UInt8}{i:Nat}(h:i<l.length):pL l (i:Int)=(l[i].toNat:Int):=by
 unfold pL;rw[aQ2,aQI,aQs h];rfl
def tQ {β:Type}(f:Nat->β) (b:β):Option Nat->β
 |some k=>f k
 |none=>b
theorem ZR {α ρ:Type}{f:Int->Option (Int⊕(Unit⊕ρ))}{l:List α}(p:α->Bool) (g:Nat->ρ)
  (hf: ∀(i:Nat) (h:i<l.length),f i=if p l[i]=true then some (.inr (.inr (g i))) else some (.inl (i+1)))
  (he:f l.length=some (.inr (.inl ()))): ∀(n j:Nat),j+n=l.length->pU f j=some (tQ (fun k=> .inr (g (j+k))) (.inl ()) ((l.drop j).findIdx? p))
 |0,j,hj=>by
  have:j=l.length:=by omega
  subst this;rw[aQ3,xG,he];rfl
 |n+1,j,hj=>by
  have hlt:j<l.length:=by omega
  rw[xG,hf j hlt,aQL hlt,aRm];by_cases hp:p l[j]=true
  ·rw[aQj hp,aQj hp];rfl
  ·rw[aQl hp,aQl hp];show pU f ((j:Int)+1)=_;have:=ZR p g hf he n (j+1) (by omega);rw[show ((j:Int)+1)=((j+1:Nat):Int) by omega,this];cases(l.drop (j+1)).findIdx? p with
   |none=>rfl
   |some k=>
    show some (Sum.inr (g (j+1+k)))=some (Sum.inr (g (j+(k+1))));rw[show j+1+k=j+(k+1) by omega]
theorem CG {α ρ:Type}{f:Int->Option (Int⊕(Unit⊕ρ))}{l:List α}(p:α->Bool) (g:Nat->ρ)
  (hf: ∀(i:Nat) (h:i<l.length),f i=if p l[i]=true then some (.inr (.inr (g i))) else some (.inl (i+1)))
  (he:f l.length=some (.inr (.inl ()))):pU f 0=some (tQ (fun k=> .inr (g k)) (.inl ()) (l.findIdx? p)):=by
 have:=ZR p g hf he l.length 0 (by omega);simpa using this
theorem aAy {s:List UInt8}{i:Nat}(h:i<s.length) (ha:s[i].toNat<128):tJ s i=(s[i].toNat:Int)/\yX s i=i+1:=by
 have h1:=Lib.decodeL_drop ⟨s.toArray⟩ i;have h2:(⟨s.toArray⟩:ByteArray).data.toList.drop i=s[i]::s.drop (i+1):=by
  show s.drop i=_;rw[aQL h]
 rw[h2,Lib.decodeL_ascii _ _ ha] at h1;unfold tJ yX X3;rw[<-h1,aQj h];exact⟨rfl,rfl⟩
theorem aJA {n b0 b1 b2 b3:Nat}(h:128<=b0):128<=(Lib.decodeN n b0 b1 b2 b3).1:=by
 unfold Lib.decodeN
 repeat' split
 all_goals first|omega|(dsimp only;omega)
theorem aAz {s:List UInt8}{i:Nat}(h:i<s.length) (ha:128<=s[i].toNat):128<=tJ s i:=by
 unfold tJ;rw[Lib.decode_at];have:(⟨s.toArray⟩:ByteArray).get! i=s[i]:=by
  show s.toArray[i]! =_;simp [h]
 rw[this];exact Int.ofNat_le.2 (aJA ha)
theorem aAA {ρ:Type}{f:Nat->Option (Nat⊕(Unit⊕ρ))}{s:List UInt8}(p:Int->Bool) (g:Nat->ρ) (hb: ∀c,128<=c->p c=true)
  (hf: ∀(i:Nat) (h:i<s.length),f i=if p (tJ s i)=true then some (.inr (.inr (g i))) else some (.inl (yX s i)))
  (he:f s.length=some (.inr (.inl ()))): ∀(n j:Nat),j+n=s.length->pU f j=some (tQ (fun k=> .inr (g (j+k))) (.inl ()) ((s.drop j).findIdx? (fun b=>p b.toNat)))
 |0,j,hj=>by
  have:j=s.length:=by omega
  subst this;rw[aQ3,xG,he];rfl
 |n+1,j,hj=>by
  have hlt:j<s.length:=by omega
  rw[xG,hf j hlt,aQL hlt,aRm];by_cases ha:s[j].toNat<128
  ·obtain⟨e1,e2⟩:=aAy hlt ha;rw[e1,e2];by_cases hp:p (s[j].toNat:Int)=true
   ·rw[aQj hp,aQj hp];rfl
   ·rw[aQl hp,aQl hp];show pU f (j+1)=_;rw[aAA p g hb hf he n (j+1) (by omega)];cases(s.drop (j+1)).findIdx? (fun b=>p b.toNat) with
    |none=>rfl
    |some k=>
     show some (Sum.inr (g (j+1+k)))=some (Sum.inr (g (j+(k+1))));rw[show j+1+k=j+(k+1) by omega]
  ·rw[aQj (hb _ (aAz hlt (by omega))),aQj (hb _ (by omega))];rfl
theorem aAB {ρ:Type}{f:Nat->Option (Nat⊕(Unit⊕ρ))}{s:List UInt8}(p:Int->Bool) (g:Nat->ρ) (hb: ∀c,128<=c->p c=true)
  (hf: ∀(i:Nat) (h:i<s.length),f i=if p (tJ s i)=true then some (.inr (.inr (g i))) else some (.inl (yX s i)))
  (he:f s.length=some (.inr (.inl ()))):pU f 0=some (tQ (fun k=> .inr (g k)) (.inl ()) (s.findIdx? (fun b=>p b.toNat))):=by
 have:=aAA p g hb hf he s.length 0 (by omega);simpa using this
def pQ {α:Type}(l:List α):Prop:=l.length<=4000000000
noncomputable section
def aAC (O:tW):Unit:=()
section
variable (O:tW)
abbrev ZS:List pA:=[(.val vW O,none)]
abbrev ZT:List p9:=[]
@[go_sem] def ZU:pF:=⟨[],[(.val vW (O.1,(O.2.1,(O.2.2.1,()))),none)],[]⟩
def aAD:List pA→List p9→Option pF:=qP (V:=tW) (fun x=>ZS x) (fun x=>ZT) fun x=>ZU x
@[go_sem] theorem aOH:aAD (no_index (ZS O)) (no_index ZT)=some (ZU O):=qR (fun a0 b0 h1 h2=>by cases h1;cases h2;rfl) O
end
@[go_sem] abbrev aAE:Nat×pY:=(22,⟨[.v],aAD,[],[],none⟩)
theorem ZV:qE Tryz.prog [rR,vX,FC,L5] (qC []):=⟨⟨rU,⟨wP,⟨IV,⟨T4,trivial⟩⟩⟩⟩,qT,qH⟩
theorem aJB:qI Tryz.prog aAE:=by
 refine qS ZV Tryz.func22 (c:=_) rfl (N:=10) (by kernel_rfl) (ts:=[(2,some 37)]) rfl (fun _ _=>rfl) ?_;intro O hs hrow;dsimp only[ZS,ZT,ZU,qK,pM,pV,qG,qO,Nat.reduceAdd] at hs hrow⊢;obtain⟨z0,hC0⟩: ∃z,(aAC O)=z:=⟨_,rfl⟩
 try rw[hC0]
 unfold aAC at hC0;refine p8 ZV ?_;refine p8 ZV ?_;refine pI ?_;cases hC0;exact⟨[],by rfl,by rfl,by rfl⟩
def TG (O:rC) (Z:(List UInt8)):Int→Option (Int⊕(Unit⊕(Int×Bool))):=fun aA=>if (decide (aA<(O.2.2.2.1.length:Int)))=true then if 0≤aA∧aA<(O.2.2.2.1.length:Int) then if (decide ((pZ uB O.2.2.2.1 aA).1=Z))=true then some (.inr (.inr ((aA,true)))) else if pB (aA+(1:Int)) then some (.inl (aA+(1:Int))) else none else none else some (.inr (.inl ()))
def TH (O:rC) (Z:(List UInt8)):Option (Int×Bool):=rZ (pU (TG O Z) (0:Int)) fun _=>some (((0:Int),false))
attribute [irreducible] TH
def aAF (O:tW):Unit:=()
section
variable (O:tW)
abbrev ZW:List pA:=[(.val vW O,none)]
abbrev ZX:List p9:=[]
@[go_sem] def ZY:pF:=⟨[],[(.val .clo (some (92,[(0,0)])),none)],[.cells vW O []]⟩
def aAG:List pA→List p9→Option pF:=qP (V:=tW) (fun x=>ZW x) (fun x=>ZX) fun x=>ZY x
@[go_sem] theorem aOI:aAG (no_index (ZW O)) (no_index ZX)=some (ZY O):=qR (fun a0 b0 h1 h2=>by cases h1;cases h2;rfl) O
end
@[go_sem] abbrev aAH:Nat×pY:=(50,⟨[.v],aAG,[],[],none⟩)
theorem ZZ:qE Tryz.prog [FC] (qC []):=⟨⟨IV,trivial⟩,qT,qH⟩
theorem aJC:qI Tryz.prog aAH:=by
 refine qS ZZ Tryz.func50 (c:=_) rfl (N:=4) (by kernel_rfl) (ts:=[(2,none)]) rfl (fun _ _=>rfl) ?_;intro O hs hrow;dsimp only[ZW,ZX,ZY,qK,pM,pV,qG,qO,Nat.reduceAdd] at hs hrow⊢;obtain⟨z0,hC0⟩: ∃z,(aAF O)=z:=⟨_,rfl⟩
 try rw[hC0]
 unfold aAF at hC0;refine p8 ZZ ?_;refine p8 ZZ ?_;refine pI ?_;cases hC0;exact⟨[(0,0)],by rfl,by rfl,by rfl⟩
def CH (O:((List Int)×Unit)) (Z:(List UInt8)):Option Unit:=if List.length O.1+Z.length≤140737488355328 then some (()) else none
section
variable (O:(List UInt8)) (Z:((List Int)×Unit)) (aA:Nat)
abbrev a0a:List pA:=[(.val .ref (some (0,0)),none),(.val .str O,none)]
abbrev a0b:List p9:=[.cells wD ((some (0,0)),Z) [(1,1)],.grow 5 1 aA]
@[go_sem] def a0c:pF:=⟨[aA=(Z.1.length),((CH Z O)).isSome=true],[(.val (.int .i64) (O.length:Int),none),(.any,none)],[.cells wD ((some (0,0)),((Z.1++sE O),())) [(1,1)],.grow 5 1 ((Z.1++sE O).length)]⟩
def aAI:List pA→List p9→Option pF:=qP (V:=((List UInt8)×((List Int)×Unit)×Nat)) (fun x=>a0a x.1) (fun x=>a0b x.2.1 x.2.2) fun x=>a0c x.1 x.2.1 x.2.2
@[go_sem] theorem aOJ:aAI (no_index (a0a O)) (no_index (a0b Z aA))=some (a0c O Z aA):=qR (fun⟨a0,a1,a2⟩ ⟨b0,b1,b2⟩ h1 h2=>by cases h1;cases h2;rfl) (O,Z,aA)
end
@[go_sem] abbrev TJ:Nat×pY:=(53,⟨[.p wD [1],.v],aAI,[],[],none⟩)
theorem OC:qE Tryz.prog [rR,FD,FE] (qC [TE]):=⟨⟨rU,⟨IX,⟨IY,trivial⟩⟩⟩,pK ZP qT,qH⟩
theorem a0d:qI Tryz.prog TJ:=by
 refine qS OC Tryz.func53 (c:=_) rfl (N:=19) (by kernel_rfl) (ts:=[(4,none),(5,none)]) rfl (fun _ _=>rfl) ?_;intro⟨O,Z,aA⟩ hs hrow;dsimp only[a0a,a0b,a0c,qK,pM,pV,qG,qO,Nat.reduceAdd] at hs hrow⊢;obtain⟨rfl,hz⟩:=hs;obtain⟨z0,hC0⟩:=aQn.1 hz
 try rw[r8 hC0]
 clear hz;unfold CH at hC0;refine p8 OC ?_;refine p8 OC ?_ (hp:=by first|rfl|trivial)
 obtain⟨hg1,hC0⟩:=pG hC0;refine p8 OC ?_ (hp:=by exact⟨by first|rfl|trivial,hg1⟩)
 refine p8 OC ?_;refine pI ?_;cases hC0;exact⟨[(0,0),(1,1)],by rfl,by rfl,by rfl⟩
attribute [irreducible] CH
end
noncomputable section
def J1 (O:tW):Option Unit:=if (([O.1]:List (List UInt8)).length+O.2.1.length)*16≤140737488355328 then if ((([O.1]:List (List UInt8))++O.2.1).length+([O.2.2.1]:List (List UInt8)).length)*16≤140737488355328 then some (()) else none else none
section
variable (O:tW)
abbrev a0e:List pA:=[(.val vW O,none)]
abbrev a0f:List p9:=[]
@[go_sem] def a0g:pF:=⟨[((J1 O)).isSome=true],[(.val (.list .str) ((([O.1]:List (List UInt8))++O.2.1)++([O.2.2.1]:List (List UInt8))),some 0)],[.grow 9 1 (((([O.1]:List (List UInt8))++O.2.1)++([O.2.2.1]:List (List UInt8))).length)]⟩
def aAJ:List pA→List p9→Option pF:=qP (V:=tW) (fun x=>a0e x) (fun x=>a0f) fun x=>a0g x
@[go_sem] theorem aOK:aAJ (no_index (a0e O)) (no_index a0f)=some (a0g O):=qR (fun a0 b0 h1 h2=>by cases h1;cases h2;rfl) O
end
@[go_sem] abbrev aAK:Nat×pY:=(91,⟨[.v],aAJ,[],[],none⟩)
theorem a0h:qE Tryz.prog [rR,vX,L5] (qC []):=⟨⟨rU,⟨wP,⟨T4,trivial⟩⟩⟩,qT,qH⟩
theorem aJD:qI Tryz.prog aAK:=by
 refine qS a0h Tryz.func91 (c:=_) rfl (N:=13) (by kernel_rfl) (ts:=[(2,none)]) rfl (fun _ _=>rfl) ?_;intro O hs hrow;dsimp only[a0e,a0f,a0g,qK,pM,pV,qG,qO,Nat.reduceAdd] at hs hrow⊢;have hz:=hs;obtain⟨z0,hC0⟩:=aQn.1 hz
 try rw[r8 hC0]
 clear hz hs;unfold J1 at hC0;refine p8 a0h ?_;obtain⟨hg1,hC0⟩:=pG hC0;obtain⟨hg2,hC0⟩:=pG hC0;refine xU a0h ?_ (hp:=by exact⟨by first|rfl|trivial,hg1,by first|rfl|trivial,hg2⟩)
 refine pI ?_;cases hC0;exact⟨[(0,128)],by rfl,by rfl,by rfl⟩
attribute [irreducible] J1
def aAL:Unit:=()
section
abbrev a0i:List pA:=[]
abbrev a0j:List p9:=[]
@[go_sem] def a0k:pF:=⟨[],[(.val (.list .str) ([([110,101,119]:List UInt8),([102,117,122,122,121]:List UInt8),([116,114,97,110,115,108,97,116,101,100]:List UInt8),([114,101,118,105,101,119,101,100]:List UInt8),([111,98,115,111,108,101,116,101]:List UInt8)]:List (List UInt8)),some 0)],[.grow 9 1 (([([110,101,119]:List UInt8),([102,117,122,122,121]:List UInt8),([116,114,97,110,115,108,97,116,101,100]:List UInt8),([114,101,118,105,101,119,101,100]:List UInt8),([111,98,115,111,108,101,116,101]:List UInt8)]:List (List UInt8)).length)]⟩
def aAM:List pA→List p9→Option pF:=qP (V:=Unit) (fun x=>a0i) (fun x=>a0j) fun x=>a0k
@[go_sem] theorem aOL:aAM (no_index a0i) (no_index a0j)=some a0k:=qR (fun _ _ h1 h2=>by cases h1;cases h2;rfl) ()
end
@[go_sem] abbrev OD:Nat×pY:=(111,⟨[],aAM,[],[],none⟩)
theorem a0l:qE Tryz.prog [vX] (qC []):=⟨⟨wP,trivial⟩,qT,qH⟩
theorem a0m:qI Tryz.prog OD:=by
 refine qS a0l Tryz.func111 (c:=_) rfl (N:=2) (by kernel_rfl) (ts:=[(0,none)]) rfl (fun _ _=>rfl) ?_;intro⟨⟩ hs hrow;dsimp only[a0i,a0j,a0k,qK,pM,pV,qG,qO,Nat.reduceAdd] at hs hrow⊢;obtain⟨z0,hC0⟩: ∃z,aAL=z:=⟨_,rfl⟩
 try rw[hC0]
 unfold aAL at hC0;refine p8 a0l ?_;refine p8 a0l ?_;refine pI ?_;cases hC0;exact⟨[(0,32)],by rfl,by rfl,by rfl⟩
def a0n (O:Int):Option Unit:=if 0≤O∧O<(([([110,101,119]:List UInt8),([102,117,122,122,121]:List UInt8),([116,114,97,110,115,108,97,116,101,100]:List UInt8),([114,101,118,105,101,119,101,100]:List UInt8),([111,98,115,111,108,101,116,101]:List UInt8)]:List (List UInt8)).length:Int) then some (()) else none
attribute [irreducible] a0n
end
noncomputable section
def OE (O:(List UInt8)):Nat→Option (Nat⊕(Unit⊕Bool)):=fun Z=>if (decide (Z<O.length))=true then if (decide (Z<O.length))=true then if (((((decide ((tJ O Z)<(97:Int)))||(decide ((122:Int)<(tJ O Z))))&&((decide ((tJ O Z)<(65:Int)))||(decide ((90:Int)<(tJ O Z)))))&&((decide ((tJ O Z)<(48:Int)))||(decide ((57:Int)<(tJ O Z)))))&&(!decide ((tJ O Z)=(45:Int))))=true then some (.inr (.inr (false))) else some (.inl (yX O Z)) else none else some (.inr (.inl ()))
def FI (O:(List UInt8)):Option Bool:=rZ (pU (OE O) 0) fun _=>some (((decide ((1:Int)≤(O.length:Int)))&&(decide ((O.length:Int)≤(40:Int)))))
section
variable (O:(List UInt8))
abbrev a0o:List pA:=[(.val .str O,none)]
abbrev a0p:List p9:=[]
@[go_sem] def a0q:pF:=⟨[((FI O)).isSome=true],[(.val .bool (val (FI O)),none)],[]⟩
def aAN:List pA→List p9→Option pF:=qP (V:=(List UInt8)) (fun x=>a0o x) (fun x=>a0p) fun x=>a0q x
@[go_sem] theorem aOM:aAN (no_index (a0o O)) (no_index a0p)=some (a0q O):=qR (fun a0 b0 h1 h2=>by cases h1;cases h2;rfl) O
end
@[go_sem] abbrev a0r:Nat×pY:=(106,⟨[.v],aAN,[],[],none⟩)
theorem GX:qE Tryz.prog [rR] (qC []):=⟨⟨rU,trivial⟩,qT,qH⟩
theorem aAO:qI Tryz.prog a0r:=by
 refine qS GX Tryz.func106 (c:=_) rfl (N:=44) (by kernel_rfl) (ts:=[(2,none)]) rfl (fun _ _=>rfl) ?_;intro O hs hrow;dsimp only[a0o,a0p,a0q,qK,pM,pV,qG,qO,Nat.reduceAdd] at hs hrow⊢;have hz:=hs;obtain⟨z0,hC0⟩:=aQn.1 hz
 try rw[r8 hC0]
 clear hz hs;unfold FI at hC0;refine p8 GX ?_;refine pW ?_;refine p8 GX ?_;refine rI ?_;obtain⟨y1,hy1,hC0⟩:=zD hC0;refine uZ 0 (fun s=> ∃v,y1= .inl v∧s=(fun _=>⟨[(0,(.val .str O,none))],[],0,44,0⟩) v) ?_ ?_
 ·refine uY hy1 (fun x=>⟨[(0,(.val .str O,none)),(6,(.val .ref (some (0,0)),none))],[(0,.iter O x)],1,44,0⟩) ⟨[0,6],[(0,64)]⟩ (by rfl) ?_;intro Z w1 n1 hC1 hN1;unfold OE at hC1;dsimp only at hC1⊢;refine p8 GX ?_;refine pW ?_;refine pP hC1 (fun hC1 hc1=> ?_) (fun hC1 hc1=> ?_)
  ·refine qM (pN (rI ?_));obtain⟨hg1,hC1⟩:=pG hC1;refine p8 GX ?_ (hp:=by exact hg1);refine p8 GX ?_ (hp:=by exact⟨fun hh=>hh,fun hh=>uA hh,fun hh=>hh,fun hh=>hh,fun hh=>hh,fun hh=>hh,fun hG hh=>GQ hG hh,fun hh=>sH hh,fun hh=>hh,fun hh=>hh,fun hh=>hh,fun hh=>hh,fun hG hh=>GQ hG hh,fun hh=>sH hh,fun hh=>hh,(fun hh=>sH hh)⟩);refine pP hC1 (fun hC1 hc2=> ?_) (fun hC1 hc2=> ?_)
   ·refine p8 GX ?_;refine pI (rM (yI (yH (rM (rF ?_)))));cases hC1;cases hN1;dsimp only at hC0;cases hC0;exact⟨[],by rfl,by rfl,by rfl⟩
   ·refine qM (qV ?_);cases hC1;exact sM ⟨⟨[0,6],[(0,0)]⟩,_,by rfl,hN1⟩
  ·refine uG (uO (uI ?_));cases hC1;cases hN1;exact uH ⟨⟨[0],[]⟩,_,rfl,by rfl⟩
 ·rintro _ ⟨v,rfl,rfl⟩;dsimp only at hC0⊢;refine uX (pN ?_);refine p8 GX ?_ (hp:=by exact⟨fun hh=>hh,fun hh=>hh,(fun hh=>sH hh)⟩);refine pI ?_;cases hC0;exact⟨[],by rfl,by rfl,by rfl⟩
attribute [irreducible] FI
def aAP (O:Int):Unit:=()
section
variable (O:Int)
abbrev a0s:List pA:=[(.val (.int .u8) O,none)]
abbrev a0t:List p9:=[]
@[go_sem] def a0u:pF:=⟨[],[(.val .bool (((decide ((97:Int)≤O))&&(decide (O≤(122:Int))))||((decide ((65:Int)≤O))&&(decide (O≤(90:Int))))),none)],[]⟩
def aAQ:List pA→List p9→Option pF:=qP (V:=Int) (fun x=>a0s x) (fun x=>a0t) fun x=>a0u x
@[go_sem] theorem aON:aAQ (no_index (a0s O)) (no_index a0t)=some (a0u O):=qR (fun a0 b0 h1 h2=>by cases h1;cases h2;rfl) O
end
@[go_sem] abbrev a0v:Nat×pY:=(120,⟨[.v],aAQ,[],[],none⟩)
theorem a0w:qE Tryz.prog [] (qC []):=⟨trivial,qT,qH⟩
theorem aAR:qI Tryz.prog a0v:=by
 refine qS a0w Tryz.func120 (c:=_) rfl (N:=17) (by kernel_rfl) (ts:=[(2,none)]) rfl (fun _ _=>rfl) ?_;intro O hs hrow;dsimp only[a0s,a0t,a0u,qK,pM,pV,qG,qO,Nat.reduceAdd] at hs hrow⊢;obtain⟨z0,hC0⟩: ∃z,(aAP O)=z:=⟨_,rfl⟩
 try rw[hC0]
 unfold aAP at hC0;refine p8 a0w ?_;refine p8 a0w ?_ (hp:=by exact⟨fun hh=>hh,fun hh=>sH hh,fun hh=>hh,fun hh=>hh,fun hh=>hh,fun hh=>hh,fun hG hh=>GP hG hh,(fun hh=>uA hh)⟩);refine pI ?_;cases hC0;exact⟨[],by rfl,by rfl,by rfl⟩
def aAS (O:Int):Unit:=()
section
variable (O:Int)
abbrev a0x:List pA:=[(.val (.int .i32) O,none)]
abbrev a0y:List p9:=[]
@[go_sem] def a0z:pF:=⟨[],[(.val .bool ((decide ((127:Int)<O))||(((((!(((decide ((97:Int)≤(IntKind.wrap .u8 O)))&&(decide ((IntKind.wrap .u8 O)≤(122:Int))))||((decide ((65:Int)≤(IntKind.wrap .u8 O)))&&(decide ((IntKind.wrap .u8 O)≤(90:Int))))))&&((decide (O<(48:Int)))||(decide ((57:Int)<O))))&&(!decide (O=(45:Int))))&&(!decide (O=(95:Int))))&&(!decide (O=(46:Int))))),none)],[]⟩
def aAT:List pA→List p9→Option pF:=qP (V:=Int) (fun x=>a0x x) (fun x=>a0y) fun x=>a0z x
@[go_sem] theorem aOO:aAT (no_index (a0x O)) (no_index a0y)=some (a0z O):=qR (fun a0 b0 h1 h2=>by cases h1;cases h2;rfl) O
end
@[go_sem] abbrev aAU:Nat×pY:=(122,⟨[.v],aAT,[],[],none⟩)
theorem a0A:qE Tryz.prog [FF,L7] (qC [a0v]):=⟨⟨IZ,⟨T5,trivial⟩⟩,pK aAR qT,qH⟩
theorem aJE:qI Tryz.prog aAU:=by
 refine qS a0A Tryz.func122 (c:=_) rfl (N:=31) (by kernel_rfl) (ts:=[(2,none)]) rfl (fun _ _=>rfl) ?_;intro O hs hrow;dsimp only[a0x,a0y,a0z,qK,pM,pV,qG,qO,Nat.reduceAdd] at hs hrow⊢;obtain⟨z0,hC0⟩: ∃z,(aAS O)=z:=⟨_,rfl⟩
 try rw[hC0]
 unfold aAS at hC0;refine p8 a0A ?_;refine p8 a0A ?_ (hp:=by exact⟨fun hh=>hh,fun hh=>hh,fun hh=>hh,fun hh=>hh,fun hh=>hh,fun hh=>hh,fun hh=>hh,fun hh=>hh,fun hG hh=>GQ hG hh,fun hh=>hh,fun hG hh=>GP hG hh,fun hh=>hh,fun hh=>hh,fun hh=>hh,fun hG hh=>GP hG hh,fun hh=>hh,fun hh=>hh,fun hh=>hh,fun hG hh=>GP hG hh,fun hh=>hh,fun hh=>hh,fun hh=>hh,fun hG hh=>GP hG hh,(fun hh=>uA hh)⟩);refine pI ?_;cases hC0;exact⟨[],by rfl,by rfl,by rfl⟩
def aAV (O:(List UInt8)):Unit:=()
section
variable (O:(List UInt8))
abbrev a0B:List pA:=[(.val .str O,none)]
abbrev a0C:List p9:=[]
@[go_sem] def a0D:pF:=⟨[],[(.val .bool false,none)],[]⟩
def aAW:List pA→List p9→Option pF:=qP (V:=(List UInt8)) (fun x=>a0B x) (fun x=>a0C) fun x=>a0D
@[go_sem] theorem aOP:aAW (no_index (a0B O)) (no_index a0C)=some a0D:=qR (fun a0 b0 h1 h2=>by cases h1;cases h2;rfl) O
end
@[go_sem] abbrev TK:Nat×pY:=(125,⟨[.v],aAW,[],[],none⟩)
theorem a0E:qE Tryz.prog [] (qC []):=⟨trivial,qT,qH⟩
theorem a0F:qI Tryz.prog TK:=by
 refine qS a0E Tryz.func125 (c:=_) rfl (N:=3) (by kernel_rfl) (ts:=[(2,none)]) rfl (fun _ _=>rfl) ?_;intro O hs hrow;dsimp only[a0B,a0C,a0D,qK,pM,pV,qG,qO,Nat.reduceAdd] at hs hrow⊢;obtain⟨z0,hC0⟩: ∃z,(aAV O)=z:=⟨_,rfl⟩
 try rw[hC0]
 unfold aAV at hC0;refine p8 a0E ?_;refine p8 a0E ?_;refine pI ?_;cases hC0;exact⟨[],by rfl,by rfl,by rfl⟩
def aAX (O:(List UInt8)):Unit:=()
section
variable (O:(List UInt8))
abbrev a0G:List pA:=[(.val .str O,none)]
abbrev a0H:List p9:=[]
@[go_sem] def a0I:pF:=⟨[],[(.val .bool ((!decide (O=([]:List UInt8)))&&(decide ((O.length:Int)≤(200:Int)))),none)],[]⟩
def aAY:List pA→List p9→Option pF:=qP (V:=(List UInt8)) (fun x=>a0G x) (fun x=>a0H) fun x=>a0I x
@[go_sem] theorem aOQ:aAY (no_index (a0G O)) (no_index a0H)=some (a0I O):=qR (fun a0 b0 h1 h2=>by cases h1;cases h2;rfl) O
end
@[go_sem] abbrev aAZ:Nat×pY:=(127,⟨[.v],aAY,[],[],none⟩)
theorem a0J:qE Tryz.prog [rR] (qC []):=⟨⟨rU,trivial⟩,qT,qH⟩
theorem aJF:qI Tryz.prog aAZ:=by
 refine qS a0J Tryz.func127 (c:=_) rfl (N:=10) (by kernel_rfl) (ts:=[(2,none)]) rfl (fun _ _=>rfl) ?_;intro O hs hrow;dsimp only[a0G,a0H,a0I,qK,pM,pV,qG,qO,Nat.reduceAdd] at hs hrow⊢;obtain⟨z0,hC0⟩: ∃z,(aAX O)=z:=⟨_,rfl⟩
 try rw[hC0]
 unfold aAX at hC0;refine p8 a0J ?_;refine p8 a0J ?_ (hp:=by exact⟨fun hh=>hh,fun hh=>hh,(fun hh=>sH hh)⟩);refine pI ?_;cases hC0;exact⟨[],by rfl,by rfl,by rfl⟩
def aA0 (O:(List UInt8)) (Z:((List UInt8)×(Int×Unit))) (aA:rJ) (aB:Int) (aC:Int) (aD:rC) (aE:((List Int)×(Int×Unit))) (aF:(List ((List UInt8)×Bool))):Unit:=()
section
variable (O:(List UInt8)) (Z:((List UInt8)×(Int×Unit))) (aA:rJ) (aB:Int) (aC:Int) (aD:rC) (aE:((List Int)×(Int×Unit))) (aF:Nat) (aG:Nat) (aH:(List ((List UInt8)×Bool)))
abbrev a0K:List pA:=[(.val .str O,none),(.val .ref (some (0,0)),none)]
abbrev a0L:List p9:=[.cells .ref (some (1,0)) [],.cells rH (Z,(aA,(aB,(aC,(aD,((some 4),aE)))))) [(11,2),(13,3)],.grow 55 7 aF,.grow 3 1 aG,.map .str .bool aH]
@[go_sem] def a0M:pF:=⟨[aF=(aD.2.2.2.1.length),aG=(aE.1.length)],[(.val .bool (rN .str .bool aH O),none)],[.cells .ref (some (1,0)) [],.cells rH ((Z.1,(Z.2.1,())),((aA.1,(aA.2.1,(aA.2.2.1,(aA.2.2.2.1,())))),(aB,(aC,((aD.1,(aD.2.1,(aD.2.2.1,(aD.2.2.2.1,())))),((some 4),(aE.1,(aE.2.1,())))))))) [(11,2),(13,3)],.grow 55 7 (aD.2.2.2.1.length),.grow 3 1 (aE.1.length),.map .str .bool aH]⟩
def aA1:List pA→List p9→Option pF:=qP (V:=((List UInt8)×((List UInt8)×(Int×Unit))×rJ×Int×Int×rC×((List Int)×(Int×Unit))×Nat×Nat×(List ((List UInt8)×Bool)))) (fun x=>a0K x.1) (fun x=>a0L x.2.1 x.2.2.1 x.2.2.2.1 x.2.2.2.2.1 x.2.2.2.2.2.1 x.2.2.2.2.2.2.1 x.2.2.2.2.2.2.2.1 x.2.2.2.2.2.2.2.2.1 x.2.2.2.2.2.2.2.2.2) fun x=>a0M x.1 x.2.1 x.2.2.1 x.2.2.2.1 x.2.2.2.2.1 x.2.2.2.2.2.1 x.2.2.2.2.2.2.1 x.2.2.2.2.2.2.2.1 x.2.2.2.2.2.2.2.2.1 x.2.2.2.2.2.2.2.2.2
@[go_sem] theorem aOR:aA1 (no_index (a0K O)) (no_index (a0L Z aA aB aC aD aE aF aG aH))=some (a0M O Z aA aB aC aD aE aF aG aH):=qR (fun⟨a0,a1,a2,a3,a4,a5,a6,a7,a8,a9⟩ ⟨b0,b1,b2,b3,b4,b5,b6,b7,b8,b9⟩ h1 h2=>by cases h1;cases h2;rfl) (O,Z,aA,aB,aC,aD,aE,aF,aG,aH)
end
@[go_sem] abbrev aA2:Nat×pY:=(128,⟨[.v,.p .ref []],aA1,[(0,0,.p rH [11,13]),(1,12,.m)],[0,1,2,3,4],none⟩)
theorem a0N:qE Tryz.prog [E9,rR,T6,GW,xF] (qC []):=⟨⟨GV,⟨rU,⟨aAm,⟨L6,⟨yJ,trivial⟩⟩⟩⟩⟩,qT,qH⟩
theorem aJG:qI Tryz.prog aA2:=by
 refine qS a0N Tryz.func128 (c:=_) rfl (N:=10) (by kernel_rfl) (ts:=[(3,none)]) rfl (fun _ _=>rfl) ?_;intro⟨O,Z,aA,aB,aC,aD,aE,aF,aG,aH⟩ hs hrow;dsimp only[a0K,a0L,a0M,qK,pM,pV,qG,qO,Nat.reduceAdd] at hs hrow⊢;obtain⟨rfl,rfl⟩:=hs;obtain⟨z0,hC0⟩: ∃z,(aA0 O Z aA aB aC aD aE aH)=z:=⟨_,rfl⟩
 try rw[hC0]
 unfold aA0 at hC0;refine p8 a0N ?_;refine p8 a0N ?_;refine pI ?_;cases hC0;exact⟨[(0,0),(1,1),(2,2),(3,3),(4,4)],by rfl,by rfl,by rfl⟩
def xH (O:FB) (Z:rJ) (aA:Int):(Int×Int):=if (decide (O.2.2.2.1=(0:Int)))=true then (Z.2.2.1,aA) else (O.2.2.1,O.2.2.2.1)
def aA3 (O:Int):Unit:=()
section
variable (O:Int)
abbrev a0O:List pA:=[(.val (.int .i64) O,none)]
abbrev a0P:List p9:=[]
@[go_sem] def a0Q:pF:=⟨[],[(.val .bool ((decide ((1:Int)≤O))&&(decide (O≤(4:Int)))),none)],[]⟩
def aA4:List pA→List p9→Option pF:=qP (V:=Int) (fun x=>a0O x) (fun x=>a0P) fun x=>a0Q x
@[go_sem] theorem aOS:aA4 (no_index (a0O O)) (no_index a0P)=some (a0Q O):=qR (fun a0 b0 h1 h2=>by cases h1;cases h2;rfl) O
end
@[go_sem] abbrev TL:Nat×pY:=(164,⟨[.v],aA4,[],[],none⟩)
theorem a0R:qE Tryz.prog [] (qC []):=⟨trivial,qT,qH⟩
theorem a0S:qI Tryz.prog TL:=by
 refine qS a0R Tryz.func164 (c:=_) rfl (N:=9) (by kernel_rfl) (ts:=[(2,none)]) rfl (fun _ _=>rfl) ?_;intro O hs hrow;dsimp only[a0O,a0P,a0Q,qK,pM,pV,qG,qO,Nat.reduceAdd] at hs hrow⊢;obtain⟨z0,hC0⟩: ∃z,(aA3 O)=z:=⟨_,rfl⟩
 try rw[hC0]
 unfold aA3 at hC0;refine p8 a0R ?_;refine p8 a0R ?_ (hp:=by exact⟨fun hh=>hh,(fun hh=>sH hh)⟩);refine pI ?_;cases hC0;exact⟨[],by rfl,by rfl,by rfl⟩
end
noncomputable section
def LB (O:(List UInt8)) (Z:Int) (aA:(List UInt8)):Option Unit:=if pB ((O.length:Int)-Z) then if (((decide ((aA.length:Int)≤((O.length:Int)-Z)))==true)=true→pB (Z+(aA.length:Int))) then if (((decide ((aA.length:Int)≤((O.length:Int)-Z)))==true)=true→0≤Z∧Z≤(Z+(aA.length:Int))∧(Z+(aA.length:Int))≤(O.length:Int)) then some (()) else none else none else none
attribute [irreducible] LB
def TM (O:(List UInt8)):Int→Option (Int⊕(Unit⊕Int)):=fun Z=>if (decide (Z≤(4:Int)))=true then (a0n Z).bind fun aA=>if (decide ((pZ .str ([([110,101,119]:List UInt8),([102,117,122,122,121]:List UInt8),([116,114,97,110,115,108,97,116,101,100]:List UInt8),([114,101,118,105,101,119,101,100]:List UInt8),([111,98,115,111,108,101,116,101]:List UInt8)]:List (List UInt8)) Z)=O))=true then some (.inr (.inr (Z))) else if pB (Z+(1:Int)) then some (.inl (Z+(1:Int))) else none else some (.inr (.inl ()))
def LC (O:(List UInt8)):Option Int:=rZ (pU (TM O) (0:Int)) fun _=>some ((-1:Int))
attribute [irreducible] LC
end
noncomputable section
def TN (O:(List pR)) (Z:(List UInt8)):Int→Option (Int⊕(Unit⊕((List UInt8)×Bool))):=fun aA=>if (decide (aA<(O.length:Int)))=true then if 0≤aA∧aA<(O.length:Int) then if (decide ((pZ (.pair .str (.pair .str .unit)) O aA).1=Z))=true then if 0≤aA∧aA<(O.length:Int) then some (.inr (.inr (((pZ (.pair .str (.pair .str .unit)) O aA).2.1,true)))) else none else if pB (aA+(1:Int)) then some (.inl (aA+(1:Int))) else none else none else some (.inr (.inl ()))
def TO (O:(List pR)) (Z:(List UInt8)):Option ((List UInt8)×Bool):=rZ (pU (TN O Z) (0:Int)) fun _=>some ((([]:List UInt8),false))
attribute [irreducible] TO
def TP (O:(List pR)) (Z:(List UInt8)) (aA:(List UInt8)):Int→Option (Int⊕(Unit⊕(List pR))):=fun aB=>if (decide (aB<((((([]:List pR)++O).length):Nat):Int)))=true then if 0≤aB∧aB<((((([]:List pR)++O).length):Nat):Int) then if (decide ((pZ (.pair .str (.pair .str .unit)) (([]:List pR)++O) aB).1=Z))=true then if 0≤aB∧aB<((((([]:List pR)++O).length):Nat):Int) then some (.inr (.inr ((List.set (([]:List pR)++O) (Int.toNat aB) ((pZ (.pair .str (.pair .str .unit)) (([]:List pR)++O) aB).1,(aA,(pZ (.pair .str (.pair .str .unit)) (([]:List pR)++O) aB).2.2)))))) else none else if pB (aB+(1:Int)) then some (.inl (aB+(1:Int))) else none else none else some (.inr (.inl ()))
def LD (O:(List pR)) (Z:(List UInt8)):Int→Option (Int⊕Int):=fun aA=>if (((decide (aA<(O.length:Int)))==true)=true→0≤aA∧aA<(O.length:Int)) then if ((decide (aA<(O.length:Int)))&&(Op.bytesLess (pZ (.pair .str (.pair .str .unit)) O aA).1 Z||decide ((pZ (.pair .str (.pair .str .unit)) O aA).1=Z)))=true then if pB (aA+(1:Int)) then some (.inl (aA+(1:Int))) else none else some (.inr aA) else none
def TQ (O:(List pR)) (Z:(List UInt8)) (aA:(List UInt8)):Option (List pR):=if (0+O.length)*32≤140737488355328 then rZ (pU (TP O Z aA) (0:Int)) fun _=>qZ (pU (LD O Z) (0:Int)) fun aB=>if 0≤(0:Int)∧(0:Int)≤aB∧aB≤(O.length:Int) then if (0+(pH O (0:Int) aB).length)*32≤140737488355328 then if (((([]:List pR)++(pH O (0:Int) aB)).length)+([(Z,(aA,()))]:List pR).length)*32≤140737488355328 then if 0≤aB∧aB≤(O.length:Int)∧(O.length:Int)≤(O.length:Int) then if ((((([]:List pR)++(pH O (0:Int) aB))++([(Z,(aA,()))]:List pR)).length)+(pH O aB (O.length:Int)).length)*32≤140737488355328 then some ((((([]:List pR)++(pH O (0:Int) aB))++([(Z,(aA,()))]:List pR))++(pH O aB (O.length:Int)))) else none else none else none else none else none else none
attribute [irreducible] TQ
def LE (O:(List UInt8)):Nat→Option (Nat⊕(Unit⊕Bool)):=fun Z=>if (decide (Z<O.length))=true then if (decide (Z<O.length))=true then if (decide (Z<O.length))=true then if ((decide ((97:Int)≤(tJ O Z)))&&(decide ((tJ O Z)≤(122:Int))))=true then some (.inl (yX O Z)) else if ((decide ((0:Int)<((Z:Nat):Int)))&&(((((decide ((48:Int)≤(tJ O Z)))&&(decide ((tJ O Z)≤(57:Int))))||(decide ((tJ O Z)=(45:Int))))||(decide ((tJ O Z)=(95:Int))))||(decide ((tJ O Z)=(46:Int)))))=true then some (.inl (yX O Z)) else some (.inr (.inr (false))) else none else none else some (.inr (.inl ()))
def CI (O:(List UInt8)):Option Bool:=rZ (pU (LE O) 0) fun _=>some (((decide ((1:Int)≤(O.length:Int)))&&(decide ((O.length:Int)≤(40:Int)))))
section
variable (O:(List UInt8))
abbrev a0T:List pA:=[(.val .str O,none)]
abbrev a0U:List p9:=[]
@[go_sem] def a0V:pF:=⟨[((CI O)).isSome=true],[(.val .bool (val (CI O)),none)],[]⟩
def aA5:List pA→List p9→Option pF:=qP (V:=(List UInt8)) (fun x=>a0T x) (fun x=>a0U) fun x=>a0V x
@[go_sem] theorem aOT:aA5 (no_index (a0T O)) (no_index a0U)=some (a0V O):=qR (fun a0 b0 h1 h2=>by cases h1;cases h2;rfl) O
end
@[go_sem] abbrev J2:Nat×pY:=(162,⟨[.v],aA5,[],[],none⟩)
theorem EA:qE Tryz.prog [rR] (qC []):=⟨⟨rU,trivial⟩,qT,qH⟩
theorem TR:qI Tryz.prog J2:=by
 refine qS EA Tryz.func162 (c:=_) rfl (N:=51) (by kernel_rfl) (ts:=[(2,none)]) rfl (fun _ _=>rfl) ?_;intro O hs hrow;dsimp only[a0T,a0U,a0V,qK,pM,pV,qG,qO,Nat.reduceAdd] at hs hrow⊢;have hz:=hs;obtain⟨z0,hC0⟩:=aQn.1 hz
 try rw[r8 hC0]
 clear hz hs;unfold CI at hC0;refine p8 EA ?_;refine pW ?_;refine p8 EA ?_;refine rI ?_;obtain⟨y1,hy1,hC0⟩:=zD hC0;refine uZ 0 (fun s=> ∃v,y1= .inl v∧s=(fun _=>⟨[(0,(.val .str O,none))],[],0,51,0⟩) v) ?_ ?_
 ·refine uY hy1 (fun x=>⟨[(0,(.val .str O,none)),(7,(.val .ref (some (0,0)),none))],[(0,.iter O x)],1,51,0⟩) ⟨[0,7],[(0,64)]⟩ (by rfl) ?_;intro Z w1 n1 hC1 hN1;unfold LE at hC1;dsimp only at hC1⊢;refine p8 EA ?_;refine pW ?_;refine pP hC1 (fun hC1 hc1=> ?_) (fun hC1 hc1=> ?_)
  ·refine qM (pN (rI ?_));obtain⟨hg1,hC1⟩:=pG hC1;obtain⟨hg2,hC1⟩:=pG hC1;refine p8 EA ?_ (hp:=by exact⟨hg1,hg2⟩);refine p8 EA ?_ (hp:=by exact⟨fun hh=>hh,(fun hh=>sH hh)⟩);refine rI ?_;refine p8 EA ?_;refine pP hC1 (fun hC1 hc2=> ?_) (fun hC1 hc2=> ?_)
   ·refine qM (qV (qV ?_));cases hC1;exact sM ⟨⟨[0,7],[(0,0)]⟩,_,by rfl,hN1⟩
   ·refine p8 EA ?_ (hp:=by exact⟨fun hh=>hh,fun hh=>hh,fun hh=>hh,fun hh=>hh,fun hG hh=>GP hG hh,fun hh=>hh,fun hh=>hh,fun hh=>hh,fun hG hh=>GQ hG hh,fun hh=>hh,fun hh=>hh,fun hh=>hh,fun hG hh=>GQ hG hh,fun hh=>hh,fun hh=>hh,fun hh=>hh,fun hG hh=>GQ hG hh,(fun hh=>sH hh)⟩);refine pP hC1 (fun hC1 hc3=> ?_) (fun hC1 hc3=> ?_)
    ·refine qM (qV (qV ?_));cases hC1;exact sM ⟨⟨[0,7],[(0,0)]⟩,_,by rfl,hN1⟩
    ·refine p8 EA ?_;refine pI (rM (rM (yI (yH (rM (rF ?_))))));cases hC1;cases hN1;dsimp only at hC0;cases hC0;exact⟨[],by rfl,by rfl,by rfl⟩
  ·refine uG (uO (uI ?_));cases hC1;cases hN1;exact uH ⟨⟨[0],[]⟩,_,rfl,by rfl⟩
 ·rintro _ ⟨v,rfl,rfl⟩;dsimp only at hC0⊢;refine uX (pN ?_);refine p8 EA ?_ (hp:=by exact⟨fun hh=>hh,fun hh=>hh,(fun hh=>sH hh)⟩);refine pI ?_;cases hC0;exact⟨[],by rfl,by rfl,by rfl⟩
attribute [irreducible] CI
def OF (O:(List (List UInt8))):Int→Option (Int⊕(Unit⊕Bool)):=fun Z=>if (decide (Z<(O.length:Int)))=true then if 0≤Z∧Z<(O.length:Int) then (CI (pZ .str O Z)).bind fun aA=>if ((((!aA)==false)&&((decide ((0:Int)<Z))==true))=true→pB (Z- (1:Int))) then if ((((!aA)==false)&&((decide ((0:Int)<Z))==true))=true→0≤(Z- (1:Int))∧(Z- (1:Int))<(O.length:Int)) then if ((!aA)||((decide ((0:Int)<Z))&&(!Op.bytesLess (pZ .str O (Z- (1:Int))) (pZ .str O Z))))=true then some (.inr (.inr (false))) else if pB (Z+(1:Int)) then some (.inl (Z+(1:Int))) else none else none else none else none else some (.inr (.inl ()))
def FJ (O:(List (List UInt8))):Option Bool:=rZ (pU (OF O) (0:Int)) fun _=>some ((decide ((O.length:Int)≤(20:Int))))
section
variable (O:(List (List UInt8)))
abbrev a0W:List pA:=[(.val (.list .str) O,none)]
abbrev a0X:List p9:=[]
@[go_sem] def a0Y:pF:=⟨[((FJ O)).isSome=true],[(.val .bool (val (FJ O)),none)],[]⟩
def aA6:List pA→List p9→Option pF:=qP (V:=(List (List UInt8))) (fun x=>a0W x) (fun x=>a0X) fun x=>a0Y x
@[go_sem] theorem aOU:aA6 (no_index (a0W O)) (no_index a0X)=some (a0Y O):=qR (fun a0 b0 h1 h2=>by cases h1;cases h2;rfl) O
end
@[go_sem] abbrev aA7:Nat×pY:=(163,⟨[.v],aA6,[],[],none⟩)
theorem FK:qE Tryz.prog [rR,vX] (qC [J2]):=⟨⟨rU,⟨wP,trivial⟩⟩,pK TR qT,qH⟩
theorem aJH:qI Tryz.prog aA7:=by
 refine qS FK Tryz.func163 (c:=_) rfl (N:=32) (by kernel_rfl) (ts:=[(2,none)]) rfl (fun _ _=>rfl) ?_;intro O hs hrow;dsimp only[a0W,a0X,a0Y,qK,pM,pV,qG,qO,Nat.reduceAdd] at hs hrow⊢;have hz:=hs;obtain⟨z0,hC0⟩:=aQn.1 hz
 try rw[r8 hC0]
 clear hz hs;unfold FJ at hC0;refine p8 FK ?_;refine pW ?_;refine p8 FK ?_;refine rI ?_;obtain⟨y1,hy1,hC0⟩:=zD hC0;refine uZ 0 (fun s=> ∃v,y1= .inl v∧s=(fun _=>⟨[(0,(.val (.list .str) O,none))],[],0,32,0⟩) v) ?_ ?_
 ·refine uY hy1 (fun x=>⟨[(0,(.val (.list .str) O,none)),(5,(.val (.list .str) O,none)),(6,(.val (.int .i64) (O.length:Int),none)),(7,(.val (.int .i64) x,none))],[],0,32,0⟩) ⟨[0,5,6,7],[]⟩ (by rfl) ?_;intro Z w1 n1 hC1 hN1;unfold OF at hC1;dsimp only at hC1⊢;refine p8 FK ?_;refine pW ?_;refine pP hC1 (fun hC1 hc1=> ?_) (fun hC1 hc1=> ?_)
  ·refine qM (pN (pW (rI ?_)));obtain⟨hg1,hC1⟩:=pG hC1;refine p8 FK ?_ (hp:=by exact hg1);obtain⟨aA,hv2,hw2,hC1⟩:=pT hC1
   try simp only[go_sem] at hw2
   obtain⟨hg3,hC1⟩:=pG hC1;obtain⟨hg4,hC1⟩:=pG hC1;refine p8 FK ?_ (hp:=by exact⟨pS hv2,fun hh=>hh,fun hh=>hh,fun hh=>hh,hg3,fun hh=>hh,fun hh=>hh,hg4,fun hh=>hh,fun hh=>hh,fun hh=>hh,fun hh=>hh,fun hG hh=>GP hG hh,(fun hh=>uA hh)⟩) (h:=by simp only[go_sem,hw2];rfl);refine pP hC1 (fun hC1 hc2=> ?_) (fun hC1 hc2=> ?_)
   ·refine p8 FK ?_;refine pI (rM (rF (yI (yH (rM (rF ?_))))));cases hC1;cases hN1;dsimp only at hC0;cases hC0;exact⟨[],by rfl,by rfl,by rfl⟩
   ·refine qM (qV (pN ?_));obtain⟨hg5,hC1⟩:=pG hC1;refine qU FK ?_ (hp:=by exact hg5);cases hC1;exact sM ⟨⟨[0,5,6,7],[]⟩,_,by rfl,hN1⟩
  ·refine uG (uO (uI ?_));cases hC1;cases hN1;exact uH ⟨⟨[0],[]⟩,_,rfl,by rfl⟩
 ·rintro _ ⟨v,rfl,rfl⟩;dsimp only at hC0⊢;refine uX (pN ?_);refine p8 FK ?_;refine pI ?_;cases hC0;exact⟨[],by rfl,by rfl,by rfl⟩
attribute [irreducible] FJ
end
noncomputable section
def aA8 (O:((List UInt8)×(Int×Unit))) (Z:rJ) (aA:Int) (aB:Int) (aC:rC) (aD:((List Int)×(Int×Unit))) (aE:Int) (aF:(List UInt8)) (aG:(List ((List UInt8)×Bool))):Unit:=()
section
variable (O:Int) (Z:(List UInt8)) (aA:((List UInt8)×(Int×Unit))) (aB:rJ) (aC:Int) (aD:Int) (aE:rC) (aF:((List Int)×(Int×Unit))) (aG:Nat) (aH:Nat) (aI:(List ((List UInt8)×Bool)))
abbrev a0Z:List pA:=[(.val .ref (some (0,0)),none),(.val (.int .i64) O,none),(.val .str Z,none)]
abbrev a00:List p9:=[.cells rH (aA,(aB,(aC,(aD,(aE,((some 3),aF)))))) [(11,1),(13,2)],.grow 55 7 aG,.grow 3 1 aH,.map .str .bool aI]
@[go_sem] def a01:pF:=⟨[aG=(aE.2.2.2.1.length),aH=(aF.1.length)],[(.val .bool (((decide (aD=(0:Int)))&&(decide (aB.1=O)))&&(decide (aB.2.1=Z))),none)],[.cells rH ((aA.1,(aA.2.1,())),((aB.1,(aB.2.1,(aB.2.2.1,(aB.2.2.2.1,())))),(aC,(aD,((aE.1,(aE.2.1,(aE.2.2.1,(aE.2.2.2.1,())))),((some 3),(aF.1,(aF.2.1,())))))))) [(11,1),(13,2)],.grow 55 7 (aE.2.2.2.1.length),.grow 3 1 (aF.1.length),.map .str .bool aI]⟩
def aA9:List pA→List p9→Option pF:=qP (V:=(Int×(List UInt8)×((List UInt8)×(Int×Unit))×rJ×Int×Int×rC×((List Int)×(Int×Unit))×Nat×Nat×(List ((List UInt8)×Bool)))) (fun x=>a0Z x.1 x.2.1) (fun x=>a00 x.2.2.1 x.2.2.2.1 x.2.2.2.2.1 x.2.2.2.2.2.1 x.2.2.2.2.2.2.1 x.2.2.2.2.2.2.2.1 x.2.2.2.2.2.2.2.2.1 x.2.2.2.2.2.2.2.2.2.1 x.2.2.2.2.2.2.2.2.2.2) fun x=>a01 x.1 x.2.1 x.2.2.1 x.2.2.2.1 x.2.2.2.2.1 x.2.2.2.2.2.1 x.2.2.2.2.2.2.1 x.2.2.2.2.2.2.2.1 x.2.2.2.2.2.2.2.2.1 x.2.2.2.2.2.2.2.2.2.1 x.2.2.2.2.2.2.2.2.2.2
@[go_sem] theorem aOV:aA9 (no_index (a0Z O Z)) (no_index (a00 aA aB aC aD aE aF aG aH aI))=some (a01 O Z aA aB aC aD aE aF aG aH aI):=qR (fun⟨a0,a1,a2,a3,a4,a5,a6,a7,a8,a9,a10⟩ ⟨b0,b1,b2,b3,b4,b5,b6,b7,b8,b9,b10⟩ h1 h2=>by cases h1;cases h2;rfl) (O,Z,aA,aB,aC,aD,aE,aF,aG,aH,aI)
end
@[go_sem] abbrev aBa:Nat×pY:=(176,⟨[.p rH [11,13],.v,.v],aA9,[(0,12,.m)],[0,1,2,3],none⟩)
theorem a02:qE Tryz.prog [vL,rR,FG,zE,xF] (qC []):=⟨⟨wE,⟨rU,⟨J0,⟨AX,⟨yJ,trivial⟩⟩⟩⟩⟩,qT,qH⟩
theorem aJI:qI Tryz.prog aBa:=by
 refine qS a02 Tryz.func176 (c:=_) rfl (N:=30) (by kernel_rfl) (ts:=[(6,none)]) rfl (fun _ _=>rfl) ?_;intro⟨O,Z,aA,aB,aC,aD,aE,aF,aG,aH,aI⟩ hs hrow;dsimp only[a0Z,a00,a01,qK,pM,pV,qG,qO,Nat.reduceAdd] at hs hrow⊢;obtain⟨rfl,rfl⟩:=hs;obtain⟨z0,hC0⟩: ∃z,(aA8 aA aB aC aD aE aF O Z aI)=z:=⟨_,rfl⟩
 try rw[hC0]
 unfold aA8 at hC0;refine p8 a02 ?_;refine p8 a02 ?_ (hp:=by exact⟨fun hh=>hh,fun hh=>hh,fun hh=>hh,fun hh=>hh,fun hh=>hh,fun hh=>hh,fun hh=>sH hh,fun hh=>hh,fun hh=>hh,fun hh=>hh,fun hh=>hh,fun hh=>hh,fun hh=>hh,(fun hh=>sH hh)⟩);refine pI ?_;cases hC0;exact⟨[(0,0),(1,1),(2,2),(3,3)],by rfl,by rfl,by rfl⟩
def tM (O:((List UInt8)×(Int×Unit))) (Z:rJ) (aA:Int) (aB:Int) (aC:rC) (aD:((List Int)×(Int×Unit))) (aE:Int) (aF:(List ((List UInt8)×Bool))):(Int×Int):=if (decide (aB=(0:Int)))=true then (Z.2.2.1,aE) else (aA,aB)
section
variable (O:Int) (Z:((List UInt8)×(Int×Unit))) (aA:rJ) (aB:Int) (aC:Int) (aD:rC) (aE:((List Int)×(Int×Unit))) (aF:Nat) (aG:Nat) (aH:(List ((List UInt8)×Bool)))
abbrev a03:List pA:=[(.val .ref (some (0,0)),none),(.val (.int .i64) O,none)]
abbrev a04:List p9:=[.cells rH (Z,(aA,(aB,(aC,(aD,((some 3),aE)))))) [(11,1),(13,2)],.grow 55 7 aF,.grow 3 1 aG,.map .str .bool aH]
@[go_sem] def a05:pF:=⟨[aF=(aD.2.2.2.1.length),aG=(aE.1.length)],[],[.cells rH ((Z.1,(Z.2.1,())),((aA.1,(aA.2.1,(aA.2.2.1,(aA.2.2.2.1,())))),((tM Z aA aB aC aD aE O aH).1,((tM Z aA aB aC aD aE O aH).2,((aD.1,(aD.2.1,(aD.2.2.1,(aD.2.2.2.1,())))),((some 3),(aE.1,(aE.2.1,())))))))) [(11,1),(13,2)],.grow 55 7 (aD.2.2.2.1.length),.grow 3 1 (aE.1.length),.map .str .bool aH]⟩
def aBb:List pA→List p9→Option pF:=qP (V:=(Int×((List UInt8)×(Int×Unit))×rJ×Int×Int×rC×((List Int)×(Int×Unit))×Nat×Nat×(List ((List UInt8)×Bool)))) (fun x=>a03 x.1) (fun x=>a04 x.2.1 x.2.2.1 x.2.2.2.1 x.2.2.2.2.1 x.2.2.2.2.2.1 x.2.2.2.2.2.2.1 x.2.2.2.2.2.2.2.1 x.2.2.2.2.2.2.2.2.1 x.2.2.2.2.2.2.2.2.2) fun x=>a05 x.1 x.2.1 x.2.2.1 x.2.2.2.1 x.2.2.2.2.1 x.2.2.2.2.2.1 x.2.2.2.2.2.2.1 x.2.2.2.2.2.2.2.1 x.2.2.2.2.2.2.2.2.1 x.2.2.2.2.2.2.2.2.2
@[go_sem] theorem aOW:aBb (no_index (a03 O)) (no_index (a04 Z aA aB aC aD aE aF aG aH))=some (a05 O Z aA aB aC aD aE aF aG aH):=qR (fun⟨a0,a1,a2,a3,a4,a5,a6,a7,a8,a9⟩ ⟨b0,b1,b2,b3,b4,b5,b6,b7,b8,b9⟩ h1 h2=>by cases h1;cases h2;rfl) (O,Z,aA,aB,aC,aD,aE,aF,aG,aH)
end
@[go_sem] abbrev zF:Nat×pY:=(177,⟨[.p rH [11,13],.v],aBb,[(0,12,.m)],[1,2,3],none⟩)
theorem a06:qE Tryz.prog [vL,FG,zE,xF] (qC []):=⟨⟨wE,⟨J0,⟨AX,⟨yJ,trivial⟩⟩⟩⟩,qT,qH⟩
theorem EB:qI Tryz.prog zF:=by
 refine qS a06 Tryz.func177 (c:=_) rfl (N:=21) (by kernel_rfl) (ts:=[]) rfl (fun _ _=>rfl) ?_;intro⟨O,Z,aA,aB,aC,aD,aE,aF,aG,aH⟩ hs hrow;dsimp only[a03,a04,a05,qK,pM,pV,qG,qO,Nat.reduceAdd] at hs hrow⊢;obtain⟨rfl,rfl⟩:=hs;obtain⟨z0,hC0⟩: ∃z,(tM Z aA aB aC aD aE O aH)=z:=⟨_,rfl⟩
 try rw[hC0]
 unfold tM at hC0;refine p8 a06 ?_;refine pP hC0 (fun hC0 hc1=> ?_) (fun hC0 hc1=> ?_)
 ·refine qU a06 ?_;cases hC0;exact⟨[(0,0),(1,1),(2,2),(3,3)],by rfl,by rfl,by rfl⟩
 ·refine qM ?_;cases hC0;exact⟨[(0,0),(1,1),(2,2),(3,3)],by rfl,by rfl,by rfl⟩
def wF (O:(List UInt8)) (Z:(List UInt8)) (aA:(List UInt8)) (aB:(List (List UInt8))) (aC:(Int×((List pR)×Unit))) (aD:Bool) (aE:(List (List UInt8))) (aF:(List ((List UInt8)×Bool))):(List ((List UInt8)×(Option Nat))):=if aD=true then (sG .str .fn ([102,108,97,103]:List UInt8) (some 218) (sG .str .fn ([115,116,97,116,101]:List UInt8) (some 217) (sG .str .fn ([116,97,114,103,101,116]:List UInt8) (some 216) (sG .str .fn ([115,111,117,114,99,101]:List UInt8) (some 215) (sG .str .fn ([102,105,101,108,100]:List UInt8) (some 214) (sG .str .fn ([99,111,109,109,101,110,116]:List UInt8) (some 213) ([]:List ((List UInt8)×(Option Nat))))))))) else (sG .str .fn ([102,105,101,108,100]:List UInt8) (some 214) (sG .str .fn ([99,111,109,109,101,110,116]:List UInt8) (some 213) ([]:List ((List UInt8)×(Option Nat)))))
section
variable (O:(List UInt8)) (Z:(List UInt8)) (aA:(List UInt8)) (aB:(List (List UInt8))) (aC:Nat) (aD:(Int×((List pR)×Unit))) (aE:Bool) (aF:Nat) (aG:Nat) (aH:(List (List UInt8))) (aI:Nat) (aJ:(List ((List UInt8)×Bool)))
abbrev a07:List pA:=[(.val .ref (some (0,0)),none)]
abbrev a08:List p9:=[.cells sJ ((O,(Z,(aA,(aB,((some (3,aC)),aD))))),(aE,((some 4),()))) [(3,1),(6,2)],.grow 9 1 aF,.grow 149 2 aG,.row 9 .str aH aI,.map .str .bool aJ]
@[go_sem] def a09:pF:=⟨[aF=(aB.length),aG=(aD.2.1.length),aC=aI],[(.val .mp (some 5),none)],[.cells sJ ((O,(Z,(aA,(aB,((some (3,(aH.length))),(aD.1,(aD.2.1,()))))))),(aE,((some 4),()))) [(3,1),(6,2)],.grow 9 1 (aB.length),.grow 149 2 (aD.2.1.length),.row 9 .str aH (aH.length),.map .str .bool aJ,.map .str .fn (wF O Z aA aB aD aE aH aJ)]⟩
def aBc:List pA→List p9→Option pF:=qP (V:=((List UInt8)×(List UInt8)×(List UInt8)×(List (List UInt8))×Nat×(Int×((List pR)×Unit))×Bool×Nat×Nat×(List (List UInt8))×Nat×(List ((List UInt8)×Bool)))) (fun x=>a07) (fun x=>a08 x.1 x.2.1 x.2.2.1 x.2.2.2.1 x.2.2.2.2.1 x.2.2.2.2.2.1 x.2.2.2.2.2.2.1 x.2.2.2.2.2.2.2.1 x.2.2.2.2.2.2.2.2.1 x.2.2.2.2.2.2.2.2.2.1 x.2.2.2.2.2.2.2.2.2.2.1 x.2.2.2.2.2.2.2.2.2.2.2) fun x=>a09 x.1 x.2.1 x.2.2.1 x.2.2.2.1 x.2.2.2.2.1 x.2.2.2.2.2.1 x.2.2.2.2.2.2.1 x.2.2.2.2.2.2.2.1 x.2.2.2.2.2.2.2.2.1 x.2.2.2.2.2.2.2.2.2.1 x.2.2.2.2.2.2.2.2.2.2.1 x.2.2.2.2.2.2.2.2.2.2.2
@[go_sem] theorem aOX:aBc (no_index a07) (no_index (a08 O Z aA aB aC aD aE aF aG aH aI aJ))=some (a09 O Z aA aB aC aD aE aF aG aH aI aJ):=qR (fun⟨a0,a1,a2,a3,a4,a5,a6,a7,a8,a9,a10,a11⟩ ⟨b0,b1,b2,b3,b4,b5,b6,b7,b8,b9,b10,b11⟩ h1 h2=>by cases h1;cases h2;rfl) (O,Z,aA,aB,aC,aD,aE,aF,aG,aH,aI,aJ)
end
@[go_sem] abbrev a1a:Nat×pY:=(179,⟨[.p sJ [3,6]],aBc,[(0,4,.r),(0,8,.m)],[0,1,2,3,4],none⟩)
theorem aBd:qE Tryz.prog [] (qC []):=⟨trivial,qT,qH⟩
theorem LF:qE Tryz.prog [E9,rR,BQ,T8,T9] (qC []):=⟨⟨GV,⟨rU,⟨D6,⟨aAo,⟨aAp,trivial⟩⟩⟩⟩⟩,aBd.Γ,qH⟩
theorem aJJ:qI Tryz.prog a1a:=by
 refine qS aBd Tryz.func179 (c:=_) rfl (N:=15) (by kernel_rfl) (ts:=[(2,none)]) rfl (fun _ _=>rfl) ?_;intro⟨O,Z,aA,aB,aC,aD,aE,aF,aG,aH,aI,aJ⟩ hs hrow;dsimp only[a07,a08,a09,qK,pM,pV,qG,qO,Nat.reduceAdd] at hs hrow⊢;obtain⟨rfl,rfl,rfl⟩:=hs;obtain⟨rfl,_⟩:=hrow;obtain⟨z0,hC0⟩: ∃z,(wF O Z aA aB aD aE aH aJ)=z:=⟨_,rfl⟩
 try rw[hC0]
 unfold wF at hC0;refine p8 LF ?_;refine p8 LF ?_;refine pW ?_;refine p8 LF ?_;refine pP hC0 (fun hC0 hc1=> ?_) (fun hC0 hc1=> ?_)
 ·refine qU LF ?_;refine pN ?_;refine p8 LF ?_;refine pI ?_;cases hC0;exact⟨[(0,0),(1,1),(2,2),(3,3),(4,4),(5,37)],by rfl,by rfl,by rfl⟩
 ·refine qM (pN ?_);refine p8 LF ?_;refine pI ?_;cases hC0;exact⟨[(0,0),(1,1),(2,2),(3,3),(4,4),(5,37)],by rfl,by rfl,by rfl⟩
def LG (O:(List UInt8)) (Z:(List UInt8)):Option Unit:=if (((decide ((Z.length:Int)≤(O.length:Int)))==true)=true→0≤(0:Int)∧(0:Int)≤(Z.length:Int)∧(Z.length:Int)≤(O.length:Int)) then some (()) else none
section
variable (O:(List UInt8)) (Z:(List UInt8))
abbrev a1b:List pA:=[(.val .str O,none),(.val .str Z,none)]
abbrev a1c:List p9:=[]
@[go_sem] def a1d:pF:=⟨[((LG O Z)).isSome=true],[(.val .bool ((decide ((Z.length:Int)≤(O.length:Int)))&&(decide ((pH O (0:Int) (Z.length:Int))=Z))),none)],[]⟩
def aBe:List pA→List p9→Option pF:=qP (V:=((List UInt8)×(List UInt8))) (fun x=>a1b x.1 x.2) (fun x=>a1c) fun x=>a1d x.1 x.2
@[go_sem] theorem aOY:aBe (no_index (a1b O Z)) (no_index a1c)=some (a1d O Z):=qR (fun⟨a0,a1⟩ ⟨b0,b1⟩ h1 h2=>by cases h1;cases h2;rfl) (O,Z)
end
@[go_sem] abbrev a1e:Nat×pY:=(183,⟨[.v,.v],aBe,[],[],none⟩)
theorem a1f:qE Tryz.prog [rR] (qC []):=⟨⟨rU,trivial⟩,qT,qH⟩
theorem aBf:qI Tryz.prog a1e:=by
 refine qS a1f Tryz.func183 (c:=_) rfl (N:=18) (by kernel_rfl) (ts:=[(4,none)]) rfl (fun _ _=>rfl) ?_;intro⟨O,Z⟩ hs hrow;dsimp only[a1b,a1c,a1d,qK,pM,pV,qG,qO,Nat.reduceAdd] at hs hrow⊢;have hz:=hs;obtain⟨z0,hC0⟩:=aQn.1 hz
 try rw[r8 hC0]
 clear hz hs;unfold LG at hC0;refine p8 a1f ?_;obtain⟨hg1,hC0⟩:=pG hC0;refine p8 a1f ?_ (hp:=by exact⟨fun hh=>hh,fun hh=>hh,fun hh=>hh,hg1,fun hh=>hh,fun hh=>hh,(fun hh=>sH hh)⟩);refine pI ?_;cases hC0;exact⟨[],by rfl,by rfl,by rfl⟩
attribute [irreducible] LG
def LH (O:(List UInt8)) (Z:(List UInt8)):Option ((List UInt8)×Bool):=(LG O Z).bind fun aA=>if (!((decide ((Z.length:Int)≤(O.length:Int)))&&(decide ((pH O (0:Int) (Z.length:Int))=Z))))=true then some ((O,false)) else if 0≤(Z.length:Int)∧(Z.length:Int)≤(O.length:Int)∧(O.length:Int)≤(O.length:Int) then some (((pH O (Z.length:Int) (O.length:Int)),true)) else none
section
variable (O:(List UInt8)) (Z:(List UInt8))
abbrev a1g:List pA:=[(.val .str O,none),(.val .str Z,none)]
abbrev a1h:List p9:=[]
@[go_sem] def a1i:pF:=⟨[((LH O Z)).isSome=true],[(.val .str ((val (LH O Z)).1),none),(.val .bool ((val (LH O Z)).2),none)],[]⟩
def aBg:List pA→List p9→Option pF:=qP (V:=((List UInt8)×(List UInt8))) (fun x=>a1g x.1 x.2) (fun x=>a1h) fun x=>a1i x.1 x.2
@[go_sem] theorem aOZ:aBg (no_index (a1g O Z)) (no_index a1h)=some (a1i O Z):=qR (fun⟨a0,a1⟩ ⟨b0,b1⟩ h1 h2=>by cases h1;cases h2;rfl) (O,Z)
end
@[go_sem] abbrev aBh:Nat×pY:=(184,⟨[.v,.v],aBg,[],[],none⟩)
theorem OG:qE Tryz.prog [rR] (qC [a1e]):=⟨⟨rU,trivial⟩,pK aBf qT,qH⟩
theorem aJK:qI Tryz.prog aBh:=by
 refine qS OG Tryz.func184 (c:=_) rfl (N:=15) (by kernel_rfl) (ts:=[(4,none),(5,none)]) rfl (fun _ _=>rfl) ?_;intro⟨O,Z⟩ hs hrow;dsimp only[a1g,a1h,a1i,qK,pM,pV,qG,qO,Nat.reduceAdd] at hs hrow⊢;have hz:=hs;obtain⟨z0,hC0⟩:=aQn.1 hz
 try rw[r8 hC0]
 clear hz hs;unfold LH at hC0;refine p8 OG ?_;refine pW ?_;obtain⟨aA,hv1,hw1,hC0⟩:=pT hC0
 try simp only[go_sem] at hw1
 refine p8 OG ?_ (hp:=by exact(pS hv1)) (h:=by simp only[go_sem,hw1];rfl);refine pP hC0 (fun hC0 hc1=> ?_) (fun hC0 hc1=> ?_)
 ·refine p8 OG ?_;refine pI (rF ?_);cases hC0;exact⟨[],by rfl,by rfl,by rfl⟩
 ·refine qM (pN ?_);obtain⟨hg2,hC0⟩:=pG hC0;refine p8 OG ?_ (hp:=by exact hg2);refine pI ?_;cases hC0;exact⟨[],by rfl,by rfl,by rfl⟩
attribute [irreducible] LH
end
noncomputable section
def OH (O:(List (List UInt8))) (Z:(List UInt8)):Int→Option (Int⊕(Unit⊕Int)):=fun aA=>if (decide (aA<(O.length:Int)))=true then if 0≤aA∧aA<(O.length:Int) then if (decide (Z=(pZ .str O aA)))=true then some (.inr (.inr (aA))) else if pB (aA+(1:Int)) then some (.inl (aA+(1:Int))) else none else none else some (.inr (.inl ()))
def BR (O:(List (List UInt8))) (Z:(List UInt8)):Option Int:=rZ (pU (OH O Z) (0:Int)) fun _=>some ((-1:Int))
section
variable (O:(List (List UInt8))) (Z:(List UInt8))
abbrev a1j:List pA:=[(.val (.list .str) O,none),(.val .str Z,none)]
abbrev a1k:List p9:=[]
@[go_sem] def a1l:pF:=⟨[((BR O Z)).isSome=true],[(.val (.int .i64) (val (BR O Z)),none)],[]⟩
def aBi:List pA→List p9→Option pF:=qP (V:=((List (List UInt8))×(List UInt8))) (fun x=>a1j x.1 x.2) (fun x=>a1k) fun x=>a1l x.1 x.2
@[go_sem] theorem aO0:aBi (no_index (a1j O Z)) (no_index a1k)=some (a1l O Z):=qR (fun⟨a0,a1⟩ ⟨b0,b1⟩ h1 h2=>by cases h1;cases h2;rfl) (O,Z)
end
@[go_sem] abbrev TS:Nat×pY:=(193,⟨[.v,.v],aBi,[],[],none⟩)
theorem FL:qE Tryz.prog [rR,vX] (qC []):=⟨⟨rU,⟨wP,trivial⟩⟩,qT,qH⟩
theorem aBj:qI Tryz.prog TS:=by
 refine qS FL Tryz.func193 (c:=_) rfl (N:=19) (by kernel_rfl) (ts:=[(4,none)]) rfl (fun _ _=>rfl) ?_;intro⟨O,Z⟩ hs hrow;dsimp only[a1j,a1k,a1l,qK,pM,pV,qG,qO,Nat.reduceAdd] at hs hrow⊢;have hz:=hs;obtain⟨z0,hC0⟩:=aQn.1 hz
 try rw[r8 hC0]
 clear hz hs;unfold BR at hC0;refine p8 FL ?_;refine pW ?_;refine p8 FL ?_;refine rI ?_;obtain⟨y1,hy1,hC0⟩:=zD hC0;refine uZ 0 (fun s=> ∃v,y1= .inl v∧s=(fun _=>⟨[],[],0,19,0⟩) v) ?_ ?_
 ·refine uY hy1 (fun x=>⟨[(0,(.val (.list .str) O,none)),(1,(.val .str Z,none)),(7,(.val (.int .i64) (O.length:Int),none)),(8,(.val (.int .i64) x,none))],[],0,19,0⟩) ⟨[0,1,7,8],[]⟩ (by rfl) ?_;intro aA w1 n1 hC1 hN1;unfold OH at hC1;dsimp only at hC1⊢;refine p8 FL ?_;refine pW ?_;refine pP hC1 (fun hC1 hc1=> ?_) (fun hC1 hc1=> ?_)
  ·refine qM (pN (pW (rI ?_)));refine p8 FL ?_;obtain⟨hg1,hC1⟩:=pG hC1;refine p8 FL ?_ (hp:=by exact hg1);refine pP hC1 (fun hC1 hc2=> ?_) (fun hC1 hc2=> ?_)
   ·refine p8 FL ?_;refine pI (rM (rF (yI (yH (rM (rF ?_))))));cases hC1;cases hN1;dsimp only at hC0;cases hC0;exact⟨[],by rfl,by rfl,by rfl⟩
   ·refine qM (qV (pN ?_));obtain⟨hg2,hC1⟩:=pG hC1;refine qU FL ?_ (hp:=by exact hg2);cases hC1;exact sM ⟨⟨[0,1,7,8],[]⟩,_,by rfl,hN1⟩
  ·refine uG (uO (uI ?_));cases hC1;cases hN1;exact uH ⟨⟨[],[]⟩,_,rfl,by rfl⟩
 ·rintro _ ⟨v,rfl,rfl⟩;dsimp only at hC0⊢;refine uX (pN ?_);refine p8 FL ?_;refine pI ?_;cases hC0;exact⟨[],by rfl,by rfl,by rfl⟩
attribute [irreducible] BR
def LI (O:Int) (Z:(List UInt8)) (aA:Int):Int→Option (Int⊕(Unit⊕Int)):=fun aB=>if (decide (aB<(Z.length:Int)))=true then if 0≤aB∧aB<(Z.length:Int) then if (decide ((pL Z aB)=aA))=true then some (.inr (.inr (aB))) else if (((!decide (O=(4:Int)))==true)=true→0≤aB∧aB<(Z.length:Int)) then if ((!decide (O=(4:Int)))&&(decide ((pL Z aB)=(92:Int))))=true then if pB (aB+(1:Int)) then if pB ((aB+(1:Int))+(1:Int)) then some (.inl ((aB+(1:Int))+(1:Int))) else none else none else if pB (aB+(1:Int)) then some (.inl (aB+(1:Int))) else none else none else none else some (.inr (.inl ()))
def LJ (O:Int) (Z:(List UInt8)) (aA:Int):Option Int:=if (!((decide ((1:Int)≤O))&&(decide (O≤(4:Int)))))=true then some ((-1:Int)) else rZ (pU (LI O Z aA) (0:Int)) fun _=>some ((-1:Int))
attribute [irreducible] LJ
def OI (O:(List UInt8)):Option Unit:=if List.length O≤9223372036854775807 then some (()) else none
section
variable (O:(List UInt8))
abbrev a1m:List pA:=[(.val .str O,none)]
abbrev a1n:List p9:=[]
@[go_sem] def a1o:pF:=⟨[((OI O)).isSome=true],[(.val .bool (Lib.validD O),none)],[]⟩
def aBk:List pA→List p9→Option pF:=qP (V:=(List UInt8)) (fun x=>a1m x) (fun x=>a1n) fun x=>a1o x
@[go_sem] theorem aO1:aBk (no_index (a1m O)) (no_index a1n)=some (a1o O):=qR (fun a0 b0 h1 h2=>by cases h1;cases h2;rfl) O
end
@[go_sem] abbrev aBl:Nat×pY:=(198,⟨[.v],aBk,[],[],none⟩)
theorem a1p:qE Tryz.prog [] (qC [aAs]):=⟨trivial,pK aJt qT,qH⟩
theorem aJL:qI Tryz.prog aBl:=by
 refine qS a1p Tryz.func198 (c:=_) rfl (N:=5) (by kernel_rfl) (ts:=[(2,none)]) rfl (fun _ _=>rfl) ?_;intro O hs hrow;dsimp only[a1m,a1n,a1o,qK,pM,pV,qG,qO,Nat.reduceAdd] at hs hrow⊢;have hz:=hs;obtain⟨z0,hC0⟩:=aQn.1 hz
 try rw[r8 hC0]
 clear hz hs;unfold OI at hC0;refine p8 a1p ?_;obtain⟨hg1,hC0⟩:=pG hC0;refine p8 a1p ?_ (hp:=by exact hg1);refine pI ?_;cases hC0;exact⟨[],by rfl,by rfl,by rfl⟩
attribute [irreducible] OI
def aBm (O:Int):Unit:=()
section
variable (O:Int)
abbrev a1q:List pA:=[(.val (.int .u8) O,none)]
abbrev a1r:List p9:=[]
@[go_sem] def a1s:pF:=⟨[],[(.val .bool ((decide (O<(32:Int)))||(decide (O=(127:Int)))),none)],[]⟩
def aBn:List pA→List p9→Option pF:=qP (V:=Int) (fun x=>a1q x) (fun x=>a1r) fun x=>a1s x
@[go_sem] theorem aO2:aBn (no_index (a1q O)) (no_index a1r)=some (a1s O):=qR (fun a0 b0 h1 h2=>by cases h1;cases h2;rfl) O
end
@[go_sem] abbrev aBo:Nat×pY:=(199,⟨[.v],aBn,[],[],none⟩)
theorem a1t:qE Tryz.prog [] (qC []):=⟨trivial,qT,qH⟩
theorem aJM:qI Tryz.prog aBo:=by
 refine qS a1t Tryz.func199 (c:=_) rfl (N:=9) (by kernel_rfl) (ts:=[(2,none)]) rfl (fun _ _=>rfl) ?_;intro O hs hrow;dsimp only[a1q,a1r,a1s,qK,pM,pV,qG,qO,Nat.reduceAdd] at hs hrow⊢;obtain⟨z0,hC0⟩: ∃z,(aBm O)=z:=⟨_,rfl⟩
 try rw[hC0]
 unfold aBm at hC0;refine p8 a1t ?_;refine p8 a1t ?_ (hp:=by exact⟨fun hh=>hh,(fun hh=>uA hh)⟩);refine pI ?_;cases hC0;exact⟨[],by rfl,by rfl,by rfl⟩
def OJ (O:Int) (Z:Int):Option Unit:=if 0≤(IntKind.wrap .i64 O)∧(IntKind.wrap .i64 O)<256∧ZH (16:Int) then if pB (Z- ((vK (IntKind.wrap .i64 O) (16:Int)).length:Int)) then if 0≤(Z- ((vK (IntKind.wrap .i64 O) (16:Int)).length:Int))∧(Z- ((vK (IntKind.wrap .i64 O) (16:Int)).length:Int))≤140737488355328∧(([48]:List UInt8).length:Int)*(Z- ((vK (IntKind.wrap .i64 O) (16:Int)).length:Int))≤140737488355328 then if (((IU ([48]:List UInt8) (Z- ((vK (IntKind.wrap .i64 O) (16:Int)).length:Int)))++(vK (IntKind.wrap .i64 O) (16:Int))).length:Int)≤9223372036854775807 then some (()) else none else none else none else none
section
variable (O:Int) (Z:Int)
abbrev a1u:List pA:=[(.val (.int .u8) O,none),(.val (.int .i64) Z,none)]
abbrev a1v:List p9:=[]
@[go_sem] def a1w:pF:=⟨[((OJ O Z)).isSome=true],[(.val .str ((IU ([48]:List UInt8) (Z- ((vK (IntKind.wrap .i64 O) (16:Int)).length:Int)))++(vK (IntKind.wrap .i64 O) (16:Int))),none)],[]⟩
def aBp:List pA→List p9→Option pF:=qP (V:=(Int×Int)) (fun x=>a1u x.1 x.2) (fun x=>a1v) fun x=>a1w x.1 x.2
@[go_sem] theorem aO3:aBp (no_index (a1u O Z)) (no_index a1v)=some (a1w O Z):=qR (fun⟨a0,a1⟩ ⟨b0,b1⟩ h1 h2=>by cases h1;cases h2;rfl) (O,Z)
end
@[go_sem] abbrev aBq:Nat×pY:=(201,⟨[.v,.v],aBp,[],[],none⟩)
theorem TT:qE Tryz.prog [ZL,FF,rR] (qC [aAv,aAw]):=⟨⟨aJq,⟨IZ,⟨rU,trivial⟩⟩⟩,pK aJw (pK aJx qT),qH⟩
theorem aJN:qI Tryz.prog aBq:=by
 refine qS TT Tryz.func201 (c:=_) rfl (N:=16) (by kernel_rfl) (ts:=[(4,none)]) rfl (fun _ _=>rfl) ?_;intro⟨O,Z⟩ hs hrow;dsimp only[a1u,a1v,a1w,qK,pM,pV,qG,qO,Nat.reduceAdd] at hs hrow⊢;have hz:=hs;obtain⟨z0,hC0⟩:=aQn.1 hz
 try rw[r8 hC0]
 clear hz hs;unfold OJ at hC0;refine p8 TT ?_;obtain⟨hg1,hC0⟩:=pG hC0;refine p8 TT ?_ (hp:=by exact hg1);obtain⟨hg2,hC0⟩:=pG hC0;obtain⟨hg3,hC0⟩:=pG hC0;obtain⟨hg4,hC0⟩:=pG hC0;refine p8 TT ?_ (hp:=by exact⟨hg2,hg3,hg4⟩);refine pI ?_;cases hC0;exact⟨[],by rfl,by rfl,by rfl⟩
attribute [irreducible] OJ
def TU (O:Int) (Z:(List UInt8)):Int→Option (Int⊕(Unit⊕Bool)):=fun aA=>if (decide (aA<(Z.length:Int)))=true then if 0≤aA∧aA<(Z.length:Int) then if (decide ((pL Z aA)=O))=true then some (.inr (.inr (true))) else if pB (aA+(1:Int)) then some (.inl (aA+(1:Int))) else none else none else some (.inr (.inl ()))
def D8 (O:Int) (Z:(List UInt8)):Option Bool:=rZ (pU (TU O Z) (0:Int)) fun _=>some (false)
attribute [irreducible] D8
def a1x (O:Int):Option Unit:=if 0≤(IntKind.wrap .i64 (Int.tdiv O (16:Int)))∧(IntKind.wrap .i64 (Int.tdiv O (16:Int)))<(([48,49,50,51,52,53,54,55,56,57,97,98,99,100,101,102]:List UInt8).length:Int) then if 0≤(Int.tmod O (16:Int))∧(Int.tmod O (16:Int))<(([48,49,50,51,52,53,54,55,56,57,97,98,99,100,101,102]:List UInt8).length:Int) then some (()) else none else none
attribute [irreducible] a1x
end
noncomputable section
def D9 (O:Int):Option (List UInt8):=if (decide (O<(128:Int)))=true then some ((rW ([(IntKind.wrap .u8 O)]:List Int))) else if (decide (O<(2048:Int)))=true then if pB ((192:Int)+(IntKind.wrap .i64 (Int.tdiv O (64:Int)))) then if pB ((128:Int)+(Int.tmod O (64:Int))) then some ((rW ([(IntKind.wrap .u8 ((192:Int)+(IntKind.wrap .i64 (Int.tdiv O (64:Int))))),(IntKind.wrap .u8 ((128:Int)+(Int.tmod O (64:Int))))]:List Int))) else none else none else if (decide (O<(65536:Int)))=true then if pB ((224:Int)+(IntKind.wrap .i64 (Int.tdiv O (4096:Int)))) then if pB ((128:Int)+(Int.tmod (IntKind.wrap .i64 (Int.tdiv O (64:Int))) (64:Int))) then if pB ((128:Int)+(Int.tmod O (64:Int))) then some ((rW ([(IntKind.wrap .u8 ((224:Int)+(IntKind.wrap .i64 (Int.tdiv O (4096:Int))))),(IntKind.wrap .u8 ((128:Int)+(Int.tmod (IntKind.wrap .i64 (Int.tdiv O (64:Int))) (64:Int)))),(IntKind.wrap .u8 ((128:Int)+(Int.tmod O (64:Int))))]:List Int))) else none else none else none else if pB ((240:Int)+(IntKind.wrap .i64 (Int.tdiv O (262144:Int)))) then if pB ((128:Int)+(Int.tmod (IntKind.wrap .i64 (Int.tdiv O (4096:Int))) (64:Int))) then if pB ((128:Int)+(Int.tmod (IntKind.wrap .i64 (Int.tdiv O (64:Int))) (64:Int))) then if pB ((128:Int)+(Int.tmod O (64:Int))) then some ((rW ([(IntKind.wrap .u8 ((240:Int)+(IntKind.wrap .i64 (Int.tdiv O (262144:Int))))),(IntKind.wrap .u8 ((128:Int)+(Int.tmod (IntKind.wrap .i64 (Int.tdiv O (4096:Int))) (64:Int)))),(IntKind.wrap .u8 ((128:Int)+(Int.tmod (IntKind.wrap .i64 (Int.tdiv O (64:Int))) (64:Int)))),(IntKind.wrap .u8 ((128:Int)+(Int.tmod O (64:Int))))]:List Int))) else none else none else none else none
attribute [irreducible] D9
def EC (O:(List UInt8)) (Z:Int):(Int×Int)→Option ((Int×Int)⊕(Int⊕(Int×Int))):=fun(aA,aB)=>if (decide (aB<Z))=true then if 0≤aB∧aB<(O.length:Int) then if (((decide ((pL O aB)<(128:Int)))==false)=true→0≤aB∧aB<(O.length:Int)) then if ((decide ((pL O aB)<(128:Int)))||(decide ((191:Int)<(pL O aB))))=true then some (.inr (.inr (((65533:Int),(1:Int))))) else if pB ((64:Int)*aA) then if 0≤aB∧aB<(O.length:Int) then if pB (((64:Int)*aA)+(IntKind.wrap .i64 (pL O aB))) then if pB ((((64:Int)*aA)+(IntKind.wrap .i64 (pL O aB)))- (128:Int)) then if pB (aB+(1:Int)) then some (.inl (((((64:Int)*aA)+(IntKind.wrap .i64 (pL O aB)))- (128:Int)),(aB+(1:Int)))) else none else none else none else none else none else none else none else some (.inr (.inl aA))
def TV (O:(List UInt8)):Option (Int×Int):=if 0≤(0:Int)∧(0:Int)<(O.length:Int) then rZ (σ:=(Int×Int)) (if (decide ((IntKind.wrap .i64 (pL O (0:Int)))<(128:Int)))=true then some (.inr (((IntKind.wrap .i64 (pL O (0:Int))),(1:Int)))) else if ((decide ((192:Int)≤(IntKind.wrap .i64 (pL O (0:Int)))))&&(decide ((IntKind.wrap .i64 (pL O (0:Int)))<(224:Int))))=true then if pB ((IntKind.wrap .i64 (pL O (0:Int)))- (192:Int)) then some (.inl (((IntKind.wrap .i64 (pL O (0:Int)))- (192:Int)),(2:Int))) else none else if ((decide ((224:Int)≤(IntKind.wrap .i64 (pL O (0:Int)))))&&(decide ((IntKind.wrap .i64 (pL O (0:Int)))<(240:Int))))=true then if pB ((IntKind.wrap .i64 (pL O (0:Int)))- (224:Int)) then some (.inl (((IntKind.wrap .i64 (pL O (0:Int)))- (224:Int)),(3:Int))) else none else if ((decide ((240:Int)≤(IntKind.wrap .i64 (pL O (0:Int)))))&&(decide ((IntKind.wrap .i64 (pL O (0:Int)))<(248:Int))))=true then if pB ((IntKind.wrap .i64 (pL O (0:Int)))- (240:Int)) then some (.inl (((IntKind.wrap .i64 (pL O (0:Int)))- (240:Int)),(4:Int))) else none else some (.inr (((65533:Int),(1:Int)))) ) fun(Z,aA)=>if (decide ((O.length:Int)<aA))=true then some (((65533:Int),(1:Int))) else rZ (pU (EC O aA) (Z,(1:Int))) fun aB=>if (((!(((decide ((0:Int)≤aB))&&(decide (aB≤(1114111:Int))))&&((decide (aB<(55296:Int)))||(decide ((57343:Int)<aB)))))==false)=true→((D9 aB)).isSome=true) then if (((!(((decide ((0:Int)≤aB))&&(decide (aB≤(1114111:Int))))&&((decide (aB<(55296:Int)))||(decide ((57343:Int)<aB)))))==false)=true→0≤(0:Int)∧(0:Int)≤aA∧aA≤(O.length:Int)) then if ((!(((decide ((0:Int)≤aB))&&(decide (aB≤(1114111:Int))))&&((decide (aB<(55296:Int)))||(decide ((57343:Int)<aB)))))||(!decide ((val (D9 aB))=(pH O (0:Int) aA))))=true then some (((65533:Int),(1:Int))) else some ((aB,aA)) else none else none else none
attribute [irreducible] TV
def J3 (O:Int) (Z:Int):Bool:=if (decide (O=(1:Int)))=true then (decide (Z=(10:Int))) else rE (σ:=Bool) (if (decide (O=(2:Int)))=true then (decide (O=(2:Int))) else (decide (O=(3:Int))) ) fun aA=>if aA=true then ((decide (Z=(10:Int)))||(decide (Z=(34:Int)))) else ((decide (Z=(60:Int)))||(decide (Z=(34:Int))))
section
variable (O:Int) (Z:Int)
abbrev a1y:List pA:=[(.val (.int .i64) O,none),(.val (.int .u8) Z,none)]
abbrev a1z:List p9:=[]
@[go_sem] def a1A:pF:=⟨[],[(.val .bool (J3 O Z),none)],[]⟩
def aBr:List pA→List p9→Option pF:=qP (V:=(Int×Int)) (fun x=>a1y x.1 x.2) (fun x=>a1z) fun x=>a1A x.1 x.2
@[go_sem] theorem aO4:aBr (no_index (a1y O Z)) (no_index a1z)=some (a1A O Z):=qR (fun⟨a0,a1⟩ ⟨b0,b1⟩ h1 h2=>by cases h1;cases h2;rfl) (O,Z)
end
@[go_sem] abbrev aBs:Nat×pY:=(211,⟨[.v,.v],aBr,[],[],none⟩)
theorem FM:qE Tryz.prog [] (qC []):=⟨trivial,qT,qH⟩
theorem aJO:qI Tryz.prog aBs:=by
 refine qS FM Tryz.func211 (c:=_) rfl (N:=25) (by kernel_rfl) (ts:=[(4,none)]) rfl (fun _ _=>rfl) ?_;intro⟨O,Z⟩ hs hrow;dsimp only[a1y,a1z,a1A,qK,pM,pV,qG,qO,Nat.reduceAdd] at hs hrow⊢;obtain⟨z0,hC0⟩: ∃z,(J3 O Z)=z:=⟨_,rfl⟩
 try rw[hC0]
 unfold J3 at hC0;refine p8 FM ?_;refine pW ?_;refine p8 FM ?_;refine rI ?_;refine p8 FM ?_;refine pP hC0 (fun hC0 hc1=> ?_) (fun hC0 hc1=> ?_)
 ·refine p8 FM ?_;refine pI (rM (rF ?_));cases hC0;exact⟨[],by rfl,by rfl,by rfl⟩
 ·refine pW ?_;refine p8 FM ?_;obtain⟨aA,hC1,hC0⟩:=vI hC0;refine CD (fun s=>s=(fun x=>⟨[(1,(.val (.int .u8) Z,none)),(10,(.val .bool x,none))],[],0,25,0⟩) aA) ?_ ?_
  ·refine pP hC1 (fun hC1 hc2=> ?_) (fun hC1 hc2=> ?_)
   ·refine qM ?_;cases hC1;exact uP ⟨⟨[1,10],[]⟩,by rfl⟩
   ·refine qU FM ?_;cases hC1;exact uP ⟨⟨[1,10],[]⟩,by rfl⟩
  ·rintro _ rfl;dsimp only at hC0⊢;refine pN ?_;refine pP hC0 (fun hC0 hc3=> ?_) (fun hC0 hc3=> ?_)
   ·refine p8 FM ?_ (hp:=by exact⟨fun hh=>hh,(fun hh=>uA hh)⟩);refine pI (rM (rF ?_));cases hC0;exact⟨[],by rfl,by rfl,by rfl⟩
   ·refine qM (qV (pN ?_));refine p8 FM ?_ (hp:=by exact⟨fun hh=>hh,(fun hh=>uA hh)⟩);refine pI ?_;cases hC0;exact⟨[],by rfl,by rfl,by rfl⟩
def J4 (O:((List Int)×Unit)) (Z:Int):Option Unit:=if (O.1.length+([Z]:List Int).length)*1≤140737488355328 then some (()) else none
section
variable (O:Int) (Z:((List Int)×Unit)) (aA:Nat)
abbrev a1B:List pA:=[(.val .ref (some (0,0)),none),(.val (.int .u8) O,none)]
abbrev a1C:List p9:=[.cells wD ((some (0,0)),Z) [(1,1)],.grow 5 1 aA]
@[go_sem] def a1D:pF:=⟨[aA=(Z.1.length),((J4 Z O)).isSome=true],[(.any,none)],[.cells wD ((some (0,0)),((Z.1++([O]:List Int)),())) [(1,1)],.grow 5 1 ((Z.1++([O]:List Int)).length)]⟩
def aBt:List pA→List p9→Option pF:=qP (V:=(Int×((List Int)×Unit)×Nat)) (fun x=>a1B x.1) (fun x=>a1C x.2.1 x.2.2) fun x=>a1D x.1 x.2.1 x.2.2
@[go_sem] theorem aO5:aBt (no_index (a1B O)) (no_index (a1C Z aA))=some (a1D O Z aA):=qR (fun⟨a0,a1,a2⟩ ⟨b0,b1,b2⟩ h1 h2=>by cases h1;cases h2;rfl) (O,Z,aA)
end
@[go_sem] abbrev aBu:Nat×pY:=(212,⟨[.p wD [1],.v],aBt,[],[],none⟩)
theorem OK:qE Tryz.prog [FD,FE] (qC [TE]):=⟨⟨IX,⟨IY,trivial⟩⟩,pK ZP qT,qH⟩
theorem aJP:qI Tryz.prog aBu:=by
 refine qS OK Tryz.func212 (c:=_) rfl (N:=17) (by kernel_rfl) (ts:=[(4,none)]) rfl (fun _ _=>rfl) ?_;intro⟨O,Z,aA⟩ hs hrow;dsimp only[a1B,a1C,a1D,qK,pM,pV,qG,qO,Nat.reduceAdd] at hs hrow⊢;obtain⟨rfl,hz⟩:=hs;obtain⟨z0,hC0⟩:=aQn.1 hz
 try rw[r8 hC0]
 clear hz;unfold J4 at hC0;refine p8 OK ?_;refine p8 OK ?_ (hp:=by first|rfl|trivial)
 obtain⟨hg1,hC0⟩:=pG hC0;refine p8 OK ?_ (hp:=by exact⟨by first|rfl|trivial,hg1⟩)
 refine p8 OK ?_;refine pI ?_;cases hC0;exact⟨[(0,0),(1,1)],by rfl,by rfl,by rfl⟩
attribute [irreducible] J4
end
noncomputable section
def aBv (O:pR) (Z:(List UInt8)):Unit:=()
section
variable (O:pR) (Z:(List UInt8))
abbrev a1E:List pA:=[(.val (.pair .str (.pair .str .unit)) O,none),(.val .ref (some (0,0)),none)]
abbrev a1F:List p9:=[.cells .str Z []]
@[go_sem] def a1G:pF:=⟨[],[(.val .bool (!(Op.bytesLess O.1 Z||decide (O.1=Z))),none)],[.cells .str Z []]⟩
def aBw:List pA→List p9→Option pF:=qP (V:=(pR×(List UInt8))) (fun x=>a1E x.1) (fun x=>a1F x.2) fun x=>a1G x.1 x.2
@[go_sem] theorem aO6:aBw (no_index (a1E O)) (no_index (a1F Z))=some (a1G O Z):=qR (fun⟨a0,a1⟩ ⟨b0,b1⟩ h1 h2=>by cases h1;cases h2;rfl) (O,Z)
end
@[go_sem] abbrev aBx:Nat×pY:=(239,⟨[.v,.p .str []],aBw,[],[0],none⟩)
theorem a1H:qE Tryz.prog [rR,E8] (qC []):=⟨⟨rU,⟨GU,trivial⟩⟩,qT,qH⟩
theorem aJQ:qI Tryz.prog aBx:=by
 refine qS a1H Tryz.func239 (c:=_) rfl (N:=8) (by kernel_rfl) (ts:=[(3,none)]) rfl (fun _ _=>rfl) ?_;intro⟨O,Z⟩ hs hrow;dsimp only[a1E,a1F,a1G,qK,pM,pV,qG,qO,Nat.reduceAdd] at hs hrow⊢;obtain⟨z0,hC0⟩: ∃z,(aBv O Z)=z:=⟨_,rfl⟩
 try rw[hC0]
 unfold aBv at hC0;refine p8 a1H ?_;refine p8 a1H ?_;refine pI ?_;cases hC0;exact⟨[(0,0)],by rfl,by rfl,by rfl⟩
def LK (O:(List UInt8)) (Z:Int):(Int×Int)→Option ((Int×Int)⊕(Int⊕(Int×Bool))):=fun(aA,aB)=>if (decide (aB<(O.length:Int)))=true then if 0≤aB∧aB<(O.length:Int) then if 0≤aB∧aB<(O.length:Int) then if (((decide ((65:Int)≤(pL O aB)))==true)=true→0≤aB∧aB<(O.length:Int)) then qZ (σ:=Int) (if ((decide ((65:Int)≤(pL O aB)))&&(decide ((pL O aB)≤(70:Int))))=true then if 0≤aB∧aB<(O.length:Int) then if pB ((IntKind.wrap .i64 (IntKind.wrap .u8 ((pL O aB)- (65:Int))))+(10:Int)) then some (((IntKind.wrap .i64 (IntKind.wrap .u8 ((pL O aB)- (65:Int))))+(10:Int))) else none else none else some ((sW ([48,49,50,51,52,53,54,55,56,57,97,98,99,100,101,102]:List UInt8) (pL O aB))) ) fun aC=>if ((decide (aC<(0:Int)))||(decide (Z≤aC)))=true then some (.inr (.inr (((0:Int),false)))) else if pB (aA*Z) then if pB ((aA*Z)+aC) then if pB (aB+(1:Int)) then some (.inl (((aA*Z)+aC),(aB+(1:Int)))) else none else none else none else none else none else none else some (.inr (.inl aA))
def ED (O:(List UInt8)) (Z:Int):Option (Int×Bool):=rZ (pU (LK O Z) ((0:Int),(0:Int))) fun aA=>some ((aA,(!decide (O=([]:List UInt8)))))
section
variable (O:(List UInt8)) (Z:Int)
abbrev a1I:List pA:=[(.val .str O,none),(.val (.int .i64) Z,none)]
abbrev a1J:List p9:=[]
@[go_sem] def a1K:pF:=⟨[((ED O Z)).isSome=true],[(.val (.int .i64) ((val (ED O Z)).1),none),(.val .bool ((val (ED O Z)).2),none)],[]⟩
def aBy:List pA→List p9→Option pF:=qP (V:=((List UInt8)×Int)) (fun x=>a1I x.1 x.2) (fun x=>a1J) fun x=>a1K x.1 x.2
@[go_sem] theorem aO7:aBy (no_index (a1I O Z)) (no_index a1J)=some (a1K O Z):=qR (fun⟨a0,a1⟩ ⟨b0,b1⟩ h1 h2=>by cases h1;cases h2;rfl) (O,Z)
end
@[go_sem] abbrev a1L:Nat×pY:=(251,⟨[.v,.v],aBy,[],[],none⟩)
theorem AY:qE Tryz.prog [vL,FF,rR] (qC [LA]):=⟨⟨wE,⟨IZ,⟨rU,trivial⟩⟩⟩,pK OA qT,qH⟩
theorem aBz:qI Tryz.prog a1L:=by
 refine qS AY Tryz.func251 (c:=_) rfl (N:=50) (by kernel_rfl) (ts:=[(4,none),(5,none)]) rfl (fun _ _=>rfl) ?_;intro⟨O,Z⟩ hs hrow;dsimp only[a1I,a1J,a1K,qK,pM,pV,qG,qO,Nat.reduceAdd] at hs hrow⊢;have hz:=hs;obtain⟨z0,hC0⟩:=aQn.1 hz
 try rw[r8 hC0]
 clear hz hs;unfold ED at hC0;refine p8 AY ?_;refine p8 AY ?_;refine pW ?_;refine p8 AY ?_;refine rI ?_;obtain⟨y1,hy1,hC0⟩:=zD hC0;refine uZ 0 (fun s=> ∃v,y1= .inl v∧s=(fun x=>⟨[(0,(.val .str O,none)),(6,(.val (.int .i64) x,none))],[],0,50,0⟩) v) ?_ ?_
 ·refine uY hy1 (fun x=>⟨[(0,(.val .str O,none)),(1,(.val (.int .i64) Z,none)),(6,(.val (.int .i64) x.1,none)),(10,(.val (.int .i64) (O.length:Int),none)),(11,(.val (.int .i64) x.2,none))],[],0,50,0⟩) ⟨[0,1,6,10,11],[]⟩ (by rfl) ?_;intro x1 w1 n1 hC1 hN1;obtain⟨aA,aB⟩:=x1;unfold LK at hC1;dsimp only at hC1⊢;refine p8 AY ?_;refine pW ?_;refine pP hC1 (fun hC1 hc1=> ?_) (fun hC1 hc1=> ?_)
  ·refine qM (pN (pW (rI ?_)));refine p8 AY ?_;obtain⟨hg1,hC1⟩:=pG hC1;refine p8 AY ?_ (hp:=by exact hg1);refine pW ?_;obtain⟨hg2,hC1⟩:=pG hC1;obtain⟨hg3,hC1⟩:=pG hC1;refine p8 AY ?_ (hp:=by exact⟨hg2,fun hh=>hh,fun hh=>hh,hg3,fun hh=>hh,(fun hh=>sH hh)⟩);obtain⟨aC,hC2,hC1⟩:=pD hC1;refine CD (fun s=>s=(fun x=>⟨[(0,(.val .str O,none)),(1,(.val (.int .i64) Z,none)),(6,(.val (.int .i64) aA,none)),(8,(.val (.int .i64) x,none)),(10,(.val (.int .i64) (O.length:Int),none)),(11,(.val (.int .i64) aB,none))],[],0,50,0⟩) aC) ?_ ?_
   ·refine pP hC2 (fun hC2 hc2=> ?_) (fun hC2 hc2=> ?_)
    ·obtain⟨hg4,hC2⟩:=pG hC2;obtain⟨hg5,hC2⟩:=pG hC2;refine qU AY ?_ (hp:=by exact⟨hg4,hg5⟩);cases hC2;exact uP ⟨⟨[0,1,6,8,10,11],[]⟩,by rfl⟩
    ·refine qM ?_;cases hC2;exact uP ⟨⟨[0,1,6,8,10,11],[]⟩,by rfl⟩
   ·rintro _ rfl;dsimp only at hC1⊢;refine pN (pW ?_);refine p8 AY ?_ (hp:=by exact⟨fun hh=>hh,fun hh=>hh,(fun hh=>uA hh)⟩);refine pP hC1 (fun hC1 hc3=> ?_) (fun hC1 hc3=> ?_)
    ·refine p8 AY ?_;refine pI (rF (rM (rF (yI (yH (rM (rF ?_)))))));cases hC1;cases hN1;dsimp only at hC0;cases hC0;exact⟨[],by rfl,by rfl,by rfl⟩
    ·refine qM (pN ?_);obtain⟨hg6,hC1⟩:=pG hC1;obtain⟨hg7,hC1⟩:=pG hC1;refine qU AY ?_ (hp:=by exact⟨hg6,hg7⟩);refine qV (pN ?_);obtain⟨hg8,hC1⟩:=pG hC1;refine qU AY ?_ (hp:=by exact hg8);cases hC1;exact sM ⟨⟨[0,1,6,10,11],[]⟩,_,by rfl,hN1⟩
  ·refine uG (uO (uI ?_));cases hC1;cases hN1;exact uH ⟨⟨[0,6],[]⟩,_,rfl,by rfl⟩
 ·rintro _ ⟨aD,rfl,rfl⟩;dsimp only at hC0⊢;refine uX (pN ?_);refine p8 AY ?_;refine pI ?_;cases hC0;exact⟨[],by rfl,by rfl,by rfl⟩
attribute [irreducible] ED
def TW (O:(List (List UInt8))) (Z:(List UInt8)):Int→Option (Int⊕(Unit⊕Bool)):=fun aA=>if (decide (aA<(O.length:Int)))=true then if 0≤aA∧aA<(O.length:Int) then if (decide ((pZ .str O aA)=Z))=true then some (.inr (.inr (true))) else if pB (aA+(1:Int)) then some (.inl (aA+(1:Int))) else none else none else some (.inr (.inl ()))
def TX (O:(List (List UInt8))) (Z:(List UInt8)):Option Bool:=rZ (pU (TW O Z) (0:Int)) fun _=>some (false)
attribute [irreducible] TX
def aBA (O:pR) (Z:(List UInt8)):Unit:=()
section
variable (O:pR) (Z:(List UInt8))
abbrev a1M:List pA:=[(.val (.pair .str (.pair .str .unit)) O,none),(.val .ref (some (0,0)),none)]
abbrev a1N:List p9:=[.cells .str Z []]
@[go_sem] def a1O:pF:=⟨[],[(.val .bool (decide (O.1=Z)),none)],[.cells .str Z []]⟩
def aBB:List pA→List p9→Option pF:=qP (V:=(pR×(List UInt8))) (fun x=>a1M x.1) (fun x=>a1N x.2) fun x=>a1O x.1 x.2
@[go_sem] theorem aO8:aBB (no_index (a1M O)) (no_index (a1N Z))=some (a1O O Z):=qR (fun⟨a0,a1⟩ ⟨b0,b1⟩ h1 h2=>by cases h1;cases h2;rfl) (O,Z)
end
@[go_sem] abbrev aBC:Nat×pY:=(267,⟨[.v,.p .str []],aBB,[],[0],none⟩)
theorem a1P:qE Tryz.prog [rR,E8] (qC []):=⟨⟨rU,⟨GU,trivial⟩⟩,qT,qH⟩
theorem aJR:qI Tryz.prog aBC:=by
 refine qS a1P Tryz.func267 (c:=_) rfl (N:=8) (by kernel_rfl) (ts:=[(3,none)]) rfl (fun _ _=>rfl) ?_;intro⟨O,Z⟩ hs hrow;dsimp only[a1M,a1N,a1O,qK,pM,pV,qG,qO,Nat.reduceAdd] at hs hrow⊢;obtain⟨z0,hC0⟩: ∃z,(aBA O Z)=z:=⟨_,rfl⟩
 try rw[hC0]
 unfold aBA at hC0;refine p8 a1P ?_;refine p8 a1P ?_;refine pI ?_;cases hC0;exact⟨[(0,0)],by rfl,by rfl,by rfl⟩
def aBD (O:(List UInt8)):Unit:=()
section
variable (O:(List UInt8))
abbrev a1Q:List pA:=[(.val .str O,none)]
abbrev a1R:List p9:=[]
@[go_sem] def a1S:pF:=⟨[],[(.val .bool true,none)],[]⟩
def aBE:List pA→List p9→Option pF:=qP (V:=(List UInt8)) (fun x=>a1Q x) (fun x=>a1R) fun x=>a1S
@[go_sem] theorem aO9:aBE (no_index (a1Q O)) (no_index a1R)=some a1S:=qR (fun a0 b0 h1 h2=>by cases h1;cases h2;rfl) O
end
@[go_sem] abbrev aBF:Nat×pY:=(278,⟨[.v],aBE,[],[],none⟩)
theorem a1T:qE Tryz.prog [] (qC []):=⟨trivial,qT,qH⟩
theorem aJS:qI Tryz.prog aBF:=by
 refine qS a1T Tryz.func278 (c:=_) rfl (N:=3) (by kernel_rfl) (ts:=[(2,none)]) rfl (fun _ _=>rfl) ?_;intro O hs hrow;dsimp only[a1Q,a1R,a1S,qK,pM,pV,qG,qO,Nat.reduceAdd] at hs hrow⊢;obtain⟨z0,hC0⟩: ∃z,(aBD O)=z:=⟨_,rfl⟩
 try rw[hC0]
 unfold aBD at hC0;refine p8 a1T ?_;refine p8 a1T ?_;refine pI ?_;cases hC0;exact⟨[],by rfl,by rfl,by rfl⟩
def TY (O:Int) (Z:Int):Option Int:=qZ (σ:=Int) (if ((decide ((48:Int)≤O))&&(decide (O≤(57:Int))))=true then some ((IntKind.wrap .i64 (IntKind.wrap .u8 (O- (48:Int))))) else if ((decide ((97:Int)≤O))&&(decide (O≤(102:Int))))=true then if pB ((IntKind.wrap .i64 (IntKind.wrap .u8 (O- (97:Int))))+(10:Int)) then some (((IntKind.wrap .i64 (IntKind.wrap .u8 (O- (97:Int))))+(10:Int))) else none else if ((decide ((65:Int)≤O))&&(decide (O≤(70:Int))))=true then if pB ((IntKind.wrap .i64 (IntKind.wrap .u8 (O- (65:Int))))+(10:Int)) then some (((IntKind.wrap .i64 (IntKind.wrap .u8 (O- (65:Int))))+(10:Int))) else none else some ((-1:Int)) ) fun aA=>if (decide (Z≤aA))=true then some ((-1:Int)) else some (aA)
attribute [irreducible] TY
def aBG (O:Int):Unit:=()
section
variable (O:Int)
abbrev a1U:List pA:=[(.val (.int .i64) O,none)]
abbrev a1V:List p9:=[]
@[go_sem] def a1W:pF:=⟨[],[(.val .bool (((decide ((0:Int)≤O))&&(decide (O≤(1114111:Int))))&&((decide (O<(55296:Int)))||(decide ((57343:Int)<O)))),none)],[]⟩
def aBH:List pA→List p9→Option pF:=qP (V:=Int) (fun x=>a1U x) (fun x=>a1V) fun x=>a1W x
@[go_sem] theorem aPa:aBH (no_index (a1U O)) (no_index a1V)=some (a1W O):=qR (fun a0 b0 h1 h2=>by cases h1;cases h2;rfl) O
end
@[go_sem] abbrev aBI:Nat×pY:=(289,⟨[.v],aBH,[],[],none⟩)
theorem a1X:qE Tryz.prog [] (qC []):=⟨trivial,qT,qH⟩
theorem aJT:qI Tryz.prog aBI:=by
 refine qS a1X Tryz.func289 (c:=_) rfl (N:=17) (by kernel_rfl) (ts:=[(2,none)]) rfl (fun _ _=>rfl) ?_;intro O hs hrow;dsimp only[a1U,a1V,a1W,qK,pM,pV,qG,qO,Nat.reduceAdd] at hs hrow⊢;obtain⟨z0,hC0⟩: ∃z,(aBG O)=z:=⟨_,rfl⟩
 try rw[hC0]
 unfold aBG at hC0;refine p8 a1X ?_;refine p8 a1X ?_ (hp:=by exact⟨fun hh=>hh,fun hh=>sH hh,fun hh=>hh,fun hh=>hh,fun hh=>hh,fun hh=>hh,fun hG hh=>GQ hG hh,(fun hh=>sH hh)⟩);refine pI ?_;cases hC0;exact⟨[],by rfl,by rfl,by rfl⟩
def GY (O:(List pR)):Option (List pR):=if (0+O.length)*32≤140737488355328 then some ((([]:List pR)++O)) else none
section
variable (O:(List pR))
abbrev a1Y:List pA:=[(.val (.list (.pair .str (.pair .str .unit))) O,none)]
abbrev a1Z:List p9:=[]
@[go_sem] def a2a:pF:=⟨[((GY O)).isSome=true],[(.own 0 ((val (GY O)).length),none)],[.row 149 (.pair .str (.pair .str .unit)) (val (GY O)) ((val (GY O)).length)]⟩
def aBJ:List pA→List p9→Option pF:=qP (V:=(List pR)) (fun x=>a1Y x) (fun x=>a1Z) fun x=>a2a x
@[go_sem] theorem aPb:aBJ (no_index (a1Y O)) (no_index a1Z)=some (a2a O):=qR (fun a0 b0 h1 h2=>by cases h1;cases h2;rfl) O
end
@[go_sem] abbrev aBK:Nat×pY:=(236,⟨[.v],aBJ,[],[],none⟩)
theorem OL:qE Tryz.prog [T7] (qC []):=⟨⟨aAn,trivial⟩,qT,qH⟩
theorem aJU:qI Tryz.prog aBK:=by
 refine qS OL Tryz.func236 (c:=_) rfl (N:=8) (by kernel_rfl) (ts:=[(2,none)]) rfl (fun _ _=>rfl) ?_;intro O hs hrow;dsimp only[a1Y,a1Z,a2a,qK,pM,pV,qG,qO,Nat.reduceAdd] at hs hrow⊢;have hz:=hs;obtain⟨z0,hC0⟩:=aQn.1 hz
 try rw[r8 hC0]
 clear hz hs;unfold GY at hC0;refine p8 OL ?_;refine pW ?_;refine p8 OL ?_;refine aIm (by simp only[go_sem];rfl) (fun hnil=> ?_) (fun hnil=> ?_)
 ·subst hnil;obtain⟨_,hC0⟩:=pG hC0;refine p8 OL ?_;refine pI (rF ?_);cases hC0;exact⟨[(0,96)],by rfl,by rfl,by rfl⟩
 ·refine qM (pN ?_);obtain⟨hg1,hC0⟩:=pG hC0;refine p8 OL ?_ (hp:=by exact⟨by first|rfl|trivial,hg1⟩)
  refine pI ?_;cases hC0;exact⟨[(0,96)],by rfl,by rfl,by rfl⟩
attribute [irreducible] GY
end
noncomputable section
def J5 (O:(List Int)) (Z:Int):Option (List Int):=if (decide ((IntKind.wrap .u32 Z)≤(2047:Int)))=true then if (O.length+([(bits .or .u8 (192:Int) (IntKind.wrap .u8 (wJ .i32 Z (6:Int)))),(bits .or .u8 (128:Int) (bits .and .u8 (IntKind.wrap .u8 Z) (63:Int)))]:List Int).length)*1≤140737488355328 then some ((O++([(bits .or .u8 (192:Int) (IntKind.wrap .u8 (wJ .i32 Z (6:Int)))),(bits .or .u8 (128:Int) (bits .and .u8 (IntKind.wrap .u8 Z) (63:Int)))]:List Int))) else none else qZ (σ:=Bool) (if (decide ((IntKind.wrap .u32 Z)<(55296:Int)))=true then some ((decide ((IntKind.wrap .u32 Z)<(55296:Int)))) else some (((decide ((57343:Int)<(IntKind.wrap .u32 Z)))&&(decide ((IntKind.wrap .u32 Z)≤(65535:Int))))) ) fun aA=>if aA=true then if (O.length+([(bits .or .u8 (224:Int) (IntKind.wrap .u8 (wJ .i32 Z (12:Int)))),(bits .or .u8 (128:Int) (bits .and .u8 (IntKind.wrap .u8 (wJ .i32 Z (6:Int))) (63:Int))),(bits .or .u8 (128:Int) (bits .and .u8 (IntKind.wrap .u8 Z) (63:Int)))]:List Int).length)*1≤140737488355328 then some ((O++([(bits .or .u8 (224:Int) (IntKind.wrap .u8 (wJ .i32 Z (12:Int)))),(bits .or .u8 (128:Int) (bits .and .u8 (IntKind.wrap .u8 (wJ .i32 Z (6:Int))) (63:Int))),(bits .or .u8 (128:Int) (bits .and .u8 (IntKind.wrap .u8 Z) (63:Int)))]:List Int))) else none else if ((decide ((65535:Int)<(IntKind.wrap .u32 Z)))&&(decide ((IntKind.wrap .u32 Z)≤(1114111:Int))))=true then if (O.length+([(bits .or .u8 (240:Int) (IntKind.wrap .u8 (wJ .i32 Z (18:Int)))),(bits .or .u8 (128:Int) (bits .and .u8 (IntKind.wrap .u8 (wJ .i32 Z (12:Int))) (63:Int))),(bits .or .u8 (128:Int) (bits .and .u8 (IntKind.wrap .u8 (wJ .i32 Z (6:Int))) (63:Int))),(bits .or .u8 (128:Int) (bits .and .u8 (IntKind.wrap .u8 Z) (63:Int)))]:List Int).length)*1≤140737488355328 then some ((O++([(bits .or .u8 (240:Int) (IntKind.wrap .u8 (wJ .i32 Z (18:Int)))),(bits .or .u8 (128:Int) (bits .and .u8 (IntKind.wrap .u8 (wJ .i32 Z (12:Int))) (63:Int))),(bits .or .u8 (128:Int) (bits .and .u8 (IntKind.wrap .u8 (wJ .i32 Z (6:Int))) (63:Int))),(bits .or .u8 (128:Int) (bits .and .u8 (IntKind.wrap .u8 Z) (63:Int)))]:List Int))) else none else if (O.length+([(239:Int),(191:Int),(189:Int)]:List Int).length)*1≤140737488355328 then some ((O++([(239:Int),(191:Int),(189:Int)]:List Int))) else none
section
variable (O:(List Int)) (Z:Int) (aA:Nat)
abbrev a2b:List pA:=[(.val (.list (.int .u8)) O,some 0),(.val (.int .i32) Z,none)]
abbrev a2c:List p9:=[.grow 5 1 aA]
@[go_sem] def a2d:pF:=⟨[aA=(O.length),((J5 O Z)).isSome=true],[(.val (.list (.int .u8)) (val (J5 O Z)),some 0)],[.grow 5 1 ((val (J5 O Z)).length)]⟩
def aBL:List pA→List p9→Option pF:=qP (V:=((List Int)×Int×Nat)) (fun x=>a2b x.1 x.2.1) (fun x=>a2c x.2.2) fun x=>a2d x.1 x.2.1 x.2.2
@[go_sem] theorem aPc:aBL (no_index (a2b O Z)) (no_index (a2c aA))=some (a2d O Z aA):=qR (fun⟨a0,a1,a2⟩ ⟨b0,b1,b2⟩ h1 h2=>by cases h1;cases h2;rfl) (O,Z,aA)
end
@[go_sem] abbrev aBM:Nat×pY:=(300,⟨[.own,.v],aBL,[],[],none⟩)
theorem DA:qE Tryz.prog [FF,L7,FD,TA] (qC []):=⟨⟨IZ,⟨T5,⟨IX,⟨aAq,trivial⟩⟩⟩⟩,qT,qH⟩
theorem aJV:qI Tryz.prog aBM:=by
 refine qS DA Tryz.func300 (c:=_) rfl (N:=78) (by kernel_rfl) (ts:=[(4,none)]) rfl (fun _ _=>rfl) ?_;intro⟨O,Z,aA⟩ hs hrow;dsimp only[a2b,a2c,a2d,qK,pM,pV,qG,qO,Nat.reduceAdd] at hs hrow⊢;obtain⟨rfl,hz⟩:=hs;obtain⟨z0,hC0⟩:=aQn.1 hz
 try rw[r8 hC0]
 clear hz;unfold J5 at hC0;refine p8 DA ?_;refine p8 DA ?_;refine rI ?_;refine p8 DA ?_;refine pP hC0 (fun hC0 hc1=> ?_) (fun hC0 hc1=> ?_)
 ·obtain⟨hg1,hC0⟩:=pG hC0;refine p8 DA ?_ (hp:=by exact⟨show (0:Int)≤(6:Int) from by decide,by first|rfl|trivial,hg1⟩)
  refine pI (rM ?_);cases hC0;exact⟨[(0,0)],by rfl,by rfl,by rfl⟩
 ·refine pW ?_;refine p8 DA ?_;obtain⟨aB,hC1,hC0⟩:=pD hC0;refine CD (fun s=>s=(fun x=>⟨[(0,(.val (.list (.int .u8)) O,some 0)),(1,(.val (.int .i32) Z,none)),(5,(.val (.int .u32) (IntKind.wrap .u32 Z),none)),(25,(.val .bool x,none))],[(0,.grow 5 1 (O.length))],1,78,1⟩) aB) ?_ ?_
  ·refine pP hC1 (fun hC1 hc2=> ?_) (fun hC1 hc2=> ?_)
   ·refine qM ?_;cases hC1;exact uP ⟨⟨[0,1,5,25],[(0,0)]⟩,by rfl⟩
   ·refine qU DA ?_ (hp:=by exact⟨fun hh=>hh,(fun hh=>sH hh)⟩);cases hC1;exact uP ⟨⟨[0,1,5,25],[(0,0)]⟩,by rfl⟩
  ·rintro _ rfl;dsimp only at hC0⊢;refine pN ?_;refine pP hC0 (fun hC0 hc3=> ?_) (fun hC0 hc3=> ?_)
   ·obtain⟨hg2,hC0⟩:=pG hC0;refine p8 DA ?_ (hp:=by exact⟨show (0:Int)≤(12:Int) from by decide,show (0:Int)≤(6:Int) from by decide,by first|rfl|trivial,hg2⟩)
    refine pI (rM ?_);cases hC0;exact⟨[(0,0)],by rfl,by rfl,by rfl⟩
   ·refine p8 DA ?_ (hp:=by exact⟨fun hh=>hh,(fun hh=>sH hh)⟩);refine pP hC0 (fun hC0 hc4=> ?_) (fun hC0 hc4=> ?_)
    ·obtain⟨hg3,hC0⟩:=pG hC0;refine p8 DA ?_ (hp:=by exact⟨show (0:Int)≤(18:Int) from by decide,show (0:Int)≤(12:Int) from by decide,show (0:Int)≤(6:Int) from by decide,by first|rfl|trivial,hg3⟩)
     refine pI (rM ?_);cases hC0;exact⟨[(0,0)],by rfl,by rfl,by rfl⟩
    ·obtain⟨hg4,hC0⟩:=pG hC0;refine p8 DA ?_ (hp:=by exact⟨by first|rfl|trivial,hg4⟩)
     refine pI (rM ?_);cases hC0;exact⟨[(0,0)],by rfl,by rfl,by rfl⟩
attribute [irreducible] J5
def OM (O:(List pR)) (Z:(List UInt8)):Int→Option (Int⊕(Unit⊕Int)):=fun aA=>if (decide (aA<(O.length:Int)))=true then if 0≤aA∧aA<(O.length:Int) then if (decide (((pZ (.pair .str (.pair .str .unit)) O aA).1)=Z))=true then some (.inr (.inr (aA))) else if pB (aA+(1:Int)) then some (.inl (aA+(1:Int))) else none else none else some (.inr (.inl ()))
def LL (O:(List pR)) (Z:(List UInt8)):Option Int:=rZ (pU (OM O Z) (0:Int)) fun _=>some ((-1:Int))
section
variable (O:(List pR)) (Z:(List UInt8))
abbrev a2e:List pA:=[(.val (.list (.pair .str (.pair .str .unit))) O,none),(.val .clo (some (267,[(0,0)])),none)]
abbrev a2f:List p9:=[.cells .str Z []]
@[go_sem] def a2g:pF:=⟨[((LL O Z)).isSome=true],[(.val (.int .i64) (val (LL O Z)),none)],[.cells .str Z []]⟩
def aBN:List pA→List p9→Option pF:=qP (V:=((List pR)×(List UInt8))) (fun x=>a2e x.1) (fun x=>a2f x.2) fun x=>a2g x.1 x.2
@[go_sem] theorem aPd:aBN (no_index (a2e O)) (no_index (a2f Z))=some (a2g O Z):=qR (fun⟨a0,a1⟩ ⟨b0,b1⟩ h1 h2=>by cases h1;cases h2;rfl) (O,Z)
end
@[go_sem] abbrev aBO:Nat×pY:=(238,⟨[.v,.f [(.str,[])]],aBN,[],[0],none⟩)
theorem FN:qE Tryz.prog [AW,E8] (qC [aBC]):=⟨⟨CF,⟨GU,trivial⟩⟩,pK aJR qT,qH⟩
theorem aJW:qI Tryz.prog aBO:=by
 refine qS FN Tryz.func238 (c:=_) rfl (N:=19) (by kernel_rfl) (ts:=[(4,none)]) rfl (fun _ _=>rfl) ?_;intro⟨O,Z⟩ hs hrow;dsimp only[a2e,a2f,a2g,qK,pM,pV,qG,qO,Nat.reduceAdd] at hs hrow⊢;have hz:=hs;obtain⟨z0,hC0⟩:=aQn.1 hz
 try rw[r8 hC0]
 clear hz hs;unfold LL at hC0;refine p8 FN ?_;refine pW ?_;refine p8 FN ?_;refine rI ?_;obtain⟨y1,hy1,hC0⟩:=zD hC0;refine uZ 0 (fun s=> ∃v,y1= .inl v∧s=(fun _=>⟨[],[(0,.cells .str Z [])],1,19,1⟩) v) ?_ ?_
 ·refine uY hy1 (fun x=>⟨[(0,(.val (.list (.pair .str (.pair .str .unit))) O,none)),(1,(.val .clo (some (267,[(0,0)])),none)),(7,(.val (.int .i64) (O.length:Int),none)),(8,(.val (.int .i64) x,none))],[(0,.cells .str Z [])],1,19,1⟩) ⟨[0,1,7,8],[(0,0)]⟩ (by rfl) ?_;intro aA w1 n1 hC1 hN1;unfold OM at hC1;dsimp only at hC1⊢;refine p8 FN ?_;refine pW ?_;refine pP hC1 (fun hC1 hc1=> ?_) (fun hC1 hc1=> ?_)
  ·refine qM (pN (pW (rI ?_)));refine p8 FN ?_;obtain⟨hg1,hC1⟩:=pG hC1;refine p8 FN ?_ (hp:=by exact⟨hg1,(by first|rfl|trivial)⟩)
   refine pP hC1 (fun hC1 hc2=> ?_) (fun hC1 hc2=> ?_)
   ·refine p8 FN ?_;refine pI (rM (rF (yI (yH (rM (rF ?_))))));cases hC1;cases hN1;dsimp only at hC0;cases hC0;exact⟨[(0,0)],by rfl,by rfl,by rfl⟩
   ·refine qM (qV (pN ?_));obtain⟨hg2,hC1⟩:=pG hC1;refine qU FN ?_ (hp:=by exact hg2);cases hC1;exact sM ⟨⟨[0,1,7,8],[(0,0)]⟩,_,by rfl,hN1⟩
  ·refine uG (uO (uI ?_));cases hC1;cases hN1;exact uH ⟨⟨[],[(0,0)]⟩,_,rfl,by rfl⟩
 ·rintro _ ⟨v,rfl,rfl⟩;dsimp only at hC0⊢;refine uX (pN ?_);refine p8 FN ?_;refine pI ?_;cases hC0;exact⟨[(0,0)],by rfl,by rfl,by rfl⟩
attribute [irreducible] LL
def ON (O:(List pR)) (Z:(List UInt8)):Int→Option (Int⊕(Unit⊕Int)):=fun aA=>if (decide (aA<(O.length:Int)))=true then if 0≤aA∧aA<(O.length:Int) then if (!(Op.bytesLess ((pZ (.pair .str (.pair .str .unit)) O aA).1) Z||decide (((pZ (.pair .str (.pair .str .unit)) O aA).1)=Z)))=true then some (.inr (.inr (aA))) else if pB (aA+(1:Int)) then some (.inl (aA+(1:Int))) else none else none else some (.inr (.inl ()))
def LM (O:(List pR)) (Z:(List UInt8)):Option Int:=rZ (pU (ON O Z) (0:Int)) fun _=>some ((-1:Int))
section
variable (O:(List pR)) (Z:(List UInt8))
abbrev a2h:List pA:=[(.val (.list (.pair .str (.pair .str .unit))) O,none),(.val .clo (some (239,[(0,0)])),none)]
abbrev a2i:List p9:=[.cells .str Z []]
@[go_sem] def a2j:pF:=⟨[((LM O Z)).isSome=true],[(.val (.int .i64) (val (LM O Z)),none)],[.cells .str Z []]⟩
def aBP:List pA→List p9→Option pF:=qP (V:=((List pR)×(List UInt8))) (fun x=>a2h x.1) (fun x=>a2i x.2) fun x=>a2j x.1 x.2
@[go_sem] theorem aPe:aBP (no_index (a2h O)) (no_index (a2i Z))=some (a2j O Z):=qR (fun⟨a0,a1⟩ ⟨b0,b1⟩ h1 h2=>by cases h1;cases h2;rfl) (O,Z)
end
@[go_sem] abbrev aBQ:Nat×pY:=(238,⟨[.v,.f [(.str,[])]],aBP,[],[0],none⟩)
theorem FO:qE Tryz.prog [AW,E8] (qC [aBx]):=⟨⟨CF,⟨GU,trivial⟩⟩,pK aJQ qT,qH⟩
theorem aJX:qI Tryz.prog aBQ:=by
 refine qS FO Tryz.func238 (c:=_) rfl (N:=19) (by kernel_rfl) (ts:=[(4,none)]) rfl (fun _ _=>rfl) ?_;intro⟨O,Z⟩ hs hrow;dsimp only[a2h,a2i,a2j,qK,pM,pV,qG,qO,Nat.reduceAdd] at hs hrow⊢;have hz:=hs;obtain⟨z0,hC0⟩:=aQn.1 hz
 try rw[r8 hC0]
 clear hz hs;unfold LM at hC0;refine p8 FO ?_;refine pW ?_;refine p8 FO ?_;refine rI ?_;obtain⟨y1,hy1,hC0⟩:=zD hC0;refine uZ 0 (fun s=> ∃v,y1= .inl v∧s=(fun _=>⟨[],[(0,.cells .str Z [])],1,19,1⟩) v) ?_ ?_
 ·refine uY hy1 (fun x=>⟨[(0,(.val (.list (.pair .str (.pair .str .unit))) O,none)),(1,(.val .clo (some (239,[(0,0)])),none)),(7,(.val (.int .i64) (O.length:Int),none)),(8,(.val (.int .i64) x,none))],[(0,.cells .str Z [])],1,19,1⟩) ⟨[0,1,7,8],[(0,0)]⟩ (by rfl) ?_;intro aA w1 n1 hC1 hN1;unfold ON at hC1;dsimp only at hC1⊢;refine p8 FO ?_;refine pW ?_;refine pP hC1 (fun hC1 hc1=> ?_) (fun hC1 hc1=> ?_)
  ·refine qM (pN (pW (rI ?_)));refine p8 FO ?_;obtain⟨hg1,hC1⟩:=pG hC1;refine p8 FO ?_ (hp:=by exact⟨hg1,(by first|rfl|trivial)⟩)
   refine pP hC1 (fun hC1 hc2=> ?_) (fun hC1 hc2=> ?_)
   ·refine p8 FO ?_;refine pI (rM (rF (yI (yH (rM (rF ?_))))));cases hC1;cases hN1;dsimp only at hC0;cases hC0;exact⟨[(0,0)],by rfl,by rfl,by rfl⟩
   ·refine qM (qV (pN ?_));obtain⟨hg2,hC1⟩:=pG hC1;refine qU FO ?_ (hp:=by exact hg2);cases hC1;exact sM ⟨⟨[0,1,7,8],[(0,0)]⟩,_,by rfl,hN1⟩
  ·refine uG (uO (uI ?_));cases hC1;cases hN1;exact uH ⟨⟨[],[(0,0)]⟩,_,rfl,by rfl⟩
 ·rintro _ ⟨v,rfl,rfl⟩;dsimp only at hC0⊢;refine uX (pN ?_);refine p8 FO ?_;refine pI ?_;cases hC0;exact⟨[(0,0)],by rfl,by rfl,by rfl⟩
attribute [irreducible] LM
def OO (O:(List UInt8)) (Z:Bool):Nat→Option (Nat⊕(Unit⊕Int)):=fun aA=>if (decide (aA<O.length))=true then if (decide (aA<O.length))=true then if (decide (aA<O.length))=true then if (((decide ((127:Int)<(tJ O aA)))||(((((!(((decide ((97:Int)≤(IntKind.wrap .u8 (tJ O aA))))&&(decide ((IntKind.wrap .u8 (tJ O aA))≤(122:Int))))||((decide ((65:Int)≤(IntKind.wrap .u8 (tJ O aA))))&&(decide ((IntKind.wrap .u8 (tJ O aA))≤(90:Int))))))&&((decide ((tJ O aA)<(48:Int)))||(decide ((57:Int)<(tJ O aA)))))&&(!decide ((tJ O aA)=(45:Int))))&&(!decide ((tJ O aA)=(95:Int))))&&(!decide ((tJ O aA)=(46:Int)))))==Z)=true then some (.inr (.inr (((aA:Nat):Int)))) else some (.inl (yX O aA)) else none else none else some (.inr (.inl ()))
def LN (O:(List UInt8)) (Z:Bool):Option Int:=rZ (pU (OO O Z) 0) fun _=>some ((-1:Int))
section
variable (O:(List UInt8)) (Z:Bool)
abbrev a2k:List pA:=[(.val .str O,none),(.val .clo (some (122,[])),none),(.val .bool Z,none)]
abbrev a2l:List p9:=[]
@[go_sem] def a2m:pF:=⟨[((LN O Z)).isSome=true],[(.val (.int .i64) (val (LN O Z)),none)],[]⟩
def aBR:List pA→List p9→Option pF:=qP (V:=((List UInt8)×Bool)) (fun x=>a2k x.1 x.2) (fun x=>a2l) fun x=>a2m x.1 x.2
@[go_sem] theorem aPf:aBR (no_index (a2k O Z)) (no_index a2l)=some (a2m O Z):=qR (fun⟨a0,a1⟩ ⟨b0,b1⟩ h1 h2=>by cases h1;cases h2;rfl) (O,Z)
end
@[go_sem] abbrev aBS:Nat×pY:=(175,⟨[.v,.v,.v],aBR,[],[],none⟩)
theorem GZ:qE Tryz.prog [E9,rR] (qC [aAU]):=⟨⟨GV,⟨rU,trivial⟩⟩,pK aJE qT,qH⟩
theorem aJY:qI Tryz.prog aBS:=by
 refine qS GZ Tryz.func175 (c:=_) rfl (N:=21) (by kernel_rfl) (ts:=[(6,none)]) rfl (fun _ _=>rfl) ?_;intro⟨O,Z⟩ hs hrow;dsimp only[a2k,a2l,a2m,qK,pM,pV,qG,qO,Nat.reduceAdd] at hs hrow⊢;have hz:=hs;obtain⟨z0,hC0⟩:=aQn.1 hz
 try rw[r8 hC0]
 clear hz hs;unfold LN at hC0;refine p8 GZ ?_;refine pW ?_;refine p8 GZ ?_;refine rI ?_;obtain⟨y1,hy1,hC0⟩:=zD hC0;refine uZ 0 (fun s=> ∃v,y1= .inl v∧s=(fun _=>⟨[],[],0,21,0⟩) v) ?_ ?_
 ·refine uY hy1 (fun x=>⟨[(1,(.val .clo (some (122,[])),none)),(2,(.val .bool Z,none)),(10,(.val .ref (some (0,0)),none))],[(0,.iter O x)],1,21,0⟩) ⟨[1,2,10],[(0,64)]⟩ (by rfl) ?_;intro aA w1 n1 hC1 hN1;unfold OO at hC1;dsimp only at hC1⊢;refine p8 GZ ?_;refine pW ?_;refine pP hC1 (fun hC1 hc1=> ?_) (fun hC1 hc1=> ?_)
  ·refine qM (pN (rI ?_));obtain⟨hg1,hC1⟩:=pG hC1;obtain⟨hg2,hC1⟩:=pG hC1;refine p8 GZ ?_ (hp:=by exact⟨hg1,hg2⟩);refine p8 GZ ?_;refine pP hC1 (fun hC1 hc2=> ?_) (fun hC1 hc2=> ?_)
   ·refine p8 GZ ?_;refine pI (rM (yI (yH (rM (rF ?_)))));cases hC1;cases hN1;dsimp only at hC0;cases hC0;exact⟨[],by rfl,by rfl,by rfl⟩
   ·refine qM (qV ?_);cases hC1;exact sM ⟨⟨[1,2,10],[(0,0)]⟩,_,by rfl,hN1⟩
  ·refine uG (uO (uI ?_));cases hC1;cases hN1;exact uH ⟨⟨[],[]⟩,_,rfl,by rfl⟩
 ·rintro _ ⟨v,rfl,rfl⟩;dsimp only at hC0⊢;refine uX (pN ?_);refine p8 GZ ?_;refine pI ?_;cases hC0;exact⟨[],by rfl,by rfl,by rfl⟩
attribute [irreducible] LN
end
noncomputable section
def J6 (O:(List UInt8)):Option Int:=(LN O true).bind fun Z=>some (Z)
section
variable (O:(List UInt8))
abbrev a2n:List pA:=[(.val .str O,none),(.val .clo (some (122,[])),none)]
abbrev a2o:List p9:=[]
@[go_sem] def a2p:pF:=⟨[((J6 O)).isSome=true],[(.val (.int .i64) (val (J6 O)),none)],[]⟩
def aBT:List pA→List p9→Option pF:=qP (V:=(List UInt8)) (fun x=>a2n x) (fun x=>a2o) fun x=>a2p x
@[go_sem] theorem aPg:aBT (no_index (a2n O)) (no_index a2o)=some (a2p O):=qR (fun a0 b0 h1 h2=>by cases h1;cases h2;rfl) O
end
@[go_sem] abbrev aBU:Nat×pY:=(121,⟨[.v,.v],aBT,[],[],none⟩)
theorem a2q:qE Tryz.prog [] (qC [aBS]):=⟨trivial,pK aJY qT,qH⟩
theorem aJZ:qI Tryz.prog aBU:=by
 refine qS a2q Tryz.func121 (c:=_) rfl (N:=8) (by kernel_rfl) (ts:=[(4,none)]) rfl (fun _ _=>rfl) ?_;intro O hs hrow;dsimp only[a2n,a2o,a2p,qK,pM,pV,qG,qO,Nat.reduceAdd] at hs hrow⊢;have hz:=hs;obtain⟨z0,hC0⟩:=aQn.1 hz
 try rw[r8 hC0]
 clear hz hs;unfold J6 at hC0;refine p8 a2q ?_;obtain⟨Z,hv1,hw1,hC0⟩:=pT hC0
 try simp only[go_sem] at hw1
 refine p8 a2q ?_ (hp:=by exact(pS hv1)) (h:=by simp only[go_sem,hw1];rfl);refine pI ?_;cases hC0;exact⟨[],by rfl,by rfl,by rfl⟩
attribute [irreducible] J6
def TZ:(Int×List UInt8)→(List Int)→Option ((List Int)⊕(List UInt8)):=fun O Z=>(CH (Z,()) O.2).bind fun aA=>some (.inl (Z++sE O.2))
def H0 (O:tW):Option (List UInt8):=if List.length O.2.1≤4611686018427387904 then rZ (D4 (TZ) (BP O) ([]:List Int)) fun Z=>some ((rW Z)) else none
section
variable (O:tW)
abbrev a2r:List pA:=[(.val vW O,none)]
abbrev a2s:List p9:=[]
@[go_sem] def a2t:pF:=⟨[((H0 O)).isSome=true],[(.val .str (val (H0 O)),none)],[]⟩
def aBV:List pA→List p9→Option pF:=qP (V:=tW) (fun x=>a2r x) (fun x=>a2s) fun x=>a2t x
@[go_sem] theorem aPh:aBV (no_index (a2r O)) (no_index a2s)=some (a2t O):=qR (fun a0 b0 h1 h2=>by cases h1;cases h2;rfl) O
end
@[go_sem] abbrev a2u:Nat×pY:=(25,⟨[.v],aBV,[],[],none⟩)
theorem J7:qE Tryz.prog [FC,FE] (qC [aAH,TJ,OB]):=⟨⟨IV,⟨IY,trivial⟩⟩,pK aJC (pK a0d (pK TF qT)),qH⟩
theorem aBW:qI Tryz.prog a2u:=by
 refine qS J7 Tryz.func25 (c:=_) rfl (N:=13) (by kernel_rfl) (ts:=[(2,none)]) rfl (fun _ _=>rfl) ?_;intro O hs hrow;dsimp only[a2r,a2s,a2t,qK,pM,pV,qG,qO,Nat.reduceAdd] at hs hrow⊢;have hz:=hs;obtain⟨z0,hC0⟩:=aQn.1 hz
 try rw[r8 hC0]
 clear hz hs;unfold H0 at hC0;refine p8 J7 ?_;refine p8 J7 ?_;refine pW ?_;refine p8 J7 ?_;refine rI ?_;obtain⟨hgF2,hC0⟩:=pG hC0;obtain⟨y1,hy1,hC0⟩:=zD hC0;refine aI7 aJf aJa (by rfl) (by rfl) hgF2 hy1 [(3,(.val .ref (some (0,0)),none))] (fun Z=>[(3,(.val .ref (some (0,0)),none)),(5,(.val .str Z.2,none))]) (fun x=>[.cells wD ((some (0,0)),(x,())) [(1,1)],.grow 5 1 (x.length)]) 1 ⟨[3],[(0,64),(1,65)]⟩ (by rfl) (by rfl) (by rfl) (by rfl) (aSa (by rfl)) (fun _=>aSa rfl) (fun _=>by rfl) (fun _=>rfl) (by rfl) ?_ ?_
 ·intro Z aA w1 hC1 hN1;refine⟨?_,?_⟩
  ·dsimp only[O5,aAf,sK,pM,pV,Nat.reduceAdd,List.toList_toArray];refine qU J7 ?_;exact aI8 ⟨[3,5],[(0,0),(1,1)]⟩ (by rfl)
  ·unfold TZ at hC1;dsimp only[pM,pV,Nat.reduceAdd] at hC1⊢;refine rI ?_;obtain⟨aB,hv1,hw1,hC1⟩:=pT hC1
   try simp only[go_sem] at hw1
   refine qU J7 ?_ (hp:=by exact⟨by first|rfl|trivial,(pS hv1)⟩) (h:=by simp only[go_sem,hw1];rfl)
   refine qV ?_;cases hC1;exact aI9 ⟨[],[(0,0),(1,1)]⟩ _ rfl (by rfl)
 ·rintro aA rfl;dsimp only[pM,pV,Nat.reduceAdd] at hC0⊢;refine qV (pN ?_);refine p8 J7 ?_ (hp:=by first|rfl|trivial)
  refine pI ?_;cases hC0;exact⟨[],by rfl,by rfl,by rfl⟩
attribute [irreducible] H0
end
noncomputable section
def OP (O:tW) (Z:tW):((List (Int×((List UInt8)×Unit)))×Int)→Option (((List (Int×((List UInt8)×Unit)))×Int)⊕(List (Int×((List UInt8)×Unit)))):=fun(aA,aB)=>if (decide (aB<(((([O.1]:List (List UInt8))++O.2.1)++([O.2.2.1]:List (List UInt8))).length:Int)))=true then if 0≤aB∧aB<(((([O.1]:List (List UInt8))++O.2.1)++([O.2.2.1]:List (List UInt8))).length:Int) then if 0≤aB∧aB<(((([Z.1]:List (List UInt8))++Z.2.1)++([Z.2.2.1]:List (List UInt8))).length:Int) then if (!decide ((pZ .str ((([O.1]:List (List UInt8))++O.2.1)++([O.2.2.1]:List (List UInt8))) aB)=(pZ .str ((([Z.1]:List (List UInt8))++Z.2.1)++([Z.2.2.1]:List (List UInt8))) aB)))=true then if 0≤aB∧aB<(((([O.1]:List (List UInt8))++O.2.1)++([O.2.2.1]:List (List UInt8))).length:Int) then if (aA.length+([(aB,((pZ .str ((([O.1]:List (List UInt8))++O.2.1)++([O.2.2.1]:List (List UInt8))) aB),()))]:List (Int×((List UInt8)×Unit))).length)*24≤140737488355328 then if pB (aB+(1:Int)) then some (.inl ((aA++([(aB,((pZ .str ((([O.1]:List (List UInt8))++O.2.1)++([O.2.2.1]:List (List UInt8))) aB),()))]:List (Int×((List UInt8)×Unit)))),(aB+(1:Int)))) else none else none else none else if pB (aB+(1:Int)) then some (.inl (aA,(aB+(1:Int)))) else none else none else none else some (.inr aA)
def FP (O:tW) (Z:tW):Option ((List (Int×((List UInt8)×Unit)))×Int):=if (!decide ((O.2.1.length:Int)=(Z.2.1.length:Int)))=true then some ((([]:List (Int×((List UInt8)×Unit))),(1:Int))) else (J1 O).bind fun aA=>(J1 Z).bind fun aB=>qZ (pU (OP O Z) (([]:List (Int×((List UInt8)×Unit))),(0:Int))) fun aC=>some ((aC,(0:Int)))
section
variable (O:tW) (Z:tW)
abbrev a2v:List pA:=[(.val vW O,none),(.val vW Z,none)]
abbrev a2w:List p9:=[]
@[go_sem] def a2x:pF:=⟨[((FP O Z)).isSome=true],[(.val (.list O7) ((val (FP O Z)).1),some 0),(.val (.int .i64) ((val (FP O Z)).2),none)],[.grow 122 2 (((val (FP O Z)).1).length)]⟩
def aBX:List pA→List p9→Option pF:=qP (V:=(tW×tW)) (fun x=>a2v x.1 x.2) (fun x=>a2w) fun x=>a2x x.1 x.2
@[go_sem] theorem aPi:aBX (no_index (a2v O Z)) (no_index a2w)=some (a2x O Z):=qR (fun⟨a0,a1⟩ ⟨b0,b1⟩ h1 h2=>by cases h1;cases h2;rfl) (O,Z)
end
@[go_sem] abbrev aBY:Nat×pY:=(49,⟨[.v,.v],aBX,[],[],none⟩)
theorem BS:qE Tryz.prog [rR,vX,L5,TC,ZM] (qC [aAK]):=⟨⟨rU,⟨wP,⟨T4,⟨aAr,⟨aJr,trivial⟩⟩⟩⟩⟩,pK aJD qT,qH⟩
theorem aJ0:qI Tryz.prog aBY:=by
 refine qS BS Tryz.func49 (c:=_) rfl (N:=46) (by kernel_rfl) (ts:=[(4,none),(5,none)]) rfl (fun _ _=>rfl) ?_;intro⟨O,Z⟩ hs hrow;dsimp only[a2v,a2w,a2x,qK,pM,pV,qG,qO,Nat.reduceAdd] at hs hrow⊢;have hz:=hs;obtain⟨z0,hC0⟩:=aQn.1 hz
 try rw[r8 hC0]
 clear hz hs;unfold FP at hC0;refine p8 BS ?_;refine pW ?_;refine p8 BS ?_;refine pP hC0 (fun hC0 hc1=> ?_) (fun hC0 hc1=> ?_)
 ·refine p8 BS ?_;refine pI (rF ?_);cases hC0;exact⟨[(0,352)],by rfl,by rfl,by rfl⟩
 ·refine qM (pN ?_);refine p8 BS ?_;obtain⟨aA,hv1,hw1,hC0⟩:=pT hC0
  try simp only[go_sem] at hw1
  obtain⟨aB,hv2,hw2,hC0⟩:=pT hC0
  try simp only[go_sem] at hw2
  refine xU BS ?_ (hp:=by exact⟨pS hv1,(pS hv2)⟩) (h:=by simp only[go_sem,hw1,hw2];rfl);refine pW ?_;refine p8 BS ?_;refine rI ?_;obtain⟨aC,hy1,hC0⟩:=pD hC0;refine uZ 0 (fun s=>s=(fun x=>⟨[(6,(.val (.list O7) x,some 0))],[(0,.grow 122 2 (x.length))],1,46,0⟩) aC) ?_ ?_
  ·refine uY hy1 (fun x=>⟨[(6,(.val (.list O7) x.1,some 0)),(7,(.val (.list .str) ((([O.1]:List (List UInt8))++O.2.1)++([O.2.2.1]:List (List UInt8))),some 1)),(8,(.val (.list .str) ((([Z.1]:List (List UInt8))++Z.2.1)++([Z.2.2.1]:List (List UInt8))),some 2)),(9,(.val (.int .i64) x.2,none))],[(0,.grow 122 2 (x.1.length)),(1,.grow 9 1 (((([O.1]:List (List UInt8))++O.2.1)++([O.2.2.1]:List (List UInt8))).length)),(2,.grow 9 1 (((([Z.1]:List (List UInt8))++Z.2.1)++([Z.2.2.1]:List (List UInt8))).length))],3,46,0⟩) ⟨[6,7,8,9],[(0,352),(1,416),(2,480)]⟩ (by rfl) ?_;intro x1 w1 n1 hC1 hN1;obtain⟨aD,aE⟩:=x1;unfold OP at hC1;dsimp only at hC1⊢;refine pW ?_;refine p8 BS ?_;refine pP hC1 (fun hC1 hc2=> ?_) (fun hC1 hc2=> ?_)
   ·refine qM (pN (pW (rI ?_)));obtain⟨hg3,hC1⟩:=pG hC1;obtain⟨hg4,hC1⟩:=pG hC1;refine xU BS ?_ (hp:=by exact⟨hg3,hg4⟩);refine pP hC1 (fun hC1 hc3=> ?_) (fun hC1 hc3=> ?_)
    ·obtain⟨hg5,hC1⟩:=pG hC1;obtain⟨hg6,hC1⟩:=pG hC1;refine qU BS ?_ (hp:=by exact⟨hg5,by first|rfl|trivial,hg6⟩)
     refine qV (pN ?_);obtain⟨hg7,hC1⟩:=pG hC1;refine qU BS ?_ (hp:=by exact hg7);cases hC1;exact sM ⟨⟨[6,7,8,9],[(0,0),(1,1),(2,2)]⟩,_,by rfl,hN1⟩
    ·refine qM (qV (pN ?_));obtain⟨hg8,hC1⟩:=pG hC1;refine qU BS ?_ (hp:=by exact hg8);cases hC1;exact sM ⟨⟨[6,7,8,9],[(0,0),(1,1),(2,2)]⟩,_,by rfl,hN1⟩
   ·refine uG (uO (uI ?_));cases hC1;cases hN1;exact uH ⟨⟨[6],[(0,0)]⟩,by rfl⟩
  ·rintro _ rfl;dsimp only at hC0⊢;refine uX (pN ?_);refine p8 BS ?_;refine pI ?_;cases hC0;exact⟨[(0,0)],by rfl,by rfl,by rfl⟩
attribute [irreducible] FP
def OQ (O:(List UInt8)):Int→Option (Int⊕Int):=fun Z=>if (((decide (Z<(O.length:Int)))==true)=true→0≤Z∧Z<(O.length:Int)) then if ((decide (Z<(O.length:Int)))&&(!decide ((pL O Z)=(10:Int))))=true then if pB (Z+(1:Int)) then some (.inl (Z+(1:Int))) else none else some (.inr Z) else none
def OR (O:(List UInt8)):Int→Option (Int⊕Int):=fun Z=>if (((decide (Z<(O.length:Int)))==true)=true→((LB O Z ([42,47]:List UInt8))).isSome=true) then if ((decide (Z<(O.length:Int)))&&(!((decide ((([42,47]:List UInt8).length:Int)≤((O.length:Int)-Z)))&&(decide ((pH O Z (Z+(([42,47]:List UInt8).length:Int)))=([42,47]:List UInt8))))))=true then if pB (Z+(1:Int)) then some (.inl (Z+(1:Int))) else none else some (.inr Z) else none
def J8 (O:(List UInt8)):Int→Option (Int⊕(Int⊕Int)):=fun Z=>if (decide (Z<(O.length:Int)))=true then if 0≤Z∧Z<(O.length:Int) then if (((decide ((pL O Z)=(32:Int)))==false)=true→0≤Z∧Z<(O.length:Int)) then if ((((decide ((pL O Z)=(32:Int)))||(decide ((pL O Z)=(9:Int))))==false)=true→0≤Z∧Z<(O.length:Int)) then if (((((decide ((pL O Z)=(32:Int)))||(decide ((pL O Z)=(9:Int))))||(decide ((pL O Z)=(10:Int))))==false)=true→0≤Z∧Z<(O.length:Int)) then if ((((decide ((pL O Z)=(32:Int)))||(decide ((pL O Z)=(9:Int))))||(decide ((pL O Z)=(10:Int))))||(decide ((pL O Z)=(13:Int))))=true then if pB (Z+(1:Int)) then some (.inl (Z+(1:Int))) else none else (LB O Z ([47,47]:List UInt8)).bind fun aA=>if ((decide ((([47,47]:List UInt8).length:Int)≤((O.length:Int)-Z)))&&(decide ((pH O Z (Z+(([47,47]:List UInt8).length:Int)))=([47,47]:List UInt8))))=true then qZ (pU (OQ O) Z) fun aB=>some (.inl aB) else (LB O Z ([47,42]:List UInt8)).bind fun aC=>if ((decide ((([47,42]:List UInt8).length:Int)≤((O.length:Int)-Z)))&&(decide ((pH O Z (Z+(([47,42]:List UInt8).length:Int)))=([47,42]:List UInt8))))=true then if pB (Z+(2:Int)) then qZ (pU (OR O) (Z+(2:Int))) fun aD=>if (decide ((O.length:Int)≤aD))=true then some (.inr (.inr (Z))) else if pB (aD+(2:Int)) then some (.inl (aD+(2:Int))) else none else none else some (.inr (.inr (Z))) else none else none else none else none else some (.inr (.inl Z))
def LO (O:(List UInt8)) (Z:Int):Option Int:=rZ (pU (J8 O) Z) fun aA=>some (aA)
attribute [irreducible] LO
end
noncomputable section
def U0 (O:(List UInt8)):Int→Option (Int⊕(Unit⊕Bool)):=fun Z=>if (decide (Z<(O.length:Int)))=true then if 0≤Z∧Z<(O.length:Int) then if ((((!((decide ((97:Int)≤(pL O Z)))&&(decide ((pL O Z)≤(122:Int)))))&&(!((decide ((48:Int)≤(pL O Z)))&&(decide ((pL O Z)≤(57:Int))))))&&(!decide ((pL O Z)=(45:Int))))&&((decide ((pL O Z)<(65:Int)))||(decide ((90:Int)<(pL O Z)))))=true then some (.inr (.inr (false))) else if pB (Z+(1:Int)) then some (.inl (Z+(1:Int))) else none else none else some (.inr (.inl ()))
def J9 (O:(List UInt8)):Option Bool:=rZ (pU (U0 O) (0:Int)) fun _=>some (((decide ((1:Int)≤(O.length:Int)))&&(decide ((O.length:Int)≤(40:Int)))))
attribute [irreducible] J9
def U1 (O:(List UInt8)):Int→Option (Int⊕(Unit⊕Bool)):=fun Z=>if (decide (Z<(O.length:Int)))=true then if 0≤Z∧Z<(O.length:Int) then if (((((!((decide ((97:Int)≤(pL O Z)))&&(decide ((pL O Z)≤(122:Int)))))&&(!((decide ((48:Int)≤(pL O Z)))&&(decide ((pL O Z)≤(57:Int))))))&&(!decide ((pL O Z)=(45:Int))))&&(!decide ((pL O Z)=(95:Int))))&&(!decide ((pL O Z)=(46:Int))))=true then some (.inr (.inr (false))) else if pB (Z+(1:Int)) then some (.inl (Z+(1:Int))) else none else none else some (.inr (.inl ()))
def OS (O:(List UInt8)):Option Bool:=if ((((decide ((O.length:Int)<(1:Int)))||(decide ((40:Int)<(O.length:Int))))==false)=true→0≤(0:Int)∧(0:Int)<(O.length:Int)) then if (((decide ((O.length:Int)<(1:Int)))||(decide ((40:Int)<(O.length:Int))))||(!((decide ((97:Int)≤(pL O (0:Int))))&&(decide ((pL O (0:Int))≤(122:Int))))))=true then some (false) else rZ (pU (U1 O) (1:Int)) fun _=>some (true) else none
attribute [irreducible] OS
def JA (O:(List UInt8)) (Z:(List UInt8)):Option Unit:=(LG O Z).bind fun aA=>some (())
section
variable (O:(List UInt8)) (Z:(List UInt8))
abbrev a2y:List pA:=[(.val .str O,none),(.val .str Z,none)]
abbrev a2z:List p9:=[]
@[go_sem] def a2A:pF:=⟨[((JA O Z)).isSome=true],[(.val .bool ((decide ((Z.length:Int)≤(O.length:Int)))&&(decide ((pH O (0:Int) (Z.length:Int))=Z))),none)],[]⟩
def aBZ:List pA→List p9→Option pF:=qP (V:=((List UInt8)×(List UInt8))) (fun x=>a2y x.1 x.2) (fun x=>a2z) fun x=>a2A x.1 x.2
@[go_sem] theorem aPj:aBZ (no_index (a2y O Z)) (no_index a2z)=some (a2A O Z):=qR (fun⟨a0,a1⟩ ⟨b0,b1⟩ h1 h2=>by cases h1;cases h2;rfl) (O,Z)
end
@[go_sem] abbrev aB0:Nat×pY:=(136,⟨[.v,.v],aBZ,[],[],none⟩)
theorem a2B:qE Tryz.prog [] (qC [a1e]):=⟨trivial,pK aBf qT,qH⟩
theorem aJ1:qI Tryz.prog aB0:=by
 refine qS a2B Tryz.func136 (c:=_) rfl (N:=8) (by kernel_rfl) (ts:=[(4,none)]) rfl (fun _ _=>rfl) ?_;intro⟨O,Z⟩ hs hrow;dsimp only[a2y,a2z,a2A,qK,pM,pV,qG,qO,Nat.reduceAdd] at hs hrow⊢;have hz:=hs;obtain⟨z0,hC0⟩:=aQn.1 hz
 try rw[r8 hC0]
 clear hz hs;unfold JA at hC0;refine p8 a2B ?_;obtain⟨aA,hv1,hw1,hC0⟩:=pT hC0
 try simp only[go_sem] at hw1
 refine p8 a2B ?_ (hp:=by exact(pS hv1)) (h:=by simp only[go_sem,hw1];rfl);refine pI ?_;cases hC0;exact⟨[],by rfl,by rfl,by rfl⟩
attribute [irreducible] JA
def JB (O:(List UInt8)) (Z:(List UInt8)):Option ((List UInt8)×Bool):=(LH O Z).bind fun aA=>some ((aA.1,aA.2))
section
variable (O:(List UInt8)) (Z:(List UInt8))
abbrev a2C:List pA:=[(.val .str O,none),(.val .str Z,none)]
abbrev a2D:List p9:=[]
@[go_sem] def a2E:pF:=⟨[((JB O Z)).isSome=true],[(.val .str ((val (JB O Z)).1),none),(.val .bool ((val (JB O Z)).2),none)],[]⟩
def aB1:List pA→List p9→Option pF:=qP (V:=((List UInt8)×(List UInt8))) (fun x=>a2C x.1 x.2) (fun x=>a2D) fun x=>a2E x.1 x.2
@[go_sem] theorem aPk:aB1 (no_index (a2C O Z)) (no_index a2D)=some (a2E O Z):=qR (fun⟨a0,a1⟩ ⟨b0,b1⟩ h1 h2=>by cases h1;cases h2;rfl) (O,Z)
end
@[go_sem] abbrev aB2:Nat×pY:=(137,⟨[.v,.v],aB1,[],[],none⟩)
theorem a2F:qE Tryz.prog [] (qC [aBh]):=⟨trivial,pK aJK qT,qH⟩
theorem aJ2:qI Tryz.prog aB2:=by
 refine qS a2F Tryz.func137 (c:=_) rfl (N:=11) (by kernel_rfl) (ts:=[(4,none),(5,none)]) rfl (fun _ _=>rfl) ?_;intro⟨O,Z⟩ hs hrow;dsimp only[a2C,a2D,a2E,qK,pM,pV,qG,qO,Nat.reduceAdd] at hs hrow⊢;have hz:=hs;obtain⟨z0,hC0⟩:=aQn.1 hz
 try rw[r8 hC0]
 clear hz hs;unfold JB at hC0;refine p8 a2F ?_;obtain⟨aA,hv1,hw1,hC0⟩:=pT hC0
 try simp only[go_sem] at hw1
 refine p8 a2F ?_ (hp:=by exact(pS hv1)) (h:=by simp only[go_sem,hw1];rfl);refine pI ?_;cases hC0;exact⟨[],by rfl,by rfl,by rfl⟩
attribute [irreducible] JB
def aB3 (O:Int) (Z:(List UInt8)) (aA:Int):Int→Option (Int⊕(Unit⊕Int)):=fun aB=>if (decide (aB<(Z.length:Int)))=true then if 0≤aB∧aB<(Z.length:Int) then if (decide ((pL Z aB)=aA))=true then some (.inr (.inr (aB))) else if (((!decide (O=(4:Int)))==true)=true→0≤aB∧aB<(Z.length:Int)) then if ((!decide (O=(4:Int)))&&(decide ((pL Z aB)=(92:Int))))=true then if pB (aB+(1:Int)) then if pB ((aB+(1:Int))+(1:Int)) then some (.inl ((aB+(1:Int))+(1:Int))) else none else none else if pB (aB+(1:Int)) then some (.inl (aB+(1:Int))) else none else none else none else some (.inr (.inl ()))
def JC (O:Int) (Z:(List UInt8)) (aA:Int):Option Int:=if (!((decide ((1:Int)≤O))&&(decide (O≤(4:Int)))))=true then some ((-1:Int)) else rZ (pU (aB3 O Z aA) (0:Int)) fun _=>some ((-1:Int))
section
variable (O:Int) (Z:(List UInt8)) (aA:Int)
abbrev a2G:List pA:=[(.val (.int .i64) O,none),(.val .str Z,none),(.val (.int .u8) aA,none)]
abbrev a2H:List p9:=[]
@[go_sem] def a2I:pF:=⟨[((JC O Z aA)).isSome=true],[(.val (.int .i64) (val (JC O Z aA)),none)],[]⟩
def aB4:List pA→List p9→Option pF:=qP (V:=(Int×(List UInt8)×Int)) (fun x=>a2G x.1 x.2.1 x.2.2) (fun x=>a2H) fun x=>a2I x.1 x.2.1 x.2.2
@[go_sem] theorem aPl:aB4 (no_index (a2G O Z aA)) (no_index a2H)=some (a2I O Z aA):=qR (fun⟨a0,a1,a2⟩ ⟨b0,b1,b2⟩ h1 h2=>by cases h1;cases h2;rfl) (O,Z,aA)
end
@[go_sem] abbrev aB5:Nat×pY:=(139,⟨[.v,.v,.v],aB4,[],[],none⟩)
theorem BT:qE Tryz.prog [rR] (qC [TL]):=⟨⟨rU,trivial⟩,pK a0S qT,qH⟩
theorem aJ3:qI Tryz.prog aB5:=by
 refine qS BT Tryz.func139 (c:=_) rfl (N:=33) (by kernel_rfl) (ts:=[(6,none)]) rfl (fun _ _=>rfl) ?_;intro⟨O,Z,aA⟩ hs hrow;dsimp only[a2G,a2H,a2I,qK,pM,pV,qG,qO,Nat.reduceAdd] at hs hrow⊢;have hz:=hs;obtain⟨z0,hC0⟩:=aQn.1 hz
 try rw[r8 hC0]
 clear hz hs;unfold JC at hC0;refine p8 BT ?_;refine pW ?_;refine p8 BT ?_;refine pP hC0 (fun hC0 hc1=> ?_) (fun hC0 hc1=> ?_)
 ·refine p8 BT ?_;refine pI (rF ?_);cases hC0;exact⟨[],by rfl,by rfl,by rfl⟩
 ·refine qM (pN (pW ?_));refine p8 BT ?_;refine rI ?_;obtain⟨y1,hy1,hC0⟩:=zD hC0;refine uZ 0 (fun s=> ∃v,y1= .inl v∧s=(fun _=>⟨[],[],0,33,0⟩) v) ?_ ?_
  ·refine uY hy1 (fun x=>⟨[(0,(.val (.int .i64) O,none)),(1,(.val .str Z,none)),(2,(.val (.int .u8) aA,none)),(7,(.val (.int .i64) x,none))],[],0,33,0⟩) ⟨[0,1,2,7],[]⟩ (by rfl) ?_;intro aB w1 n1 hC1 hN1;unfold aB3 at hC1;dsimp only at hC1⊢;refine pW ?_;refine p8 BT ?_;refine pP hC1 (fun hC1 hc2=> ?_) (fun hC1 hc2=> ?_)
   ·refine qM (pN (pW (rI (pW ?_))));obtain⟨hg1,hC1⟩:=pG hC1;refine p8 BT ?_ (hp:=by exact hg1);refine pP hC1 (fun hC1 hc3=> ?_) (fun hC1 hc3=> ?_)
    ·refine p8 BT ?_;refine pI (rF (rM (rF (yI (yH (rM (rF ?_)))))));cases hC1;cases hN1;dsimp only at hC0;cases hC0;exact⟨[],by rfl,by rfl,by rfl⟩
    ·refine qM (pN ?_);obtain⟨hg2,hC1⟩:=pG hC1;refine p8 BT ?_ (hp:=by exact⟨fun hh=>hh,fun hh=>hh,hg2,fun hh=>hh,(fun hh=>sH hh)⟩);refine pP hC1 (fun hC1 hc4=> ?_) (fun hC1 hc4=> ?_)
     ·obtain⟨hg3,hC1⟩:=pG hC1;refine qU BT ?_ (hp:=by exact hg3);refine qV (pN ?_);obtain⟨hg4,hC1⟩:=pG hC1;refine qU BT ?_ (hp:=by exact hg4);cases hC1;exact sM ⟨⟨[0,1,2,7],[]⟩,_,by rfl,hN1⟩
     ·refine qM (qV (pN ?_));obtain⟨hg5,hC1⟩:=pG hC1;refine qU BT ?_ (hp:=by exact hg5);cases hC1;exact sM ⟨⟨[0,1,2,7],[]⟩,_,by rfl,hN1⟩
   ·refine uG (uO (uI ?_));cases hC1;cases hN1;exact uH ⟨⟨[],[]⟩,_,rfl,by rfl⟩
  ·rintro _ ⟨v,rfl,rfl⟩;dsimp only at hC0⊢;refine uX (pN ?_);refine p8 BT ?_;refine pI ?_;cases hC0;exact⟨[],by rfl,by rfl,by rfl⟩
attribute [irreducible] JC
def DB (O:(List UInt8)):Option Unit:=if (((decide ((O.length:Int)≤(4000:Int)))==true)=true→((OI O)).isSome=true) then some (()) else none
section
variable (O:(List UInt8))
abbrev a2J:List pA:=[(.val .str O,none)]
abbrev a2K:List p9:=[]
@[go_sem] def a2L:pF:=⟨[((DB O)).isSome=true],[(.val .bool ((decide ((O.length:Int)≤(4000:Int)))&&(Lib.validD O)),none)],[]⟩
def aB6:List pA→List p9→Option pF:=qP (V:=(List UInt8)) (fun x=>a2J x) (fun x=>a2K) fun x=>a2L x
@[go_sem] theorem aPm:aB6 (no_index (a2J O)) (no_index a2K)=some (a2L O):=qR (fun a0 b0 h1 h2=>by cases h1;cases h2;rfl) O
end
@[go_sem] abbrev OT:Nat×pY:=(161,⟨[.v],aB6,[],[],none⟩)
theorem a2M:qE Tryz.prog [rR] (qC [aBl]):=⟨⟨rU,trivial⟩,pK aJL qT,qH⟩
theorem U2:qI Tryz.prog OT:=by
 refine qS a2M Tryz.func161 (c:=_) rfl (N:=10) (by kernel_rfl) (ts:=[(2,none)]) rfl (fun _ _=>rfl) ?_;intro O hs hrow;dsimp only[a2J,a2K,a2L,qK,pM,pV,qG,qO,Nat.reduceAdd] at hs hrow⊢;have hz:=hs;obtain⟨z0,hC0⟩:=aQn.1 hz
 try rw[r8 hC0]
 clear hz hs;unfold DB at hC0;refine p8 a2M ?_;obtain⟨hg1,hC0⟩:=pG hC0;refine p8 a2M ?_ (hp:=by exact⟨fun hh=>hh,hg1,(fun hh=>sH hh)⟩);refine pI ?_;cases hC0;exact⟨[],by rfl,by rfl,by rfl⟩
attribute [irreducible] DB
end
noncomputable section
def FQ (O:Int) (Z:Int) (aA:Bool):Option (List UInt8):=qZ (σ:=(List UInt8)) (if (decide (O=(1:Int)))=true then some (([61,58,35,33]:List UInt8)) else if (decide (O=(2:Int)))=true then some (([34]:List UInt8)) else if (decide (O=(3:Int)))=true then some (([34,123,125]:List UInt8)) else some (([]:List UInt8)) ) fun aB=>if (decide (Z=(92:Int)))=true then some (([92,92]:List UInt8)) else if (decide (Z=(10:Int)))=true then some (([92,110]:List UInt8)) else if (decide (Z=(13:Int)))=true then some (([92,114]:List UInt8)) else if (decide (Z=(9:Int)))=true then some (([92,116]:List UInt8)) else qZ (σ:=Bool) (if (decide ((0:Int)≤(sW aB Z)))=true then some ((decide ((0:Int)≤(sW aB Z)))) else some ((((decide (O=(1:Int)))&&aA)&&(decide (Z=(32:Int))))) ) fun aC=>if aC=true then if ((([92]:List UInt8)++(rW ([Z]:List Int))).length:Int)≤9223372036854775807 then some ((([92]:List UInt8)++(rW ([Z]:List Int)))) else none else if (((decide (Z<(32:Int)))||(decide (Z=(127:Int))))&&(decide (O=(3:Int))))=true then (OJ Z (4:Int)).bind fun aD=>if ((([92,117]:List UInt8)++((IU ([48]:List UInt8) ((4:Int)- ((vK (IntKind.wrap .i64 Z) (16:Int)).length:Int)))++(vK (IntKind.wrap .i64 Z) (16:Int)))).length:Int)≤9223372036854775807 then some ((([92,117]:List UInt8)++((IU ([48]:List UInt8) ((4:Int)- ((vK (IntKind.wrap .i64 Z) (16:Int)).length:Int)))++(vK (IntKind.wrap .i64 Z) (16:Int))))) else none else if ((decide (Z<(32:Int)))||(decide (Z=(127:Int))))=true then (OJ Z (2:Int)).bind fun aE=>if ((([92,120]:List UInt8)++((IU ([48]:List UInt8) ((2:Int)- ((vK (IntKind.wrap .i64 Z) (16:Int)).length:Int)))++(vK (IntKind.wrap .i64 Z) (16:Int)))).length:Int)≤9223372036854775807 then some ((([92,120]:List UInt8)++((IU ([48]:List UInt8) ((2:Int)- ((vK (IntKind.wrap .i64 Z) (16:Int)).length:Int)))++(vK (IntKind.wrap .i64 Z) (16:Int))))) else none else some ((rW ([Z]:List Int)))
section
variable (O:Int) (Z:Int) (aA:Bool)
abbrev a2N:List pA:=[(.val (.int .i64) O,none),(.val (.int .u8) Z,none),(.val .bool aA,none)]
abbrev a2O:List p9:=[]
@[go_sem] def a2P:pF:=⟨[((FQ O Z aA)).isSome=true],[(.val .str (val (FQ O Z aA)),none)],[]⟩
def aB7:List pA→List p9→Option pF:=qP (V:=(Int×Int×Bool)) (fun x=>a2N x.1 x.2.1 x.2.2) (fun x=>a2O) fun x=>a2P x.1 x.2.1 x.2.2
@[go_sem] theorem aPn:aB7 (no_index (a2N O Z aA)) (no_index a2O)=some (a2P O Z aA):=qR (fun⟨a0,a1,a2⟩ ⟨b0,b1,b2⟩ h1 h2=>by cases h1;cases h2;rfl) (O,Z,aA)
end
@[go_sem] abbrev aB8:Nat×pY:=(166,⟨[.v,.v,.v],aB7,[],[],none⟩)
theorem uQ:qE Tryz.prog [FF,rR,FD] (qC [LA,aBo,aBq]):=⟨⟨IZ,⟨rU,⟨IX,trivial⟩⟩⟩,pK OA (pK aJM (pK aJN qT)),qH⟩
theorem aJ4:qI Tryz.prog aB8:=by
 refine qS uQ Tryz.func166 (c:=_) rfl (N:=64) (by kernel_rfl) (ts:=[(6,none)]) rfl (fun _ _=>rfl) ?_;intro⟨O,Z,aA⟩ hs hrow;dsimp only[a2N,a2O,a2P,qK,pM,pV,qG,qO,Nat.reduceAdd] at hs hrow⊢;have hz:=hs;obtain⟨z0,hC0⟩:=aQn.1 hz
 try rw[r8 hC0]
 clear hz hs;unfold FQ at hC0;refine p8 uQ ?_;refine p8 uQ ?_;refine pW ?_;refine p8 uQ ?_;obtain⟨aB,hC1,hC0⟩:=pD hC0;refine CD (fun s=>s=(fun x=>⟨[(0,(.val (.int .i64) O,none)),(1,(.val (.int .u8) Z,none)),(2,(.val .bool aA,none)),(7,(.val .str x,none))],[],0,64,0⟩) aB) ?_ ?_
 ·refine rI ?_;refine p8 uQ ?_;refine pP hC1 (fun hC1 hc1=> ?_) (fun hC1 hc1=> ?_)
  ·refine qU uQ ?_;refine qV ?_;cases hC1;exact uP ⟨⟨[0,1,2,7],[]⟩,by rfl⟩
  ·refine p8 uQ ?_;refine pP hC1 (fun hC1 hc2=> ?_) (fun hC1 hc2=> ?_)
   ·refine qU uQ ?_;refine qV ?_;cases hC1;exact uP ⟨⟨[0,1,2,7],[]⟩,by rfl⟩
   ·refine p8 uQ ?_;refine pP hC1 (fun hC1 hc3=> ?_) (fun hC1 hc3=> ?_)
    ·refine qU uQ ?_;refine qV ?_;cases hC1;exact uP ⟨⟨[0,1,2,7],[]⟩,by rfl⟩
    ·refine qM (qV ?_);cases hC1;exact uP ⟨⟨[0,1,2,7],[]⟩,by rfl⟩
 ·rintro _ rfl;dsimp only at hC0⊢;refine pN (pW (rI ?_));refine p8 uQ ?_;refine pP hC0 (fun hC0 hc4=> ?_) (fun hC0 hc4=> ?_)
  ·refine p8 uQ ?_;refine pI (rM (rF ?_));cases hC0;exact⟨[],by rfl,by rfl,by rfl⟩
  ·refine p8 uQ ?_;refine pP hC0 (fun hC0 hc5=> ?_) (fun hC0 hc5=> ?_)
   ·refine p8 uQ ?_;refine pI (rM (rF ?_));cases hC0;exact⟨[],by rfl,by rfl,by rfl⟩
   ·refine p8 uQ ?_;refine pP hC0 (fun hC0 hc6=> ?_) (fun hC0 hc6=> ?_)
    ·refine p8 uQ ?_;refine pI (rM (rF ?_));cases hC0;exact⟨[],by rfl,by rfl,by rfl⟩
    ·refine p8 uQ ?_;refine pP hC0 (fun hC0 hc7=> ?_) (fun hC0 hc7=> ?_)
     ·refine p8 uQ ?_;refine pI (rM (rF ?_));cases hC0;exact⟨[],by rfl,by rfl,by rfl⟩
     ·refine pW ?_;refine p8 uQ ?_;obtain⟨aC,hC1,hC0⟩:=pD hC0;refine CD (fun s=>s=(fun x=>⟨[(0,(.val (.int .i64) O,none)),(1,(.val (.int .u8) Z,none)),(27,(.val .bool x,none))],[],0,64,0⟩) aC) ?_ ?_
      ·refine pP hC1 (fun hC1 hc8=> ?_) (fun hC1 hc8=> ?_)
       ·refine qM ?_;cases hC1;exact uP ⟨⟨[0,1,27],[]⟩,by rfl⟩
       ·refine qU uQ ?_ (hp:=by exact⟨fun hh=>sH hh,fun hh=>hh,(fun hh=>sH hh)⟩);cases hC1;exact uP ⟨⟨[0,1,27],[]⟩,by rfl⟩
      ·rintro _ rfl;dsimp only at hC0⊢;refine pN ?_;refine pP hC0 (fun hC0 hc9=> ?_) (fun hC0 hc9=> ?_)
       ·obtain⟨hg1,hC0⟩:=pG hC0;refine p8 uQ ?_ (hp:=by exact hg1);refine pI (rM (rF ?_));cases hC0;exact⟨[],by rfl,by rfl,by rfl⟩
       ·refine p8 uQ ?_ (hp:=by exact⟨fun hh=>hh,(fun hh=>sH hh)⟩);refine pP hC0 (fun hC0 hc10=> ?_) (fun hC0 hc10=> ?_)
        ·obtain⟨aD,hv2,hw2,hC0⟩:=pT hC0
         try simp only[go_sem] at hw2
         obtain⟨hg3,hC0⟩:=pG hC0;refine p8 uQ ?_ (hp:=by exact⟨pS hv2,hg3⟩) (h:=by simp only[go_sem,hw2];rfl);refine pI (rM (rF ?_));cases hC0;exact⟨[],by rfl,by rfl,by rfl⟩
        ·refine p8 uQ ?_;refine pP hC0 (fun hC0 hc11=> ?_) (fun hC0 hc11=> ?_)
         ·obtain⟨aE,hv4,hw4,hC0⟩:=pT hC0
          try simp only[go_sem] at hw4
          obtain⟨hg5,hC0⟩:=pG hC0;refine p8 uQ ?_ (hp:=by exact⟨pS hv4,hg5⟩) (h:=by simp only[go_sem,hw4];rfl);refine pI (rM (rF ?_));cases hC0;exact⟨[],by rfl,by rfl,by rfl⟩
         ·refine qM (qV (pN ?_));refine p8 uQ ?_;refine pI ?_;cases hC0;exact⟨[],by rfl,by rfl,by rfl⟩
attribute [irreducible] FQ
def OU (O:(List Int)):((List UInt8)×Int)→Option (((List UInt8)×Int)⊕(List UInt8)):=fun(Z,aA)=>if (decide (aA<(O.length:Int)))=true then if 0≤aA∧aA<(O.length:Int) then if (((decide ((0:Int)≤(pZ (.int .i64) O aA)))&&(decide ((pZ (.int .i64) O aA)≤(1114111:Int))))&&((decide ((pZ (.int .i64) O aA)<(55296:Int)))||(decide ((57343:Int)<(pZ (.int .i64) O aA)))))=true then if 0≤aA∧aA<(O.length:Int) then (D9 (pZ (.int .i64) O aA)).bind fun aB=>if ((Z++aB).length:Int)≤9223372036854775807 then if pB (aA+(1:Int)) then some (.inl ((Z++aB),(aA+(1:Int)))) else none else none else none else (D9 (65533:Int)).bind fun aC=>if ((Z++aC).length:Int)≤9223372036854775807 then if pB (aA+(1:Int)) then some (.inl ((Z++aC),(aA+(1:Int)))) else none else none else none else some (.inr Z)
def U3 (O:(List Int)):Option (List UInt8):=qZ (pU (OU O) (([]:List UInt8),(0:Int))) fun Z=>some (Z)
attribute [irreducible] U3
end
noncomputable section
def U4 (O:Int) (Z:Int) (aA:Bool):Option (List UInt8):=if (decide (O=(4:Int)))=true then if False then some ((T3 Z)) else none else if (decide (Z=(10:Int)))=true then some (([92,110]:List UInt8)) else if (decide (Z=(13:Int)))=true then some (([92,114]:List UInt8)) else if (decide (Z=(9:Int)))=true then some (([92,116]:List UInt8)) else qZ (σ:=Bool) (if (decide (Z=(92:Int)))=true then some ((decide (Z=(92:Int)))) else if (((decide (O=(1:Int)))==true)=true→((D8 Z ([61,58,35,33]:List UInt8))).isSome=true) then if ((decide (O=(1:Int)))&&(val (D8 Z ([61,58,35,33]:List UInt8))))=true then some (((decide (O=(1:Int)))&&(val (D8 Z ([61,58,35,33]:List UInt8))))) else if (((decide (O=(1:Int)))&&aA)&&(decide (Z=(32:Int))))=true then some ((((decide (O=(1:Int)))&&aA)&&(decide (Z=(32:Int))))) else if ((!decide (O=(1:Int)))&&(decide (Z=(34:Int))))=true then some (((!decide (O=(1:Int)))&&(decide (Z=(34:Int))))) else if (((decide (O=(3:Int)))==true)=true→((D8 Z ([123,125]:List UInt8))).isSome=true) then some (((decide (O=(3:Int)))&&(val (D8 Z ([123,125]:List UInt8))))) else none else none ) fun aB=>if aB=true then if ((([92]:List UInt8)++(rW ([Z]:List Int))).length:Int)≤9223372036854775807 then some ((([92]:List UInt8)++(rW ([Z]:List Int)))) else none else if (((decide (Z<(32:Int)))||(decide (Z=(127:Int))))&&(decide (O=(3:Int))))=true then (a1x (IntKind.wrap .i64 Z)).bind fun aC=>if ((([92,117,48,48]:List UInt8)++(rW ([(pL ([48,49,50,51,52,53,54,55,56,57,97,98,99,100,101,102]:List UInt8) (IntKind.wrap .i64 (Int.tdiv (IntKind.wrap .i64 Z) (16:Int)))),(pL ([48,49,50,51,52,53,54,55,56,57,97,98,99,100,101,102]:List UInt8) (Int.tmod (IntKind.wrap .i64 Z) (16:Int)))]:List Int))).length:Int)≤9223372036854775807 then some ((([92,117,48,48]:List UInt8)++(rW ([(pL ([48,49,50,51,52,53,54,55,56,57,97,98,99,100,101,102]:List UInt8) (IntKind.wrap .i64 (Int.tdiv (IntKind.wrap .i64 Z) (16:Int)))),(pL ([48,49,50,51,52,53,54,55,56,57,97,98,99,100,101,102]:List UInt8) (Int.tmod (IntKind.wrap .i64 Z) (16:Int)))]:List Int)))) else none else if ((decide (Z<(32:Int)))||(decide (Z=(127:Int))))=true then (a1x (IntKind.wrap .i64 Z)).bind fun aD=>if ((([92,120]:List UInt8)++(rW ([(pL ([48,49,50,51,52,53,54,55,56,57,97,98,99,100,101,102]:List UInt8) (IntKind.wrap .i64 (Int.tdiv (IntKind.wrap .i64 Z) (16:Int)))),(pL ([48,49,50,51,52,53,54,55,56,57,97,98,99,100,101,102]:List UInt8) (Int.tmod (IntKind.wrap .i64 Z) (16:Int)))]:List Int))).length:Int)≤9223372036854775807 then some ((([92,120]:List UInt8)++(rW ([(pL ([48,49,50,51,52,53,54,55,56,57,97,98,99,100,101,102]:List UInt8) (IntKind.wrap .i64 (Int.tdiv (IntKind.wrap .i64 Z) (16:Int)))),(pL ([48,49,50,51,52,53,54,55,56,57,97,98,99,100,101,102]:List UInt8) (Int.tmod (IntKind.wrap .i64 Z) (16:Int)))]:List Int)))) else none else some ((rW ([Z]:List Int)))
attribute [irreducible] U4
def OV:((List UInt8)×(List Int))→Option (((List UInt8)×(List Int))⊕(List Int)):=fun(O,Z)=>if (decide ((0:Int)<(O.length:Int)))=true then (TV O).bind fun aA=>if (Z.length+([aA.1]:List Int).length)*8≤140737488355328 then if 0≤aA.2∧aA.2≤(O.length:Int)∧(O.length:Int)≤(O.length:Int) then some (.inl ((pH O aA.2 (O.length:Int)),(Z++([aA.1]:List Int)))) else none else none else some (.inr Z)
def U5 (O:(List UInt8)):Option (List Int):=qZ (pU OV (O,([]:List Int))) fun Z=>some (Z)
attribute [irreducible] U5
def FR (O:(List (List UInt8))) (Z:(List UInt8)):Option Bool:=(BR O Z).bind fun aA=>some ((decide ((0:Int)≤aA)))
section
variable (O:(List (List UInt8))) (Z:(List UInt8))
abbrev a2Q:List pA:=[(.val (.list .str) O,none),(.val .str Z,none)]
abbrev a2R:List p9:=[]
@[go_sem] def a2S:pF:=⟨[((FR O Z)).isSome=true],[(.val .bool (val (FR O Z)),none)],[]⟩
def aB9:List pA→List p9→Option pF:=qP (V:=((List (List UInt8))×(List UInt8))) (fun x=>a2Q x.1 x.2) (fun x=>a2R) fun x=>a2S x.1 x.2
@[go_sem] theorem aPo:aB9 (no_index (a2Q O Z)) (no_index a2R)=some (a2S O Z):=qR (fun⟨a0,a1⟩ ⟨b0,b1⟩ h1 h2=>by cases h1;cases h2;rfl) (O,Z)
end
@[go_sem] abbrev U6:Nat×pY:=(186,⟨[.v,.v],aB9,[],[],none⟩)
theorem a2T:qE Tryz.prog [] (qC [TS]):=⟨trivial,pK aBj qT,qH⟩
theorem aCa:qI Tryz.prog U6:=by
 refine qS a2T Tryz.func186 (c:=_) rfl (N:=9) (by kernel_rfl) (ts:=[(4,none)]) rfl (fun _ _=>rfl) ?_;intro⟨O,Z⟩ hs hrow;dsimp only[a2Q,a2R,a2S,qK,pM,pV,qG,qO,Nat.reduceAdd] at hs hrow⊢;have hz:=hs;obtain⟨z0,hC0⟩:=aQn.1 hz
 try rw[r8 hC0]
 clear hz hs;unfold FR at hC0;refine p8 a2T ?_;obtain⟨aA,hv1,hw1,hC0⟩:=pT hC0
 try simp only[go_sem] at hw1
 refine p8 a2T ?_ (hp:=by exact(pS hv1)) (h:=by simp only[go_sem,hw1];rfl);refine pI ?_;cases hC0;exact⟨[],by rfl,by rfl,by rfl⟩
attribute [irreducible] FR
def FS (O:(List pR)) (Z:(List UInt8)):Option Int:=(LL O Z).bind fun aA=>some (aA)
section
variable (O:(List pR)) (Z:(List UInt8))
abbrev a2U:List pA:=[(.val (.list (.pair .str (.pair .str .unit))) O,none),(.val .str Z,none)]
abbrev a2V:List p9:=[]
@[go_sem] def a2W:pF:=⟨[((FS O Z)).isSome=true],[(.val (.int .i64) (val (FS O Z)),none)],[]⟩
def aCb:List pA→List p9→Option pF:=qP (V:=((List pR)×(List UInt8))) (fun x=>a2U x.1 x.2) (fun x=>a2V) fun x=>a2W x.1 x.2
@[go_sem] theorem aPp:aCb (no_index (a2U O Z)) (no_index a2V)=some (a2W O Z):=qR (fun⟨a0,a1⟩ ⟨b0,b1⟩ h1 h2=>by cases h1;cases h2;rfl) (O,Z)
end
@[go_sem] abbrev a2X:Nat×pY:=(237,⟨[.v,.v],aCb,[],[],none⟩)
theorem a2Y:qE Tryz.prog [rR] (qC [aBO]):=⟨⟨rU,trivial⟩,pK aJW qT,qH⟩
theorem aCc:qI Tryz.prog a2X:=by
 refine qS a2Y Tryz.func237 (c:=_) rfl (N:=8) (by kernel_rfl) (ts:=[(4,none)]) rfl (fun _ _=>rfl) ?_;intro⟨O,Z⟩ hs hrow;dsimp only[a2U,a2V,a2W,qK,pM,pV,qG,qO,Nat.reduceAdd] at hs hrow⊢;have hz:=hs;obtain⟨z0,hC0⟩:=aQn.1 hz
 try rw[r8 hC0]
 clear hz hs;unfold FS at hC0;refine p8 a2Y ?_;obtain⟨aA,hv1,hw1,hC0⟩:=pT hC0
 try simp only[go_sem] at hw1
 refine p8 a2Y ?_ (hp:=by exact⟨by first|rfl|trivial,(pS hv1)⟩) (h:=by simp only[go_sem,hw1];rfl)
 refine pI ?_;cases hC0;exact⟨[],by rfl,by rfl,by rfl⟩
attribute [irreducible] FS
def H4 (O:(List pR)) (Z:(List UInt8)):Option ((List UInt8)×Bool):=(FS O Z).bind fun aA=>if (decide (aA<(0:Int)))=true then some ((([]:List UInt8),false)) else if 0≤aA∧aA<(O.length:Int) then some (((pZ (.pair .str (.pair .str .unit)) O aA).2.1,true)) else none
section
variable (O:(List pR)) (Z:(List UInt8))
abbrev a2Z:List pA:=[(.val (.list (.pair .str (.pair .str .unit))) O,none),(.val .str Z,none)]
abbrev a23:List p9:=[]
@[go_sem] def a24:pF:=⟨[((H4 O Z)).isSome=true],[(.val .str ((val (H4 O Z)).1),none),(.val .bool ((val (H4 O Z)).2),none)],[]⟩
def aCd:List pA→List p9→Option pF:=qP (V:=((List pR)×(List UInt8))) (fun x=>a2Z x.1 x.2) (fun x=>a23) fun x=>a24 x.1 x.2
@[go_sem] theorem aPq:aCd (no_index (a2Z O Z)) (no_index a23)=some (a24 O Z):=qR (fun⟨a0,a1⟩ ⟨b0,b1⟩ h1 h2=>by cases h1;cases h2;rfl) (O,Z)
end
@[go_sem] abbrev a25:Nat×pY:=(255,⟨[.v,.v],aCd,[],[],none⟩)
theorem LP:qE Tryz.prog [rR,AW,E8] (qC [a2X]):=⟨⟨rU,⟨CF,⟨GU,trivial⟩⟩⟩,pK aCc qT,qH⟩
theorem aJ5:qI Tryz.prog a25:=by
 refine qS LP Tryz.func255 (c:=_) rfl (N:=17) (by kernel_rfl) (ts:=[(4,none),(5,none)]) rfl (fun _ _=>rfl) ?_;intro⟨O,Z⟩ hs hrow;dsimp only[a2Z,a23,a24,qK,pM,pV,qG,qO,Nat.reduceAdd] at hs hrow⊢;have hz:=hs;obtain⟨z0,hC0⟩:=aQn.1 hz
 try rw[r8 hC0]
 clear hz hs;unfold H4 at hC0;refine p8 LP ?_;obtain⟨aA,hv1,hw1,hC0⟩:=pT hC0
 try simp only[go_sem] at hw1
 refine p8 LP ?_ (hp:=by exact(pS hv1)) (h:=by simp only[go_sem,hw1];rfl);refine pW ?_;refine p8 LP ?_;refine pP hC0 (fun hC0 hc1=> ?_) (fun hC0 hc1=> ?_)
 ·refine p8 LP ?_;refine pI (rF ?_);cases hC0;exact⟨[],by rfl,by rfl,by rfl⟩
 ·refine qM (pN ?_);obtain⟨hg2,hC0⟩:=pG hC0;refine p8 LP ?_ (hp:=by exact hg2);refine pI ?_;cases hC0;exact⟨[],by rfl,by rfl,by rfl⟩
attribute [irreducible] H4
def H5 (O:(List UInt8)):Option Bool:=(FR ([([110,101,119]:List UInt8),([102,117,122,122,121]:List UInt8),([116,114,97,110,115,108,97,116,101,100]:List UInt8),([114,101,118,105,101,119,101,100]:List UInt8),([111,98,115,111,108,101,116,101]:List UInt8)]:List (List UInt8)) O).bind fun Z=>some (Z)
section
variable (O:(List UInt8))
abbrev a26:List pA:=[(.val .str O,none)]
abbrev a27:List p9:=[]
@[go_sem] def a28:pF:=⟨[((H5 O)).isSome=true],[(.val .bool (val (H5 O)),none)],[]⟩
def aCe:List pA→List p9→Option pF:=qP (V:=(List UInt8)) (fun x=>a26 x) (fun x=>a27) fun x=>a28 x
@[go_sem] theorem aPr:aCe (no_index (a26 O)) (no_index a27)=some (a28 O):=qR (fun a0 b0 h1 h2=>by cases h1;cases h2;rfl) O
end
@[go_sem] abbrev aCf:Nat×pY:=(257,⟨[.v],aCe,[],[],none⟩)
theorem a29:qE Tryz.prog [] (qC [OD,U6]):=⟨trivial,pK a0m (pK aCa qT),qH⟩
theorem aJ6:qI Tryz.prog aCf:=by
 refine qS a29 Tryz.func257 (c:=_) rfl (N:=6) (by kernel_rfl) (ts:=[(2,none)]) rfl (fun _ _=>rfl) ?_;intro O hs hrow;dsimp only[a26,a27,a28,qK,pM,pV,qG,qO,Nat.reduceAdd] at hs hrow⊢;have hz:=hs;obtain⟨z0,hC0⟩:=aQn.1 hz
 try rw[r8 hC0]
 clear hz hs;unfold H5 at hC0;refine p8 a29 ?_;obtain⟨Z,hv1,hw1,hC0⟩:=pT hC0
 try simp only[go_sem] at hw1
 refine p8 a29 ?_ (hp:=by exact(pS hv1)) (h:=by simp only[go_sem,hw1];rfl);refine pI ?_;cases hC0;exact⟨[],by rfl,by rfl,by rfl⟩
attribute [irreducible] H5
end
noncomputable section
def LQ (O:(List UInt8)) (Z:(List UInt8)) (aA:(List UInt8)) (aB:(List UInt8)) (aC:(List (List UInt8))) (aD:(Int×((List pR)×Unit))) (aE:Bool) (aF:(List (List UInt8))) (aG:(List ((List UInt8)×Bool))):Option Bool:=(FR aF O).bind fun aH=>some (aH)
section
variable (O:(List UInt8)) (Z:(List UInt8)) (aA:(List UInt8)) (aB:(List UInt8)) (aC:(List (List UInt8))) (aD:Nat) (aE:(Int×((List pR)×Unit))) (aF:Bool) (aG:Nat) (aH:Nat) (aI:(List (List UInt8))) (aJ:Nat) (aK:(List ((List UInt8)×Bool)))
abbrev a3a:List pA:=[(.val .str O,none),(.val .ref (some (0,0)),none)]
abbrev a3b:List p9:=[.cells .ref (some (1,0)) [],.cells sJ ((Z,(aA,(aB,(aC,((some (4,aD)),aE))))),(aF,((some 5),()))) [(3,2),(6,3)],.grow 9 1 aG,.grow 149 2 aH,.row 9 .str aI aJ,.map .str .bool aK]
@[go_sem] def a3c:pF:=⟨[aG=(aC.length),aH=(aE.2.1.length),aD=aJ,((LQ O Z aA aB aC aE aF aI aK)).isSome=true],[(.val .bool (val (LQ O Z aA aB aC aE aF aI aK)),none)],[.cells .ref (some (1,0)) [],.cells sJ ((Z,(aA,(aB,(aC,((some (4,(aI.length))),(aE.1,(aE.2.1,()))))))),(aF,((some 5),()))) [(3,2),(6,3)],.grow 9 1 (aC.length),.grow 149 2 (aE.2.1.length),.row 9 .str aI (aI.length),.map .str .bool aK]⟩
def aCg:List pA→List p9→Option pF:=qP (V:=((List UInt8)×(List UInt8)×(List UInt8)×(List UInt8)×(List (List UInt8))×Nat×(Int×((List pR)×Unit))×Bool×Nat×Nat×(List (List UInt8))×Nat×(List ((List UInt8)×Bool)))) (fun x=>a3a x.1) (fun x=>a3b x.2.1 x.2.2.1 x.2.2.2.1 x.2.2.2.2.1 x.2.2.2.2.2.1 x.2.2.2.2.2.2.1 x.2.2.2.2.2.2.2.1 x.2.2.2.2.2.2.2.2.1 x.2.2.2.2.2.2.2.2.2.1 x.2.2.2.2.2.2.2.2.2.2.1 x.2.2.2.2.2.2.2.2.2.2.2.1 x.2.2.2.2.2.2.2.2.2.2.2.2) fun x=>a3c x.1 x.2.1 x.2.2.1 x.2.2.2.1 x.2.2.2.2.1 x.2.2.2.2.2.1 x.2.2.2.2.2.2.1 x.2.2.2.2.2.2.2.1 x.2.2.2.2.2.2.2.2.1 x.2.2.2.2.2.2.2.2.2.1 x.2.2.2.2.2.2.2.2.2.2.1 x.2.2.2.2.2.2.2.2.2.2.2.1 x.2.2.2.2.2.2.2.2.2.2.2.2
@[go_sem] theorem aPs:aCg (no_index (a3a O)) (no_index (a3b Z aA aB aC aD aE aF aG aH aI aJ aK))=some (a3c O Z aA aB aC aD aE aF aG aH aI aJ aK):=qR (fun⟨a0,a1,a2,a3,a4,a5,a6,a7,a8,a9,a10,a11,a12⟩ ⟨b0,b1,b2,b3,b4,b5,b6,b7,b8,b9,b10,b11,b12⟩ h1 h2=>by cases h1;cases h2;rfl) (O,Z,aA,aB,aC,aD,aE,aF,aG,aH,aI,aJ,aK)
end
@[go_sem] abbrev a3d:Nat×pY:=(258,⟨[.v,.p .ref []],aCg,[(0,0,.p sJ [3,6]),(1,4,.r),(1,8,.m)],[0,1,2,3,4,5],none⟩)
theorem aCh:qE Tryz.prog [] (qC [U6]):=⟨trivial,pK aCa qT,qH⟩
theorem aCi:qE Tryz.prog [vX,D7,L9,BQ] (qC [U6]):=⟨⟨wP,⟨FH,⟨TD,⟨D6,trivial⟩⟩⟩⟩,aCh.Γ,qH⟩
theorem aJ7:qI Tryz.prog a3d:=by
 refine qS aCh Tryz.func258 (c:=_) rfl (N:=11) (by kernel_rfl) (ts:=[(3,none)]) rfl (fun _ _=>rfl) ?_;intro⟨O,Z,aA,aB,aC,aD,aE,aF,aG,aH,aI,aJ,aK⟩ hs hrow;dsimp only[a3a,a3b,a3c,qK,pM,pV,qG,qO,Nat.reduceAdd] at hs hrow⊢;obtain⟨rfl,rfl,rfl,hz⟩:=hs;obtain⟨rfl,_⟩:=hrow;obtain⟨z0,hC0⟩:=aQn.1 hz
 try rw[r8 hC0]
 clear hz;unfold LQ at hC0;refine p8 aCi ?_;obtain⟨aL,hv1,hw1,hC0⟩:=pT hC0
 try simp only[go_sem] at hw1
 refine p8 aCi ?_ (hp:=by exact⟨fun _=>by first|exact rfl|exact trivial,(pS hv1)⟩) (h:=by simp only[go_sem,hw1];rfl)
 refine pI ?_;cases hC0;exact⟨[(0,0),(1,1),(2,2),(3,3),(4,4),(5,5)],by rfl,by rfl,by rfl⟩
attribute [irreducible] LQ
def OW (O:(List UInt8)) (Z:Int):(Int×Int)→Option ((Int×Int)⊕(Int⊕Int)):=fun(aA,aB)=>if (decide (aB<(O.length:Int)))=true then if 0≤aB∧aB<(O.length:Int) then (TY (pL O aB) Z).bind fun aC=>if (decide (aC<(0:Int)))=true then some (.inr (.inr ((-1:Int)))) else if pB (Z*aA) then if pB ((Z*aA)+aC) then if pB (aB+(1:Int)) then some (.inl (((Z*aA)+aC),(aB+(1:Int)))) else none else none else none else none else some (.inr (.inl aA))
def JD (O:(List UInt8)) (Z:Int):Option Int:=rZ (pU (OW O Z) ((0:Int),(0:Int))) fun aA=>if (decide (O=([]:List UInt8)))=true then some ((-1:Int)) else some (aA)
attribute [irreducible] JD
def H6 (O:(List Int)) (Z:Int):Option (List Int):=if (decide ((IntKind.wrap .u32 Z)≤(127:Int)))=true then if (O.length+([(IntKind.wrap .u8 Z)]:List Int).length)*1≤140737488355328 then some ((O++([(IntKind.wrap .u8 Z)]:List Int))) else none else (J5 O Z).bind fun aA=>some (aA)
section
variable (O:(List Int)) (Z:Int) (aA:Nat)
abbrev a3e:List pA:=[(.val (.list (.int .u8)) O,some 0),(.val (.int .i32) Z,none)]
abbrev a3f:List p9:=[.grow 5 1 aA]
@[go_sem] def a3g:pF:=⟨[aA=(O.length),((H6 O Z)).isSome=true],[(.val (.list (.int .u8)) (val (H6 O Z)),some 0)],[.grow 5 1 ((val (H6 O Z)).length)]⟩
def aCj:List pA→List p9→Option pF:=qP (V:=((List Int)×Int×Nat)) (fun x=>a3e x.1 x.2.1) (fun x=>a3f x.2.2) fun x=>a3g x.1 x.2.1 x.2.2
@[go_sem] theorem aPt:aCj (no_index (a3e O Z)) (no_index (a3f aA))=some (a3g O Z aA):=qR (fun⟨a0,a1,a2⟩ ⟨b0,b1,b2⟩ h1 h2=>by cases h1;cases h2;rfl) (O,Z,aA)
end
@[go_sem] abbrev aCk:Nat×pY:=(297,⟨[.own,.v],aCj,[],[],none⟩)
theorem OX:qE Tryz.prog [FF,L7,FD,TA] (qC [aBM]):=⟨⟨IZ,⟨T5,⟨IX,⟨aAq,trivial⟩⟩⟩⟩,pK aJV qT,qH⟩
theorem aJ8:qI Tryz.prog aCk:=by
 refine qS OX Tryz.func297 (c:=_) rfl (N:=16) (by kernel_rfl) (ts:=[(4,none)]) rfl (fun _ _=>rfl) ?_;intro⟨O,Z,aA⟩ hs hrow;dsimp only[a3e,a3f,a3g,qK,pM,pV,qG,qO,Nat.reduceAdd] at hs hrow⊢;obtain⟨rfl,hz⟩:=hs;obtain⟨z0,hC0⟩:=aQn.1 hz
 try rw[r8 hC0]
 clear hz;unfold H6 at hC0;refine p8 OX ?_;refine pW ?_;refine p8 OX ?_;refine pP hC0 (fun hC0 hc1=> ?_) (fun hC0 hc1=> ?_)
 ·obtain⟨hg1,hC0⟩:=pG hC0;refine p8 OX ?_ (hp:=by exact⟨by first|rfl|trivial,hg1⟩)
  refine pI (rF ?_);cases hC0;exact⟨[(0,0)],by rfl,by rfl,by rfl⟩
 ·refine qM (pN ?_);obtain⟨aB,hv2,hw2,hC0⟩:=pT hC0
  try simp only[go_sem] at hw2
  refine p8 OX ?_ (hp:=by exact⟨by first|rfl|trivial,(pS hv2)⟩) (h:=by simp only[go_sem,hw2];rfl)
  refine pI ?_;cases hC0;exact⟨[(0,0)],by rfl,by rfl,by rfl⟩
attribute [irreducible] H6
def H8 (O:(List pR)) (Z:(List UInt8)) (aA:(List UInt8)):Option (List pR):=(GY O).bind fun aB=>(FS aB Z).bind fun aC=>if (decide ((0:Int)≤aC))=true then if 0≤aC∧aC<(((aB.length):Nat):Int) then some ((List.set aB (Int.toNat aC) ((pZ (.pair .str (.pair .str .unit)) aB aC).1,(aA,(pZ (.pair .str (.pair .str .unit)) aB aC).2.2)))) else none else (LM aB Z).bind fun aD=>if (decide (aD<(0:Int)))=true then if 0≤(((aB.length):Nat):Int)∧(((aB.length):Nat):Int)≤List.length aB then if (aB.length+([(Z,(aA,()))]:List pR).length)*32≤140737488355328 then some ((AV aB (((aB.length):Nat):Int) ([(Z,(aA,()))]:List pR))) else none else none else if 0≤aD∧aD≤List.length aB then if (aB.length+([(Z,(aA,()))]:List pR).length)*32≤140737488355328 then some ((AV aB aD ([(Z,(aA,()))]:List pR))) else none else none
section
variable (O:(List pR)) (Z:(List UInt8)) (aA:(List UInt8))
abbrev a3h:List pA:=[(.val (.list (.pair .str (.pair .str .unit))) O,none),(.val .str Z,none),(.val .str aA,none)]
abbrev a3i:List p9:=[]
@[go_sem] def a3j:pF:=⟨[((H8 O Z aA)).isSome=true],[(.val (.list (.pair .str (.pair .str .unit))) (val (H8 O Z aA)),some 0)],[.grow 149 2 ((val (H8 O Z aA)).length)]⟩
def aCl:List pA→List p9→Option pF:=qP (V:=((List pR)×(List UInt8)×(List UInt8))) (fun x=>a3h x.1 x.2.1 x.2.2) (fun x=>a3i) fun x=>a3j x.1 x.2.1 x.2.2
@[go_sem] theorem aPu:aCl (no_index (a3h O Z aA)) (no_index a3i)=some (a3j O Z aA):=qR (fun⟨a0,a1,a2⟩ ⟨b0,b1,b2⟩ h1 h2=>by cases h1;cases h2;rfl) (O,Z,aA)
end
@[go_sem] abbrev a3k:Nat×pY:=(194,⟨[.v,.v,.v],aCl,[],[],none⟩)
theorem CJ:qE Tryz.prog [rR,T7,E8] (qC [aBK,a2X,aBQ,aAu]):=⟨⟨rU,⟨aAn,⟨GU,trivial⟩⟩⟩,pK aJU (pK aCc (pK aJX (pK aJv qT))),qH⟩
theorem aJ9:qI Tryz.prog a3k:=by
 refine qS CJ Tryz.func194 (c:=_) rfl (N:=37) (by kernel_rfl) (ts:=[(6,none)]) rfl (fun _ _=>rfl) ?_;intro⟨O,Z,aA⟩ hs hrow;dsimp only[a3h,a3i,a3j,qK,pM,pV,qG,qO,Nat.reduceAdd] at hs hrow⊢;have hz:=hs;obtain⟨z0,hC0⟩:=aQn.1 hz
 try rw[r8 hC0]
 clear hz hs;unfold H8 at hC0;refine p8 CJ ?_;obtain⟨aB,hv1,hw1,hC0⟩:=pT hC0
 try simp only[go_sem] at hw1
 refine p8 CJ ?_ (hp:=by exact(pS hv1)) (h:=by simp only[go_sem,hw1];rfl);refine pW ?_;obtain⟨aC,hv2,hw2,hC0⟩:=pT hC0
 try simp only[go_sem] at hw2
 refine p8 CJ ?_ (hp:=by exact⟨fun _=>by first|exact rfl|exact trivial,(pS hv2)⟩) (h:=by simp only[go_sem,hw2];rfl)
 refine p8 CJ ?_;refine pP hC0 (fun hC0 hc1=> ?_) (fun hC0 hc1=> ?_)
 ·obtain⟨hg3,hC0⟩:=pG hC0;refine p8 CJ ?_ (hp:=by exact⟨hg3,(by first|rfl|trivial)⟩)
  refine p8 CJ ?_;refine Z2 96 rfl (by repeat' (first|exact trivial|apply And.intro|exact(fun _=>rfl) |exact(fun h=>absurd h (by decide)))) ?_
  refine pI (rF ?_);cases hC0;exact⟨[(0,96)],by rfl,by rfl,by rfl⟩
 ·refine qM (pN ?_);obtain⟨aD,hv4,hw4,hC0⟩:=pT hC0
  try simp only[go_sem] at hw4
  refine p8 CJ ?_ (hp:=by exact⟨by first|rfl|trivial,fun _=>by first|exact rfl|exact trivial,(pS hv4)⟩) (h:=by simp only[go_sem,hw4];rfl)
  refine pW ?_;refine p8 CJ ?_;refine pP hC0 (fun hC0 hc2=> ?_) (fun hC0 hc2=> ?_)
  ·refine qU CJ ?_;refine pN ?_;obtain⟨hg5,hC0⟩:=pG hC0;obtain⟨hg6,hC0⟩:=pG hC0;refine p8 CJ ?_ (hp:=by exact⟨by first|rfl|trivial,hg5,hg6⟩)
   refine a9O ⟨[0,1,2,4,6,10,13,14,8,15,16,24,25,9,26,27,29,31,32,33,34,35,36],[(0,0),(32,32),(96,96),(800,800)]⟩ ?_;simp only[go_sem,Nat.max_def];refine Z2 96 rfl (by repeat' (first|exact trivial|apply And.intro|exact(fun _=>rfl) |exact(fun h=>absurd h (by decide)))) ?_
   refine pI ?_;cases hC0;exact⟨[(0,96)],by rfl,by rfl,by rfl⟩
  ·refine qM (pN ?_);obtain⟨hg7,hC0⟩:=pG hC0;obtain⟨hg8,hC0⟩:=pG hC0;refine p8 CJ ?_ (hp:=by exact⟨by first|rfl|trivial,hg7,hg8⟩)
   refine a9O ⟨[0,1,2,4,6,10,13,14,8,15,16,24,25,9,26,27,31,32,33,34,35,36],[(0,0),(32,32),(96,96),(704,704)]⟩ ?_;simp only[go_sem,Nat.max_def];refine Z2 96 rfl (by repeat' (first|exact trivial|apply And.intro|exact(fun _=>rfl) |exact(fun h=>absurd h (by decide)))) ?_
   refine pI ?_;cases hC0;exact⟨[(0,96)],by rfl,by rfl,by rfl⟩
attribute [irreducible] H8
def H9 (O:tW) (Z:tW):Option Bool:=(FP O Z).bind fun aA=>some (((decide (aA.2=(0:Int)))&&(decide ((aA.1.length:Int)=(0:Int)))))
section
variable (O:tW) (Z:tW)
abbrev a3l:List pA:=[(.val vW O,none),(.val vW Z,none)]
abbrev a3m:List p9:=[]
@[go_sem] def a3n:pF:=⟨[((H9 O Z)).isSome=true],[(.val .bool (val (H9 O Z)),none)],[]⟩
def aCm:List pA→List p9→Option pF:=qP (V:=(tW×tW)) (fun x=>a3l x.1 x.2) (fun x=>a3m) fun x=>a3n x.1 x.2
@[go_sem] theorem aPv:aCm (no_index (a3l O Z)) (no_index a3m)=some (a3n O Z):=qR (fun⟨a0,a1⟩ ⟨b0,b1⟩ h1 h2=>by cases h1;cases h2;rfl) (O,Z)
end
@[go_sem] abbrev aCn:Nat×pY:=(21,⟨[.v,.v],aCm,[],[],none⟩)
theorem U7:qE Tryz.prog [L5,TC] (qC [aBY]):=⟨⟨T4,⟨aAr,trivial⟩⟩,pK aJ0 qT,qH⟩
theorem aKa:qI Tryz.prog aCn:=by
 refine qS U7 Tryz.func21 (c:=_) rfl (N:=20) (by kernel_rfl) (ts:=[(4,none)]) rfl (fun _ _=>rfl) ?_;intro⟨O,Z⟩ hs hrow;dsimp only[a3l,a3m,a3n,qK,pM,pV,qG,qO,Nat.reduceAdd] at hs hrow⊢;have hz:=hs;obtain⟨z0,hC0⟩:=aQn.1 hz
 try rw[r8 hC0]
 clear hz hs;unfold H9 at hC0;refine p8 U7 ?_;obtain⟨aA,hv1,hw1,hC0⟩:=pT hC0
 try simp only[go_sem] at hw1
 refine p8 U7 ?_ (hp:=by exact(pS hv1)) (h:=by simp only[go_sem,hw1];rfl);refine p8 U7 ?_ (hp:=by exact⟨fun hh=>hh,fun hh=>hh,(fun hh=>sH hh)⟩);refine pI ?_;cases hC0;exact⟨[],by rfl,by rfl,by rfl⟩
attribute [irreducible] H9
end
noncomputable section
def OY (O:(List pR)):Int→Option (Int⊕(Unit⊕Bool)):=fun Z=>if (decide (Z<(O.length:Int)))=true then if 0≤Z∧Z<(O.length:Int) then (CI ((pZ (.pair .str (.pair .str .unit)) O Z).1)).bind fun aA=>if (((!aA)==false)=true→((DB ((pZ (.pair .str (.pair .str .unit)) O Z).2.1))).isSome=true) then if (((((!aA)||(!((decide ((((pZ (.pair .str (.pair .str .unit)) O Z).2.1).length:Int)≤(4000:Int)))&&(Lib.validD ((pZ (.pair .str (.pair .str .unit)) O Z).2.1)))))==false)&&((decide ((0:Int)<Z))==true))=true→pB (Z- (1:Int))) then if (((((!aA)||(!((decide ((((pZ (.pair .str (.pair .str .unit)) O Z).2.1).length:Int)≤(4000:Int)))&&(Lib.validD ((pZ (.pair .str (.pair .str .unit)) O Z).2.1)))))==false)&&((decide ((0:Int)<Z))==true))=true→0≤(Z- (1:Int))∧(Z- (1:Int))<(O.length:Int)) then if (((!aA)||(!((decide ((((pZ (.pair .str (.pair .str .unit)) O Z).2.1).length:Int)≤(4000:Int)))&&(Lib.validD ((pZ (.pair .str (.pair .str .unit)) O Z).2.1)))))||((decide ((0:Int)<Z))&&(!Op.bytesLess (pZ (.pair .str (.pair .str .unit)) O (Z- (1:Int))).1 (pZ (.pair .str (.pair .str .unit)) O Z).1)))=true then some (.inr (.inr (false))) else if pB (Z+(1:Int)) then some (.inl (Z+(1:Int))) else none else none else none else none else none else some (.inr (.inl ()))
def EE (O:(List pR)):Option Bool:=rZ (pU (OY O) (0:Int)) fun _=>some ((decide ((O.length:Int)≤(20:Int))))
section
variable (O:(List pR))
abbrev a3o:List pA:=[(.val (.list (.pair .str (.pair .str .unit))) O,none)]
abbrev a3p:List p9:=[]
@[go_sem] def a3q:pF:=⟨[((EE O)).isSome=true],[(.val .bool (val (EE O)),none)],[]⟩
def aCo:List pA→List p9→Option pF:=qP (V:=(List pR)) (fun x=>a3o x) (fun x=>a3p) fun x=>a3q x
@[go_sem] theorem aPw:aCo (no_index (a3o O)) (no_index a3p)=some (a3q O):=qR (fun a0 b0 h1 h2=>by cases h1;cases h2;rfl) O
end
@[go_sem] abbrev a3r:Nat×pY:=(108,⟨[.v],aCo,[],[],none⟩)
theorem FT:qE Tryz.prog [rR,AW,E8] (qC [J2,OT]):=⟨⟨rU,⟨CF,⟨GU,trivial⟩⟩⟩,pK TR (pK U2 qT),qH⟩
theorem aCp:qI Tryz.prog a3r:=by
 refine qS FT Tryz.func108 (c:=_) rfl (N:=41) (by kernel_rfl) (ts:=[(2,none)]) rfl (fun _ _=>rfl) ?_;intro O hs hrow;dsimp only[a3o,a3p,a3q,qK,pM,pV,qG,qO,Nat.reduceAdd] at hs hrow⊢;have hz:=hs;obtain⟨z0,hC0⟩:=aQn.1 hz
 try rw[r8 hC0]
 clear hz hs;unfold EE at hC0;refine p8 FT ?_;refine pW ?_;refine p8 FT ?_;refine rI ?_;obtain⟨y1,hy1,hC0⟩:=zD hC0;refine uZ 0 (fun s=> ∃v,y1= .inl v∧s=(fun _=>⟨[(0,(.val (.list (.pair .str (.pair .str .unit))) O,none))],[],0,41,0⟩) v) ?_ ?_
 ·refine uY hy1 (fun x=>⟨[(0,(.val (.list (.pair .str (.pair .str .unit))) O,none)),(5,(.val (.list (.pair .str (.pair .str .unit))) O,none)),(6,(.val (.int .i64) (O.length:Int),none)),(7,(.val (.int .i64) x,none))],[],0,41,0⟩) ⟨[0,5,6,7],[]⟩ (by rfl) ?_;intro Z w1 n1 hC1 hN1;unfold OY at hC1;dsimp only at hC1⊢;refine p8 FT ?_;refine pW ?_;refine pP hC1 (fun hC1 hc1=> ?_) (fun hC1 hc1=> ?_)
  ·refine qM (pN (pW (rI ?_)));obtain⟨hg1,hC1⟩:=pG hC1;refine p8 FT ?_ (hp:=by exact hg1);obtain⟨aA,hv2,hw2,hC1⟩:=pT hC1
   try simp only[go_sem] at hw2
   obtain⟨hg3,hC1⟩:=pG hC1;obtain⟨hg4,hC1⟩:=pG hC1;obtain⟨hg5,hC1⟩:=pG hC1;refine xU FT ?_ (hp:=by exact⟨pS hv2,fun hh=>hh,fun hh=>hh,hg3,fun hh=>hh,fun hh=>uA hh,fun hh=>hh,fun hh=>hh,fun hh=>hh,hg4,fun hh=>hh,fun hh=>hh,hg5,fun hh=>hh,fun hh=>hh,fun hh=>hh,fun hh=>hh,fun hh=>hh,fun hh=>hh,fun hG hh=>GP hG hh,(fun hh=>uA hh)⟩) (h:=by simp only[go_sem,hw2];rfl);refine pP hC1 (fun hC1 hc2=> ?_) (fun hC1 hc2=> ?_)
   ·refine p8 FT ?_;refine pI (rM (rF (yI (yH (rM (rF ?_))))));cases hC1;cases hN1;dsimp only at hC0;cases hC0;exact⟨[],by rfl,by rfl,by rfl⟩
   ·refine qM (qV (pN ?_));obtain⟨hg6,hC1⟩:=pG hC1;refine qU FT ?_ (hp:=by exact hg6);cases hC1;exact sM ⟨⟨[0,5,6,7],[]⟩,_,by rfl,hN1⟩
  ·refine uG (uO (uI ?_));cases hC1;cases hN1;exact uH ⟨⟨[0],[]⟩,_,rfl,by rfl⟩
 ·rintro _ ⟨v,rfl,rfl⟩;dsimp only at hC0⊢;refine uX (pN ?_);refine p8 FT ?_;refine pI ?_;cases hC0;exact⟨[],by rfl,by rfl,by rfl⟩
attribute [irreducible] EE
def OZ (O:Int) (Z:(List UInt8)):(Int×(List Int))→Option ((Int×(List Int))⊕(List Int)):=fun(aA,aB)=>if (decide (aA<(Z.length:Int)))=true then if (decide (O=(4:Int)))=true then if 0≤aA∧aA<(Z.length:Int) then if False then (CH (aB,()) (T3 (pL Z aA))).bind fun aC=>if pB (aA+(1:Int)) then some (.inl ((aA+(1:Int)),(aB++sE (T3 (pL Z aA))))) else none else none else none else if 0≤aA∧aA<(Z.length:Int) then (FQ O (pL Z aA) (decide (aA=(0:Int)))).bind fun aD=>(CH (aB,()) aD).bind fun aE=>if pB (aA+(1:Int)) then some (.inl ((aA+(1:Int)),(aB++sE aD))) else none else none else some (.inr aB)
def HA (O:Int) (Z:(List UInt8)):Option (List UInt8):=if (!((decide ((1:Int)≤O))&&(decide (O≤(4:Int)))))=true then some (([]:List UInt8)) else qZ (pU (OZ O Z) ((0:Int),([]:List Int))) fun aA=>some ((rW aA))
section
variable (O:Int) (Z:(List UInt8))
abbrev a3s:List pA:=[(.val (.int .i64) O,none),(.val .str Z,none)]
abbrev a3t:List p9:=[]
@[go_sem] def a3u:pF:=⟨[((HA O Z)).isSome=true],[(.val .str (val (HA O Z)),none)],[]⟩
def aCq:List pA→List p9→Option pF:=qP (V:=(Int×(List UInt8))) (fun x=>a3s x.1 x.2) (fun x=>a3t) fun x=>a3u x.1 x.2
@[go_sem] theorem aPx:aCq (no_index (a3s O Z)) (no_index a3t)=some (a3u O Z):=qR (fun⟨a0,a1⟩ ⟨b0,b1⟩ h1 h2=>by cases h1;cases h2;rfl) (O,Z)
end
@[go_sem] abbrev aCr:Nat×pY:=(110,⟨[.v,.v],aCq,[],[],none⟩)
theorem AZ:qE Tryz.prog [rR,FE] (qC [TL,aAx,TJ,aB8,OB]):=⟨⟨rU,⟨IY,trivial⟩⟩,pK a0S (pK aJy (pK a0d (pK aJ4 (pK TF qT)))),qH⟩
theorem aKb:qI Tryz.prog aCr:=by
 refine qS AZ Tryz.func110 (c:=_) rfl (N:=32) (by kernel_rfl) (ts:=[(4,none)]) rfl (fun _ _=>rfl) ?_;intro⟨O,Z⟩ hs hrow;dsimp only[a3s,a3t,a3u,qK,pM,pV,qG,qO,Nat.reduceAdd] at hs hrow⊢;have hz:=hs;obtain⟨z0,hC0⟩:=aQn.1 hz
 try rw[r8 hC0]
 clear hz hs;unfold HA at hC0;refine p8 AZ ?_;refine pW ?_;refine p8 AZ ?_;refine pP hC0 (fun hC0 hc1=> ?_) (fun hC0 hc1=> ?_)
 ·refine p8 AZ ?_;refine pI (rF ?_);cases hC0;exact⟨[],by rfl,by rfl,by rfl⟩
 ·refine qM (pN ?_);refine p8 AZ ?_;refine pW ?_;refine p8 AZ ?_;refine rI ?_;obtain⟨aA,hy1,hC0⟩:=pD hC0;refine uZ 0 (fun s=>s=(fun x=>⟨[(5,(.val .ref (some (0,0)),none))],[(0,.cells wD ((some (0,0)),(x,())) [(1,1)]),(1,.grow 5 1 (x.length))],2,32,0⟩) aA) ?_ ?_
  ·refine uY hy1 (fun x=>⟨[(0,(.val (.int .i64) O,none)),(1,(.val .str Z,none)),(5,(.val .ref (some (0,0)),none)),(11,(.val (.int .i64) (Z.length:Int),none)),(12,(.val (.int .i64) x.1,none))],[(0,.cells wD ((some (0,0)),(x.2,())) [(1,1)]),(1,.grow 5 1 (x.2.length))],2,32,0⟩) ⟨[0,1,5,11,12],[(0,128),(1,129)]⟩ (by rfl) ?_;intro x1 w1 n1 hC1 hN1;obtain⟨aB,aC⟩:=x1;unfold OZ at hC1;dsimp only at hC1⊢;refine p8 AZ ?_;refine pW ?_;refine pP hC1 (fun hC1 hc2=> ?_) (fun hC1 hc2=> ?_)
   ·refine qM (pN (pW (rI ?_)));refine p8 AZ ?_;refine p8 AZ ?_;refine pP hC1 (fun hC1 hc3=> ?_) (fun hC1 hc3=> ?_)
    ·obtain⟨hg1,hC1⟩:=pG hC1;obtain⟨hg2,hC1⟩:=pG hC1;obtain⟨aD,hv3,hw3,hC1⟩:=pT hC1
     try simp only[go_sem] at hw3
     refine qU AZ ?_ (hp:=by exact⟨hg1,hg2,by first|rfl|trivial,(pS hv3)⟩) (h:=by simp only[go_sem,hw3];rfl)
     refine qV (pN ?_);obtain⟨hg4,hC1⟩:=pG hC1;refine qU AZ ?_ (hp:=by exact hg4);cases hC1;exact sM ⟨⟨[0,1,5,11,12],[(0,0),(1,1)]⟩,_,by rfl,hN1⟩
    ·obtain⟨hg5,hC1⟩:=pG hC1;obtain⟨aE,hv6,hw6,hC1⟩:=pT hC1
     try simp only[go_sem] at hw6
     obtain⟨aF,hv7,hw7,hC1⟩:=pT hC1
     try simp only[go_sem] at hw7
     refine qU AZ ?_ (hp:=by exact⟨hg5,pS hv6,by first|rfl|trivial,(pS hv7)⟩) (h:=by simp only[go_sem,hw6,hw7];rfl)
     refine qV (pN ?_);obtain⟨hg8,hC1⟩:=pG hC1;refine qU AZ ?_ (hp:=by exact hg8);cases hC1;exact sM ⟨⟨[0,1,5,11,12],[(0,0),(1,1)]⟩,_,by rfl,hN1⟩
   ·refine uG (uO (uI ?_));cases hC1;cases hN1;exact uH ⟨⟨[5],[(0,0),(1,1)]⟩,by rfl⟩
  ·rintro _ rfl;dsimp only at hC0⊢;refine uX (pN ?_);refine p8 AZ ?_ (hp:=by first|rfl|trivial)
   refine pI ?_;cases hC0;exact⟨[],by rfl,by rfl,by rfl⟩
attribute [irreducible] HA
end
noncomputable section
def LR (O:(List UInt8)):Option Bool:=(U5 O).bind fun Z=>(U3 Z).bind fun aA=>some ((decide (aA=O)))
attribute [irreducible] LR
def P0 (O:(List UInt8)):Option Unit:=(DB O).bind fun Z=>some (())
section
variable (O:(List UInt8))
abbrev a3v:List pA:=[(.val .str O,none)]
abbrev a3w:List p9:=[]
@[go_sem] def a3x:pF:=⟨[((P0 O)).isSome=true],[(.val .bool (!((decide ((O.length:Int)≤(4000:Int)))&&(Lib.validD O))),none)],[]⟩
def aCs:List pA→List p9→Option pF:=qP (V:=(List UInt8)) (fun x=>a3v x) (fun x=>a3w) fun x=>a3x x
@[go_sem] theorem aPy:aCs (no_index (a3v O)) (no_index a3w)=some (a3x O):=qR (fun a0 b0 h1 h2=>by cases h1;cases h2;rfl) O
end
@[go_sem] abbrev aCt:Nat×pY:=(160,⟨[.v],aCs,[],[],none⟩)
theorem a3y:qE Tryz.prog [] (qC [OT]):=⟨trivial,pK U2 qT,qH⟩
theorem aKc:qI Tryz.prog aCt:=by
 refine qS a3y Tryz.func160 (c:=_) rfl (N:=6) (by kernel_rfl) (ts:=[(2,none)]) rfl (fun _ _=>rfl) ?_;intro O hs hrow;dsimp only[a3v,a3w,a3x,qK,pM,pV,qG,qO,Nat.reduceAdd] at hs hrow⊢;have hz:=hs;obtain⟨z0,hC0⟩:=aQn.1 hz
 try rw[r8 hC0]
 clear hz hs;unfold P0 at hC0;refine p8 a3y ?_;obtain⟨Z,hv1,hw1,hC0⟩:=pT hC0
 try simp only[go_sem] at hw1
 refine p8 a3y ?_ (hp:=by exact(pS hv1)) (h:=by simp only[go_sem,hw1];rfl);refine pI ?_;cases hC0;exact⟨[],by rfl,by rfl,by rfl⟩
attribute [irreducible] P0
def zZ (O:(List UInt8)):Option (List UInt8):=(HA (3:Int) O).bind fun Z=>if ((([34]:List UInt8)++Z).length:Int)≤9223372036854775807 then if (((([34]:List UInt8)++Z)++([34]:List UInt8)).length:Int)≤9223372036854775807 then some (((([34]:List UInt8)++Z)++([34]:List UInt8))) else none else none
section
variable (O:(List UInt8))
abbrev a3z:List pA:=[(.val .str O,none)]
abbrev a3A:List p9:=[]
@[go_sem] def a3B:pF:=⟨[((zZ O)).isSome=true],[(.val .str (val (zZ O)),none)],[]⟩
def aCu:List pA→List p9→Option pF:=qP (V:=(List UInt8)) (fun x=>a3z x) (fun x=>a3A) fun x=>a3B x
@[go_sem] theorem aPz:aCu (no_index (a3z O)) (no_index a3A)=some (a3B O):=qR (fun a0 b0 h1 h2=>by cases h1;cases h2;rfl) O
end
@[go_sem] abbrev P9:Nat×pY:=(60,⟨[.v],aCu,[],[],none⟩)
theorem a3C:qE Tryz.prog [] (qC [aCr]):=⟨trivial,pK aKb qT,qH⟩
theorem U8:qI Tryz.prog P9:=by
 refine qS a3C Tryz.func60 (c:=_) rfl (N:=7) (by kernel_rfl) (ts:=[(2,none)]) rfl (fun _ _=>rfl) ?_;intro O hs hrow;dsimp only[a3z,a3A,a3B,qK,pM,pV,qG,qO,Nat.reduceAdd] at hs hrow⊢;have hz:=hs;obtain⟨z0,hC0⟩:=aQn.1 hz
 try rw[r8 hC0]
 clear hz hs;unfold zZ at hC0;refine p8 a3C ?_;obtain⟨Z,hv1,hw1,hC0⟩:=pT hC0
 try simp only[go_sem] at hw1
 obtain⟨hg2,hC0⟩:=pG hC0;obtain⟨hg3,hC0⟩:=pG hC0;refine p8 a3C ?_ (hp:=by exact⟨pS hv1,hg2,hg3⟩) (h:=by simp only[go_sem,hw1];rfl);refine pI ?_;cases hC0;exact⟨[],by rfl,by rfl,by rfl⟩
attribute [irreducible] zZ
end
noncomputable section
def FU (O:((List UInt8)×(Int×Unit))):Int→Option (Int⊕(Int⊕(Bool×Int))):=fun Z=>if (decide (Z<(O.1.length:Int)))=true then if 0≤Z∧Z≤(O.1.length:Int)∧(O.1.length:Int)≤(O.1.length:Int) then if 0≤(0:Int)∧(0:Int)<((pH O.1 Z (O.1.length:Int)).length:Int) then if (decide ((0:Int)≤(sW ([32,9,10,13]:List UInt8) (pL (pH O.1 Z (O.1.length:Int)) (0:Int)))))=true then if pB (Z+(1:Int)) then some (.inl (Z+(1:Int))) else none else (JA (pH O.1 Z (O.1.length:Int)) ([47,47]:List UInt8)).bind fun aA=>if ((decide ((([47,47]:List UInt8).length:Int)≤((pH O.1 Z (O.1.length:Int)).length:Int)))&&(decide ((pH (pH O.1 Z (O.1.length:Int)) (0:Int) (([47,47]:List UInt8).length:Int))=([47,47]:List UInt8))))=true then if (decide ((sW (pH O.1 Z (O.1.length:Int)) (10:Int))<(0:Int)))=true then if pB (((pH O.1 Z (O.1.length:Int)).length:Int)- (1:Int)) then if pB ((((pH O.1 Z (O.1.length:Int)).length:Int)- (1:Int))+(1:Int)) then if pB (Z+((((pH O.1 Z (O.1.length:Int)).length:Int)- (1:Int))+(1:Int))) then some (.inl (Z+((((pH O.1 Z (O.1.length:Int)).length:Int)- (1:Int))+(1:Int)))) else none else none else none else if pB ((sW (pH O.1 Z (O.1.length:Int)) (10:Int))+(1:Int)) then if pB (Z+((sW (pH O.1 Z (O.1.length:Int)) (10:Int))+(1:Int))) then some (.inl (Z+((sW (pH O.1 Z (O.1.length:Int)) (10:Int))+(1:Int)))) else none else none else (JA (pH O.1 Z (O.1.length:Int)) ([47,42]:List UInt8)).bind fun aB=>if ((decide ((([47,42]:List UInt8).length:Int)≤((pH O.1 Z (O.1.length:Int)).length:Int)))&&(decide ((pH (pH O.1 Z (O.1.length:Int)) (0:Int) (([47,42]:List UInt8).length:Int))=([47,42]:List UInt8))))=true then if 0≤(2:Int)∧(2:Int)≤((pH O.1 Z (O.1.length:Int)).length:Int)∧((pH O.1 Z (O.1.length:Int)).length:Int)≤((pH O.1 Z (O.1.length:Int)).length:Int) then if List.length (pH (pH O.1 Z (O.1.length:Int)) (2:Int) ((pH O.1 Z (O.1.length:Int)).length:Int))<4294967281 then if (decide ((L1 (pH (pH O.1 Z (O.1.length:Int)) (2:Int) ((pH O.1 Z (O.1.length:Int)).length:Int)) ([42,47]:List UInt8))<(0:Int)))=true then some (.inr (.inr ((false,Z)))) else if pB ((L1 (pH (pH O.1 Z (O.1.length:Int)) (2:Int) ((pH O.1 Z (O.1.length:Int)).length:Int)) ([42,47]:List UInt8))+(4:Int)) then if pB (Z+((L1 (pH (pH O.1 Z (O.1.length:Int)) (2:Int) ((pH O.1 Z (O.1.length:Int)).length:Int)) ([42,47]:List UInt8))+(4:Int))) then some (.inl (Z+((L1 (pH (pH O.1 Z (O.1.length:Int)) (2:Int) ((pH O.1 Z (O.1.length:Int)).length:Int)) ([42,47]:List UInt8))+(4:Int)))) else none else none else none else none else some (.inr (.inl Z)) else none else none else some (.inr (.inl Z))
def HB (O:((List UInt8)×(Int×Unit))):Option (Bool×Int):=rZ (pU (FU O) O.2.1) fun Z=>some ((true,Z))
section
variable (O:((List UInt8)×(Int×Unit)))
abbrev a3D:List pA:=[(.val .ref (some (0,0)),none)]
abbrev a3E:List p9:=[.cells D5 O []]
@[go_sem] def a3F:pF:=⟨[((HB O)).isSome=true],[(.val .bool ((val (HB O)).1),none)],[.cells D5 (O.1,((val (HB O)).2,())) []]⟩
def aCv:List pA→List p9→Option pF:=qP (V:=((List UInt8)×(Int×Unit))) (fun x=>a3D) (fun x=>a3E x) fun x=>a3F x
@[go_sem] theorem aPA:aCv (no_index a3D) (no_index (a3E O))=some (a3F O):=qR (fun a0 b0 h1 h2=>by cases h1;cases h2;rfl) O
end
@[go_sem] abbrev aCw:Nat×pY:=(118,⟨[.p D5 []],aCv,[],[],none⟩)
theorem xW:qE Tryz.prog [vL,rR,O9] (qC [LA,aB0,aAt]):=⟨⟨wE,⟨rU,⟨ZN,trivial⟩⟩⟩,pK OA (pK aJ1 (pK aJu qT)),qH⟩
theorem aKd:qI Tryz.prog aCw:=by
 refine qS xW Tryz.func118 (c:=_) rfl (N:=73) (by kernel_rfl) (ts:=[(2,none)]) rfl (fun _ _=>rfl) ?_;intro O hs hrow;dsimp only[a3D,a3E,a3F,qK,pM,pV,qG,qO,Nat.reduceAdd] at hs hrow⊢;have hz:=hs;obtain⟨z0,hC0⟩:=aQn.1 hz
 try rw[r8 hC0]
 clear hz hs;unfold HB at hC0;refine p8 xW ?_;refine aIn (pW (aIk (pN (pW (rI ?_)))));obtain⟨y1,hy1,hC0⟩:=zD hC0;refine uZ 0 (fun s=> ∃v,y1= .inl v∧s=(fun x=>⟨[],[(0,.cells D5 (O.1,(x,())) [])],1,73,1⟩) v) ?_ ?_
 ·refine uY hy1 (fun x=>⟨[(0,(.val .ref (some (0,0)),none))],[(0,.cells D5 (O.1,(x,())) [])],1,73,1⟩) ⟨[0],[(0,0)]⟩ (by rfl) ?_;intro Z w1 n1 hC1 hN1;unfold FU at hC1;dsimp only at hC1⊢;refine pW ?_;refine xU xW ?_;refine pP hC1 (fun hC1 hc1=> ?_) (fun hC1 hc1=> ?_)
  ·refine qM (pN (rI ?_));obtain⟨hg1,hC1⟩:=pG hC1;refine xU xW ?_ (hp:=by exact hg1);refine rI ?_;obtain⟨hg2,hC1⟩:=pG hC1;refine p8 xW ?_ (hp:=by exact hg2);refine pP hC1 (fun hC1 hc2=> ?_) (fun hC1 hc2=> ?_)
   ·obtain⟨hg3,hC1⟩:=pG hC1;refine qU xW ?_ (hp:=by exact hg3);refine qV (qV ?_);cases hC1;exact sM ⟨⟨[0],[(0,0)]⟩,_,by rfl,hN1⟩
   ·obtain⟨aA,hv4,hw4,hC1⟩:=pT hC1
    try simp only[go_sem] at hw4
    refine p8 xW ?_ (hp:=by exact(pS hv4)) (h:=by simp only[go_sem,hw4];rfl);refine pP hC1 (fun hC1 hc3=> ?_) (fun hC1 hc3=> ?_)
    ·refine p8 xW ?_;refine pW ?_;refine p8 xW ?_;refine pP hC1 (fun hC1 hc4=> ?_) (fun hC1 hc4=> ?_)
     ·obtain⟨hg5,hC1⟩:=pG hC1;refine qU xW ?_ (hp:=by exact hg5);refine pN ?_;obtain⟨hg6,hC1⟩:=pG hC1;obtain⟨hg7,hC1⟩:=pG hC1;refine qU xW ?_ (hp:=by exact⟨hg6,hg7⟩);refine qV (qV ?_);cases hC1;exact sM ⟨⟨[0],[(0,0)]⟩,_,by rfl,hN1⟩
     ·refine qM (pN ?_);obtain⟨hg8,hC1⟩:=pG hC1;obtain⟨hg9,hC1⟩:=pG hC1;refine qU xW ?_ (hp:=by exact⟨hg8,hg9⟩);refine qV (qV ?_);cases hC1;exact sM ⟨⟨[0],[(0,0)]⟩,_,by rfl,hN1⟩
    ·obtain⟨aB,hv10,hw10,hC1⟩:=pT hC1
     try simp only[go_sem] at hw10
     refine p8 xW ?_ (hp:=by exact(pS hv10)) (h:=by simp only[go_sem,hw10];rfl);refine pP hC1 (fun hC1 hc5=> ?_) (fun hC1 hc5=> ?_)
     ·obtain⟨hg11,hC1⟩:=pG hC1;obtain⟨hg12,hC1⟩:=pG hC1;refine p8 xW ?_ (hp:=by exact⟨hg11,hg12⟩);refine pW ?_;refine p8 xW ?_;refine pP hC1 (fun hC1 hc6=> ?_) (fun hC1 hc6=> ?_)
      ·refine p8 xW ?_;refine pI (rF (rM (rM (yI (yH (rM (rF ?_)))))));cases hC1;cases hN1;dsimp only at hC0;cases hC0;exact⟨[(0,0)],by rfl,by rfl,by rfl⟩
      ·refine qM (pN ?_);obtain⟨hg13,hC1⟩:=pG hC1;obtain⟨hg14,hC1⟩:=pG hC1;refine qU xW ?_ (hp:=by exact⟨hg13,hg14⟩);refine qV (qV ?_);cases hC1;exact sM ⟨⟨[0],[(0,0)]⟩,_,by rfl,hN1⟩
     ·refine uG (YX (by decide) (YX (by decide) (uI ?_)));cases hC1;cases hN1;exact uH ⟨⟨[],[(0,0)]⟩,_,rfl,by rfl⟩
  ·refine uG (uO (uI ?_));cases hC1;cases hN1;exact uH ⟨⟨[],[(0,0)]⟩,_,rfl,by rfl⟩
 ·rintro _ ⟨aC,rfl,rfl⟩;dsimp only at hC0⊢;refine uX (pN ?_);refine p8 xW ?_;refine pI ?_;cases hC0;exact⟨[(0,0)],by rfl,by rfl,by rfl⟩
attribute [irreducible] HB
def PA (O:(List UInt8)):Option ((List UInt8)×Int):=if (decide ((O.length:Int)<(2:Int)))=true then some ((([]:List UInt8),(0:Int))) else if 0≤(1:Int)∧(1:Int)<(O.length:Int) then if (decide ((pL O (1:Int))=(110:Int)))=true then some ((([10]:List UInt8),(2:Int))) else if (decide ((pL O (1:Int))=(114:Int)))=true then some ((([13]:List UInt8),(2:Int))) else if (decide ((pL O (1:Int))=(116:Int)))=true then some ((([9]:List UInt8),(2:Int))) else (D8 (pL O (1:Int)) ([92,34,61,58,35,33,123,125,32]:List UInt8)).bind fun Z=>if Z=true then if 0≤(1:Int)∧(1:Int)≤(2:Int)∧(2:Int)≤(O.length:Int) then some (((pH O (1:Int) (2:Int)),(2:Int))) else none else if ((decide ((pL O (1:Int))=(120:Int)))&&(decide ((4:Int)≤(O.length:Int))))=true then if 0≤(2:Int)∧(2:Int)≤(4:Int)∧(4:Int)≤(O.length:Int) then (JD (pH O (2:Int) (4:Int)) (16:Int)).bind fun aA=>if ((decide ((0:Int)≤aA))&&(decide (aA≤(127:Int))))=true then some (((rW ([(IntKind.wrap .u8 aA)]:List Int)),(4:Int))) else some ((([]:List UInt8),(0:Int))) else none else if ((decide ((pL O (1:Int))=(117:Int)))&&(decide ((6:Int)≤(O.length:Int))))=true then if 0≤(2:Int)∧(2:Int)≤(6:Int)∧(6:Int)≤(O.length:Int) then (JD (pH O (2:Int) (6:Int)) (16:Int)).bind fun aB=>if ((decide ((0:Int)≤aB))&&(((decide ((0:Int)≤aB))&&(decide (aB≤(1114111:Int))))&&((decide (aB<(55296:Int)))||(decide ((57343:Int)<aB)))))=true then (D9 aB).bind fun aC=>some ((aC,(6:Int))) else some ((([]:List UInt8),(0:Int))) else none else some ((([]:List UInt8),(0:Int))) else none
attribute [irreducible] PA
def LS (O:(List UInt8)) (Z:(List UInt8)) (aA:(List UInt8)) (aB:(List UInt8)) (aC:(List (List UInt8))) (aD:(Int×((List pR)×Unit))) (aE:Bool) (aF:(List (List UInt8))) (aG:(List ((List UInt8)×Bool))):Option Bool:=(H4 aD.2.1 O).bind fun aH=>some (aH.2)
section
variable (O:(List UInt8)) (Z:(List UInt8)) (aA:(List UInt8)) (aB:(List UInt8)) (aC:(List (List UInt8))) (aD:Nat) (aE:(Int×((List pR)×Unit))) (aF:Bool) (aG:Nat) (aH:Nat) (aI:(List (List UInt8))) (aJ:Nat) (aK:(List ((List UInt8)×Bool)))
abbrev a3G:List pA:=[(.val .str O,none),(.val .ref (some (0,0)),none)]
abbrev a3H:List p9:=[.cells .ref (some (1,0)) [],.cells sJ ((Z,(aA,(aB,(aC,((some (4,aD)),aE))))),(aF,((some 5),()))) [(3,2),(6,3)],.grow 9 1 aG,.grow 149 2 aH,.row 9 .str aI aJ,.map .str .bool aK]
@[go_sem] def a3I:pF:=⟨[aG=(aC.length),aH=(aE.2.1.length),aD=aJ,((LS O Z aA aB aC aE aF aI aK)).isSome=true],[(.val .bool (val (LS O Z aA aB aC aE aF aI aK)),none)],[.cells .ref (some (1,0)) [],.cells sJ ((Z,(aA,(aB,(aC,((some (4,(aI.length))),(aE.1,(aE.2.1,()))))))),(aF,((some 5),()))) [(3,2),(6,3)],.grow 9 1 (aC.length),.grow 149 2 (aE.2.1.length),.row 9 .str aI (aI.length),.map .str .bool aK]⟩
def aCx:List pA→List p9→Option pF:=qP (V:=((List UInt8)×(List UInt8)×(List UInt8)×(List UInt8)×(List (List UInt8))×Nat×(Int×((List pR)×Unit))×Bool×Nat×Nat×(List (List UInt8))×Nat×(List ((List UInt8)×Bool)))) (fun x=>a3G x.1) (fun x=>a3H x.2.1 x.2.2.1 x.2.2.2.1 x.2.2.2.2.1 x.2.2.2.2.2.1 x.2.2.2.2.2.2.1 x.2.2.2.2.2.2.2.1 x.2.2.2.2.2.2.2.2.1 x.2.2.2.2.2.2.2.2.2.1 x.2.2.2.2.2.2.2.2.2.2.1 x.2.2.2.2.2.2.2.2.2.2.2.1 x.2.2.2.2.2.2.2.2.2.2.2.2) fun x=>a3I x.1 x.2.1 x.2.2.1 x.2.2.2.1 x.2.2.2.2.1 x.2.2.2.2.2.1 x.2.2.2.2.2.2.1 x.2.2.2.2.2.2.2.1 x.2.2.2.2.2.2.2.2.1 x.2.2.2.2.2.2.2.2.2.1 x.2.2.2.2.2.2.2.2.2.2.1 x.2.2.2.2.2.2.2.2.2.2.2.1 x.2.2.2.2.2.2.2.2.2.2.2.2
@[go_sem] theorem aPB:aCx (no_index (a3G O)) (no_index (a3H Z aA aB aC aD aE aF aG aH aI aJ aK))=some (a3I O Z aA aB aC aD aE aF aG aH aI aJ aK):=qR (fun⟨a0,a1,a2,a3,a4,a5,a6,a7,a8,a9,a10,a11,a12⟩ ⟨b0,b1,b2,b3,b4,b5,b6,b7,b8,b9,b10,b11,b12⟩ h1 h2=>by cases h1;cases h2;rfl) (O,Z,aA,aB,aC,aD,aE,aF,aG,aH,aI,aJ,aK)
end
@[go_sem] abbrev a3J:Nat×pY:=(254,⟨[.v,.p .ref []],aCx,[(0,0,.p sJ [3,6]),(1,4,.r),(1,8,.m)],[0,1,2,3,4,5],none⟩)
theorem aCy:qE Tryz.prog [] (qC [a25]):=⟨trivial,pK aJ5 qT,qH⟩
theorem a3K:qE Tryz.prog [AW,D7,L9,BQ] (qC [a25]):=⟨⟨CF,⟨FH,⟨TD,⟨D6,trivial⟩⟩⟩⟩,aCy.Γ,qH⟩
theorem aKe:qI Tryz.prog a3J:=by
 refine qS aCy Tryz.func254 (c:=_) rfl (N:=17) (by kernel_rfl) (ts:=[(3,none)]) rfl (fun _ _=>rfl) ?_;intro⟨O,Z,aA,aB,aC,aD,aE,aF,aG,aH,aI,aJ,aK⟩ hs hrow;dsimp only[a3G,a3H,a3I,qK,pM,pV,qG,qO,Nat.reduceAdd] at hs hrow⊢;obtain⟨rfl,rfl,rfl,hz⟩:=hs;obtain⟨rfl,_⟩:=hrow;obtain⟨z0,hC0⟩:=aQn.1 hz
 try rw[r8 hC0]
 clear hz;unfold LS at hC0;refine p8 a3K ?_;obtain⟨aL,hv1,hw1,hC0⟩:=pT hC0
 try simp only[go_sem] at hw1
 refine p8 a3K ?_ (hp:=by exact(pS hv1)) (h:=by simp only[go_sem,hw1];rfl);refine p8 a3K ?_;refine pI ?_;cases hC0;exact⟨[(0,0),(1,1),(2,2),(3,3),(4,4),(5,5)],by rfl,by rfl,by rfl⟩
attribute [irreducible] LS
end
noncomputable section
def EF (O:((List Int)×Unit)) (Z:Int):Option (Int×(List Int)):=(H6 O.1 Z).bind fun aA=>if pB ((aA.length:Int)- (O.1.length:Int)) then some ((((aA.length:Int)- (O.1.length:Int)),aA)) else none
section
variable (O:Int) (Z:((List Int)×Unit)) (aA:Nat)
abbrev a3L:List pA:=[(.val .ref (some (0,0)),none),(.val (.int .i32) O,none)]
abbrev a3M:List p9:=[.cells wD ((some (0,0)),Z) [(1,1)],.grow 5 1 aA]
@[go_sem] def a3N:pF:=⟨[aA=(Z.1.length),((EF Z O)).isSome=true],[(.val (.int .i64) ((val (EF Z O)).1),none),(.any,none)],[.cells wD ((some (0,0)),((val (EF Z O)).2,())) [(1,1)],.grow 5 1 (((val (EF Z O)).2).length)]⟩
def aCz:List pA→List p9→Option pF:=qP (V:=(Int×((List Int)×Unit)×Nat)) (fun x=>a3L x.1) (fun x=>a3M x.2.1 x.2.2) fun x=>a3N x.1 x.2.1 x.2.2
@[go_sem] theorem aPC:aCz (no_index (a3L O)) (no_index (a3M Z aA))=some (a3N O Z aA):=qR (fun⟨a0,a1,a2⟩ ⟨b0,b1,b2⟩ h1 h2=>by cases h1;cases h2;rfl) (O,Z,aA)
end
@[go_sem] abbrev aCA:Nat×pY:=(290,⟨[.p wD [1],.v],aCz,[],[],none⟩)
theorem LT:qE Tryz.prog [FD,FE] (qC [TE,aCk]):=⟨⟨IX,⟨IY,trivial⟩⟩,pK ZP (pK aJ8 qT),qH⟩
theorem aKf:qI Tryz.prog aCA:=by
 refine qS LT Tryz.func290 (c:=_) rfl (N:=30) (by kernel_rfl) (ts:=[(4,none),(5,none)]) rfl (fun _ _=>rfl) ?_;intro⟨O,Z,aA⟩ hs hrow;dsimp only[a3L,a3M,a3N,qK,pM,pV,qG,qO,Nat.reduceAdd] at hs hrow⊢;obtain⟨rfl,hz⟩:=hs;obtain⟨z0,hC0⟩:=aQn.1 hz
 try rw[r8 hC0]
 clear hz;unfold EF at hC0;refine p8 LT ?_;refine p8 LT ?_ (hp:=by first|rfl|trivial)
 refine p8 LT ?_;obtain⟨aB,hv1,hw1,hC0⟩:=pT hC0
 try simp only[go_sem] at hw1
 refine p8 LT ?_ (hp:=by exact⟨by first|rfl|trivial,(pS hv1)⟩) (h:=by simp only[go_sem,hw1];rfl)
 obtain⟨hg2,hC0⟩:=pG hC0;refine p8 LT ?_ (hp:=by exact hg2);refine pI ?_;cases hC0;exact⟨[(0,0),(1,1)],by rfl,by rfl,by rfl⟩
attribute [irreducible] EF
end
noncomputable section
def aKg (O:(List UInt8)):Int→Option (Int⊕Int):=fun Z=>if ((((decide (Z<(O.length:Int)))&&(decide (Z<(12:Int))))==true)=true→0≤Z∧Z<(O.length:Int)) then if (((decide (Z<(O.length:Int)))&&(decide (Z<(12:Int))))&&(!decide ((pL O Z)=(59:Int))))=true then if pB (Z+(1:Int)) then some (.inl (Z+(1:Int))) else none else some (.inr Z) else none
def aCB (O:(List UInt8)):Option ((List UInt8)×Int):=qZ (pU (aKg O) (0:Int)) fun Z=>if (((decide (Z=(O.length:Int)))==false)=true→0≤Z∧Z<(O.length:Int)) then if ((decide (Z=(O.length:Int)))||(!decide ((pL O Z)=(59:Int))))=true then some ((([]:List UInt8),(0:Int))) else if 0≤(1:Int)∧(1:Int)≤Z∧Z≤(O.length:Int) then if (decide ((pH O (1:Int) Z)=([97,109,112]:List UInt8)))=true then if pB (Z+(1:Int)) then some ((([38]:List UInt8),(Z+(1:Int)))) else none else if (decide ((pH O (1:Int) Z)=([108,116]:List UInt8)))=true then if pB (Z+(1:Int)) then some ((([60]:List UInt8),(Z+(1:Int)))) else none else if (decide ((pH O (1:Int) Z)=([103,116]:List UInt8)))=true then if pB (Z+(1:Int)) then some ((([62]:List UInt8),(Z+(1:Int)))) else none else if (decide ((pH O (1:Int) Z)=([113,117,111,116]:List UInt8)))=true then if pB (Z+(1:Int)) then some ((([34]:List UInt8),(Z+(1:Int)))) else none else if (decide ((pH O (1:Int) Z)=([97,112,111,115]:List UInt8)))=true then if pB (Z+(1:Int)) then some ((([39]:List UInt8),(Z+(1:Int)))) else none else qZ (σ:=Int) (if ((((decide ((3:Int)≤((pH O (1:Int) Z).length:Int)))&&(decide (((pH O (1:Int) Z).length:Int)≤(8:Int))))==true)=true→0≤(0:Int)∧(0:Int)≤(2:Int)∧(2:Int)≤((pH O (1:Int) Z).length:Int)) then if (((decide ((3:Int)≤((pH O (1:Int) Z).length:Int)))&&(decide (((pH O (1:Int) Z).length:Int)≤(8:Int))))&&(decide ((pH (pH O (1:Int) Z) (0:Int) (2:Int))=([35,120]:List UInt8))))=true then if 0≤(2:Int)∧(2:Int)≤((pH O (1:Int) Z).length:Int)∧((pH O (1:Int) Z).length:Int)≤((pH O (1:Int) Z).length:Int) then (JD (pH (pH O (1:Int) Z) (2:Int) ((pH O (1:Int) Z).length:Int)) (16:Int)).bind fun aA=>some (aA) else none else if ((((decide ((2:Int)≤((pH O (1:Int) Z).length:Int)))&&(decide (((pH O (1:Int) Z).length:Int)≤(8:Int))))==true)=true→0≤(0:Int)∧(0:Int)≤(1:Int)∧(1:Int)≤((pH O (1:Int) Z).length:Int)) then if (((decide ((2:Int)≤((pH O (1:Int) Z).length:Int)))&&(decide (((pH O (1:Int) Z).length:Int)≤(8:Int))))&&(decide ((pH (pH O (1:Int) Z) (0:Int) (1:Int))=([35]:List UInt8))))=true then if 0≤(1:Int)∧(1:Int)≤((pH O (1:Int) Z).length:Int)∧((pH O (1:Int) Z).length:Int)≤((pH O (1:Int) Z).length:Int) then (JD (pH (pH O (1:Int) Z) (1:Int) ((pH O (1:Int) Z).length:Int)) (10:Int)).bind fun aB=>some (aB) else none else some ((-1:Int)) else none else none ) fun aC=>if ((decide (aC<(0:Int)))||(!(((decide ((0:Int)≤aC))&&(decide (aC≤(1114111:Int))))&&((decide (aC<(55296:Int)))||(decide ((57343:Int)<aC))))))=true then some ((([]:List UInt8),(0:Int))) else (D9 aC).bind fun aD=>if pB (Z+(1:Int)) then some ((aD,(Z+(1:Int)))) else none else none else none
attribute [irreducible] aCB
def PB (O:(List (List UInt8))):Int→Option (Int⊕(Unit⊕Int)):=fun Z=>if (decide (Z<(O.length:Int)))=true then if 0≤Z∧Z<(O.length:Int) then (P0 (pZ .str O Z)).bind fun aA=>if (!((decide (((pZ .str O Z).length:Int)≤(4000:Int)))&&(Lib.validD (pZ .str O Z))))=true then some (.inr (.inr (Z))) else if pB (Z+(1:Int)) then some (.inl (Z+(1:Int))) else none else none else some (.inr (.inl ()))
def LU (O:(List (List UInt8))):Option Int:=rZ (pU (PB O) (0:Int)) fun _=>some ((-1:Int))
section
variable (O:(List (List UInt8)))
abbrev a3O:List pA:=[(.val (.list .str) O,none),(.val .clo (some (160,[])),none)]
abbrev a3P:List p9:=[]
@[go_sem] def a3Q:pF:=⟨[((LU O)).isSome=true],[(.val (.int .i64) (val (LU O)),none)],[]⟩
def aCC:List pA→List p9→Option pF:=qP (V:=(List (List UInt8))) (fun x=>a3O x) (fun x=>a3P) fun x=>a3Q x
@[go_sem] theorem aPD:aCC (no_index (a3O O)) (no_index a3P)=some (a3Q O):=qR (fun a0 b0 h1 h2=>by cases h1;cases h2;rfl) O
end
@[go_sem] abbrev aCD:Nat×pY:=(197,⟨[.v,.v],aCC,[],[],none⟩)
theorem FV:qE Tryz.prog [rR,vX] (qC [aCt]):=⟨⟨rU,⟨wP,trivial⟩⟩,pK aKc qT,qH⟩
theorem aKh:qI Tryz.prog aCD:=by
 refine qS FV Tryz.func197 (c:=_) rfl (N:=19) (by kernel_rfl) (ts:=[(4,none)]) rfl (fun _ _=>rfl) ?_;intro O hs hrow;dsimp only[a3O,a3P,a3Q,qK,pM,pV,qG,qO,Nat.reduceAdd] at hs hrow⊢;have hz:=hs;obtain⟨z0,hC0⟩:=aQn.1 hz
 try rw[r8 hC0]
 clear hz hs;unfold LU at hC0;refine p8 FV ?_;refine pW ?_;refine p8 FV ?_;refine rI ?_;obtain⟨y1,hy1,hC0⟩:=zD hC0;refine uZ 0 (fun s=> ∃v,y1= .inl v∧s=(fun _=>⟨[],[],0,19,0⟩) v) ?_ ?_
 ·refine uY hy1 (fun x=>⟨[(0,(.val (.list .str) O,none)),(1,(.val .clo (some (160,[])),none)),(7,(.val (.int .i64) (O.length:Int),none)),(8,(.val (.int .i64) x,none))],[],0,19,0⟩) ⟨[0,1,7,8],[]⟩ (by rfl) ?_;intro Z w1 n1 hC1 hN1;unfold PB at hC1;dsimp only at hC1⊢;refine p8 FV ?_;refine pW ?_;refine pP hC1 (fun hC1 hc1=> ?_) (fun hC1 hc1=> ?_)
  ·refine qM (pN (pW (rI ?_)));refine p8 FV ?_;obtain⟨hg1,hC1⟩:=pG hC1;obtain⟨aA,hv2,hw2,hC1⟩:=pT hC1
   try simp only[go_sem] at hw2
   refine p8 FV ?_ (hp:=by exact⟨hg1,(pS hv2)⟩) (h:=by simp only[go_sem,hw2];rfl);refine pP hC1 (fun hC1 hc2=> ?_) (fun hC1 hc2=> ?_)
   ·refine p8 FV ?_;refine pI (rM (rF (yI (yH (rM (rF ?_))))));cases hC1;cases hN1;dsimp only at hC0;cases hC0;exact⟨[],by rfl,by rfl,by rfl⟩
   ·refine qM (qV (pN ?_));obtain⟨hg3,hC1⟩:=pG hC1;refine qU FV ?_ (hp:=by exact hg3);cases hC1;exact sM ⟨⟨[0,1,7,8],[]⟩,_,by rfl,hN1⟩
  ·refine uG (uO (uI ?_));cases hC1;cases hN1;exact uH ⟨⟨[],[]⟩,_,rfl,by rfl⟩
 ·rintro _ ⟨v,rfl,rfl⟩;dsimp only at hC0⊢;refine uX (pN ?_);refine p8 FV ?_;refine pI ?_;cases hC0;exact⟨[],by rfl,by rfl,by rfl⟩
attribute [irreducible] LU
def B0 (O:(List (List UInt8))):Option Bool:=(LU O).bind fun Z=>some ((decide ((0:Int)≤Z)))
section
variable (O:(List (List UInt8)))
abbrev a3R:List pA:=[(.val (.list .str) O,none),(.val .clo (some (160,[])),none)]
abbrev a3S:List p9:=[]
@[go_sem] def a3T:pF:=⟨[((B0 O)).isSome=true],[(.val .bool (val (B0 O)),none)],[]⟩
def aCE:List pA→List p9→Option pF:=qP (V:=(List (List UInt8))) (fun x=>a3R x) (fun x=>a3S) fun x=>a3T x
@[go_sem] theorem aPE:aCE (no_index (a3R O)) (no_index a3S)=some (a3T O):=qR (fun a0 b0 h1 h2=>by cases h1;cases h2;rfl) O
end
@[go_sem] abbrev aCF:Nat×pY:=(159,⟨[.v,.v],aCE,[],[],none⟩)
theorem a3U:qE Tryz.prog [] (qC [aCD]):=⟨trivial,pK aKh qT,qH⟩
theorem aKi:qI Tryz.prog aCF:=by
 refine qS a3U Tryz.func159 (c:=_) rfl (N:=9) (by kernel_rfl) (ts:=[(4,none)]) rfl (fun _ _=>rfl) ?_;intro O hs hrow;dsimp only[a3R,a3S,a3T,qK,pM,pV,qG,qO,Nat.reduceAdd] at hs hrow⊢;have hz:=hs;obtain⟨z0,hC0⟩:=aQn.1 hz
 try rw[r8 hC0]
 clear hz hs;unfold B0 at hC0;refine p8 a3U ?_;obtain⟨Z,hv1,hw1,hC0⟩:=pT hC0
 try simp only[go_sem] at hw1
 refine p8 a3U ?_ (hp:=by exact(pS hv1)) (h:=by simp only[go_sem,hw1];rfl);refine pI ?_;cases hC0;exact⟨[],by rfl,by rfl,by rfl⟩
attribute [irreducible] B0
def PC (O:(List (List UInt8))):((List UInt8)×Int)→Option (((List UInt8)×Int)⊕(List UInt8)):=fun(Z,aA)=>if (decide (aA<(O.length:Int)))=true then if 0≤aA∧aA<(O.length:Int) then (zZ (pZ .str O aA)).bind fun aB=>if ((([10,32,32,99,111,109,109,101,110,116,32]:List UInt8)++aB).length:Int)≤9223372036854775807 then if ((Z++(([10,32,32,99,111,109,109,101,110,116,32]:List UInt8)++aB)).length:Int)≤9223372036854775807 then if pB (aA+(1:Int)) then some (.inl ((Z++(([10,32,32,99,111,109,109,101,110,116,32]:List UInt8)++aB)),(aA+(1:Int)))) else none else none else none else none else some (.inr Z)
def HC (O:(List (List UInt8))):Option (List UInt8):=qZ (pU (PC O) (([]:List UInt8),(0:Int))) fun Z=>some (Z)
section
variable (O:(List (List UInt8)))
abbrev a3V:List pA:=[(.val (.list .str) O,none)]
abbrev a3W:List p9:=[]
@[go_sem] def a3X:pF:=⟨[((HC O)).isSome=true],[(.val .str (val (HC O)),none)],[]⟩
def aCG:List pA→List p9→Option pF:=qP (V:=(List (List UInt8))) (fun x=>a3V x) (fun x=>a3W) fun x=>a3X x
@[go_sem] theorem aPF:aCG (no_index (a3V O)) (no_index a3W)=some (a3X O):=qR (fun a0 b0 h1 h2=>by cases h1;cases h2;rfl) O
end
@[go_sem] abbrev a3Y:Nat×pY:=(61,⟨[.v],aCG,[],[],none⟩)
theorem FW:qE Tryz.prog [rR,vX] (qC [P9]):=⟨⟨rU,⟨wP,trivial⟩⟩,pK U8 qT,qH⟩
theorem aCH:qI Tryz.prog a3Y:=by
 refine qS FW Tryz.func61 (c:=_) rfl (N:=19) (by kernel_rfl) (ts:=[(2,none)]) rfl (fun _ _=>rfl) ?_;intro O hs hrow;dsimp only[a3V,a3W,a3X,qK,pM,pV,qG,qO,Nat.reduceAdd] at hs hrow⊢;have hz:=hs;obtain⟨z0,hC0⟩:=aQn.1 hz
 try rw[r8 hC0]
 clear hz hs;unfold HC at hC0;refine p8 FW ?_;refine p8 FW ?_;refine pW ?_;refine p8 FW ?_;refine rI ?_;obtain⟨Z,hy1,hC0⟩:=pD hC0;refine uZ 0 (fun s=>s=(fun x=>⟨[(3,(.val .str x,none))],[],0,19,0⟩) Z) ?_ ?_
 ·refine uY hy1 (fun x=>⟨[(3,(.val .str x.1,none)),(6,(.val (.list .str) O,none)),(7,(.val (.int .i64) (O.length:Int),none)),(8,(.val (.int .i64) x.2,none))],[],0,19,0⟩) ⟨[3,6,7,8],[]⟩ (by rfl) ?_;intro x1 w1 n1 hC1 hN1;obtain⟨aA,aB⟩:=x1;unfold PC at hC1;dsimp only at hC1⊢;refine p8 FW ?_;refine pW ?_;refine pP hC1 (fun hC1 hc1=> ?_) (fun hC1 hc1=> ?_)
  ·refine qM (pN (pW (rI ?_)));obtain⟨hg1,hC1⟩:=pG hC1;refine p8 FW ?_ (hp:=by exact hg1);obtain⟨aC,hv2,hw2,hC1⟩:=pT hC1
   try simp only[go_sem] at hw2
   obtain⟨hg3,hC1⟩:=pG hC1;obtain⟨hg4,hC1⟩:=pG hC1;refine qU FW ?_ (hp:=by exact⟨pS hv2,hg3,hg4⟩) (h:=by simp only[go_sem,hw2];rfl);refine qV (pN ?_);obtain⟨hg5,hC1⟩:=pG hC1;refine qU FW ?_ (hp:=by exact hg5);cases hC1;exact sM ⟨⟨[3,6,7,8],[]⟩,_,by rfl,hN1⟩
  ·refine uG (uO (uI ?_));cases hC1;cases hN1;exact uH ⟨⟨[3],[]⟩,by rfl⟩
 ·rintro _ rfl;dsimp only at hC0⊢;refine uX (pN ?_);refine p8 FW ?_;refine pI ?_;cases hC0;exact⟨[],by rfl,by rfl,by rfl⟩
attribute [irreducible] HC
end
end Go.Proofs.YtbbpilohihldiaaGreatDoor
