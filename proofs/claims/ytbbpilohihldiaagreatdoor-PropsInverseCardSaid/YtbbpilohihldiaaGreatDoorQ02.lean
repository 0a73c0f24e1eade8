/- Packed by a program of mine (wip/tools/pack.py): the same texts with short names and few blanks. -/
import Derived.BigCall
import Derived.BigGuard
import Derived.Handy
import Derived.KernelRfl
import Derived.Lib.Hide
import Derived.Lib.ItoaMem
import Derived.Lib.MapLaws
import Derived.Lib.TrimAscii
import Derived.Lib.TrimUEq
import Derived.Lib.ValidLaws
import Derived.LoopIn
import Derived.LoopNIn
import Derived.OwnWalkIn
import Derived.RangeFuncBox
import Derived.RangeFuncLeaves
import Derived.Shelf.Abstract
import Derived.Shelf.Small.Strs
import Derived.Shelf.Spec.SlicesInsertGrow
import Derived.Shelf.Strings.Repeat
import Derived.TacticsInMore
import Derived.Test.YtbbpilohihldiaaGreatDoorChecked
import Derived.Test.YtbbpilohihldiaaGreatDoorProg
import Derived.WalkKit
import Derived.Test.YtbbpilohihldiaaGreatDoorQ01
set_option linter.unusedVariables false
set_option linter.unusedSimpArgs false
set_option linter.unusedSectionVars false
set_option maxRecDepth 100000
set_option maxHeartbeats 4000000
namespace Go.Proofs.YtbbpilohihldiaaGreatDoor
open Vc Go.RowKit
@[go_sem] def noC:List pB->List p9->Option pH:=fun _ _=>none
def s5 (l:List (List UInt8)):List (List UInt8):=l.mergeSort fun x y=>decide (x<=y)
@[go_sem] def a9V:(t:Ty)->List t.den->Option (List t.den)
 | .str,l=>some (s5 l)
 |_,_=>none
theorem a9W {g:Gh}{w:World}: ∀{l:List (List UInt8)}{xs:List Value},sB (Rd g w .str) 1 l xs->xs=l.map Go.Proofs.encStr
 |[],_,h=>h
 |_::_,_,⟨c1,c2,e,_,h2,h3⟩=>by rw[e,show c1=_ from h2,a9W h3];rfl
theorem a9X {g:Gh}{w:World}: ∀(l:List (List UInt8)),sB (Rd g w .str) 1 l (l.map Go.Proofs.encStr)
 |[]=>rfl
 |x::l=>⟨[.string ⟨x.toArray⟩],_,rfl,rfl,rfl,a9X l⟩
theorem aIr (s:List (List UInt8)) (cur:Array Value) (h:s.length<=cur.size):(Go.Sort.putCells Go.Proofs.encStr 0 s.toArray cur).toList.take s.length=s.map Go.Proofs.encStr:=by
 apply List.ext_getElem
 ·simp [Go.Sort.putCells];omega
 ·intro i h1 h2;have hi:i<s.length:=by simpa using h2
  simp only[Go.Sort.putCells,List.getElem_take,Array.getElem_toList,Array.getElem_mapIdx,List.getElem_map];rw[if_pos (by simp;exact hi)];simp [hi]
theorem aIs:yH Tryz.prog 147 noC/\∀F,some a9V=some F->RU Tryz.prog 147 F:=by
 refine⟨⟨fun _ _=>rfl,fun g w args vals L r _ _ hC _=>by cases hC⟩,fun F hF=> ?_⟩;cases hF;intro g w e t l l' v n xs hT hown hF hl hn hf;cases t with
 |str=>
  have hf:s5 l=l':=aPS hf;subst hf;subst hl;have hlen:(s5 l).length=l.length:=by simp [s5]
  obtain⟨hx,⟨rfl,h0⟩ |⟨b,cap,cur,rfl,hb0,hbk,hnc,hcm,hcs,htk⟩⟩:=hown
  ·obtain rfl:l=[]:=aQJ.1 h0;refine(Any.slices_Sort_string_none Tryz.lays190 none 0 w).mono ?_;rintro en w' ⟨rfl,rfl⟩;exact⟨rfl,hlen,[],⟨rfl,.inl ⟨rfl,rfl⟩⟩,by simp [s5,sB],⟨rfl,rfl,rfl,Nat.le_refl _,fun _ _ _=>rfl⟩⟩
  ·have hxs:=a9W hF;subst hxs;have hc1:(Ty.str).cells=1:=rfl;rw[hc1,aRX] at hcs htk;have hbl:b<w.heap.size:=by
    rcases aQ8 b w.heap.size with h|h
    ·exact h
    ·rw[Array.getElem?_eq_none h] at hbk;cases hbk
   have hH:Go.Sort.Holds Go.Proofs.encStr w b 0 l.toArray:=by
    intro j hj;have hj':j<l.length:=by simpa using hj
    refine⟨?_,Lib.frozen_of_heap hbk _⟩;rw[Lib.cell_of_heap hbk,aQo];have h2:(cur.toList.take l.length)[j]? =(l.map Go.Proofs.encStr)[j]? :=by rw[htk]
    rw[aRR hj',aQV] at h2;rw[h2];simp [hj']
   refine(Any.slices_Sort_string Tryz.lays190 b 0 cap l w hH hbl hn).mono ?_;rintro en w' ⟨rfl,m,os,rfl⟩;have hsz:(s5 l).length<=cur.size:=by rw[hlen,hcs];exact hnc
   have hnew:(Go.Sort.grow (Go.Sort.putRow Go.Proofs.encStr (Go.Sort.ahead w m) b 0 (s5 l).toArray) os).heap[b]? =some (.cells (Go.Sort.putCells Go.Proofs.encStr 0 (s5 l).toArray cur) e (0,0)):=by
    rw[Go.Sort.heap_grow_old _ _ (by simpa using hbl)];simp [Go.Sort.putRow,Go.Sort.mapBlock,aRj,hbk,Go.Sort.onCells]
   refine⟨rfl,hlen,(s5 l).map Go.Proofs.encStr,⟨by simp [hlen,hc1],.inr ⟨b,cap,_,rfl,hb0,hnew,hnc,hcm,?_,?_⟩⟩,a9X _,⟨rfl,rfl,rfl,by simp,fun k hk hne=> ?_⟩⟩
   ·rw[hc1,aRX];simpa[Go.Sort.putCells] using hcs
   ·rw[hc1,aRX,<-hlen];exact aIr _ _ hsz
   ·rw[Go.Sort.heap_grow_old _ _ (by simpa using hk)];have hkb:b≠k:=fun h=>hne (by rw[h];rfl);simp [Go.Sort.putRow,Go.Sort.mapBlock,aRj,hkb]
 |_=>cases hf
@[go_sem] def YC:List pB->List p9->Option pH
 |[(.val .ref (some (0,0)),none)],[.cells (.pair .mref (.pair (.list (.int .u8)) .unit)) ((some (0,0)),O) [(1,1)],.grow Z 1 aA]=>some ⟨[aA=List.length O.1],[],[.cells (.pair .mref (.pair (.list (.int .u8)) .unit)) ((some (0,0)),O) [(1,1)],.grow Z 1 aA]⟩
 |_,_=>none
theorem aIt {g:Gh}{w:World}{L:List p9}{e:pM}{w':World}{u v:Value}{r:pH}(hE:qV g w (pN 0 L) e g w' u)
  (hH: ∀i,pD (pN 0 r.H) i=pD (pS e.upd (pN 0 L)) i) (hin: ∀i,i∈pE e.upd->i<L.length) (hlen:r.H.length=L.length)
  (hp: ∀i blk b o,r.H[i]? =some blk->rE g i blk b o->w.heap.size<=b\/xZ g (pN 0 L) b o)
  (hty: ∀(i:Nat) t x ts u y us,L[i]? =some (.cells t x ts)->r.H[i]? =some (.cells u y us)->u=t)
  (hret:NH g w' r.ret v):HZ g w L r g w' v:=
 ⟨fun b o h=>⟨h,hE.le.cell b o h⟩,hE.heap.ext hH,hret,hE.fr.mono fun b o ⟨i,blk,_,h1,h2⟩=>⟨i,blk,h1,h2⟩,hp,fun _ _ _ _ _=>rfl,hty,fun _ _ _ h=>h,fun _ _ _ _ h=>h⟩
theorem aIu {P:Program}{ρ:Go.Shelf.Ren}(L:Lays.n240 P ρ) (X:Builder.X72 P ρ) {e:TypeId}(b:Nat) (w:World) (h0:w.cell? ⟨b,0,none⟩=some (.pointer none)) (hsh:w.shape? b=some (e,2)) (hl:liesAt P P.depth e (2/P.cellsOf e) 0 (ρ.t 72) 1=true) (hfz:w.frozen? ⟨b,0,none⟩=false):
  Calls P (ρ.f 240) #[.pointer (some ⟨b,0,none⟩)] w fun en w'=>en= .returned (.tuple #[])/\w'=w.setCell ⟨b,0,none⟩ (.pointer (some ⟨b,0,none⟩)):=by
 obtain⟨j,hj,hjs⟩:=aP3.1 X.sizeBuilder;have mixed:=L.mixed;have t72:=L.t72;have a72:=L.a72;have z72:=L.z72;have v72:=L.v72;have u72:=aP6 L.t72;have t70:=L.t70;have a70:=L.a70;have z70:=L.z70;have v70:=L.v70;have u70:=aP6 L.t70;have t9:=L.t9;have a9:=L.a9;have z9:=L.z9;have v9:=L.v9;have u9:=aP6 L.t9;have t4:=L.t4;have a4:=L.a4;have z4:=L.z4;have v4:=L.v4;have u4:=aP6 L.t4;have t164:=L.t164;have a164:=L.a164;have z164:=L.z164;have v164:=L.v164;have u164:=aP6 L.t164
 go_enter L.f240,Body.n240_ntmps ρ
 go_wp2
 rw[Lib.run_to_unsafe w ⟨b,0,none⟩ L.t70 L.t164 hj (by rw[hjs];decide) hsh (Nat.zero_lt_succ 1)];simp only[Result.andThen];rw[Oper.upon_value]
 go_wp2
 rw[run_callFunc_extern L.f276 (by kernel_rfl) (by kernel_rfl) (by kernel_rfl) (e:=Extern.AbiNoEscape.same) (by kernel_rfl)];rw[Lib.run_noEscape];simp only[Result.andThen];rw[Oper.upon_value]
 go_wp2
 rw[Lib.run_from_unsafe w ⟨b,0,none⟩ L.t164 L.t70 hj hsh hl];simp only[Result.andThen];rw[Oper.upon_value]
 go_wp2
 go_end0
 exact⟨rfl,rfl⟩
theorem aIv:yH Tryz.prog 93 YC:=by
 refine⟨fun _ _=>rfl,fun g w args vals L r hH ha hC hs=> ?_⟩;unfold YC at hC;split at hC
 ·rename_i O Z aA;cases hC;obtain⟨va,_,rfl,ra,hv⟩:=ha;cases hv;have hg0:pD (pN 0 [p9.cells (.pair .mref (.pair (.list (.int .u8)) .unit)) ((some (0,0)),O) [(1,1)],.grow Z 1 aA]) 0=some (.cells (.pair .mref (.pair (.list (.int .u8)) .unit)) ((some (0,0)),O) [(1,1)]):=rfl;obtain⟨p,cs,hJ,hR,hra,hth,hns,htk⟩:=hH.blk 0 _ hg0;obtain⟨c1,c2,rfl,hR1,hR2⟩:=hR;obtain⟨p',hJ',⟨hp0,eb,heb,hk3⟩,hc1⟩:=hR1;rw[hJ] at hJ';obtain rfl:=aPS hJ';obtain⟨b,o,k⟩:=p;have ho:o=0:=by simpa using hp0
  subst ho;have hlies:liesAt Tryz.prog Tryz.prog.depth eb (2/Tryz.prog.cellsOf eb) 0 84 1=true:=by
   unfold VF at heb;split at heb
   ·rename_i h;subst h;kernel_rfl
   ·split at heb
    ·rename_i h;subst h;kernel_rfl
    ·cases heb
  have hva:va= .pointer (some ⟨b,0,none⟩):=by
   obtain⟨q,hq,e⟩:=yX ra.1;rw[hJ] at hq;cases hq;exact e
  subst hva;have hsh:w.shape? b=some (eb,2):=hth.2 (by decide) _ hk3;rcases hc1 with rfl|rfl
  ·have h0:w.cell? ⟨b,0,none⟩=some (.pointer none)/\w.frozen? ⟨b,0,none⟩=false:=⟨hra 0 _ rfl,(hth.1 0 (by decide)).2⟩;refine(aIu Tryz.lays240 Tryz.builderX72 b w h0.1 hsh hlies h0.2).mono ?_;rintro en w' ⟨rfl,rfl⟩;refine⟨_,g,rfl,?_⟩;have hE:=qV.store (side:=[]) (rds:=[]) hH (i:=0) (t:= .mref) (y:=some (0,0)) (off:=0) (k:=none) (p:=⟨b,0,k⟩) (cy:=[.pointer (some ⟨b,0,none⟩)]) (v:= .pointer (some ⟨b,0,none⟩)) hg0 hJ (z:=((some (0,0)),O)) (by rfl) ⟨_,hJ,⟨rfl,_,heb,hk3⟩,.inr rfl⟩ trivial (fun _ _ h=>by cases h) (fun _=>rfl);refine aIt hE.1 ?_ ?_ rfl ?_ ?_ ?_
   ·intro i
    match i with
    |0=>rfl
    |1=>rfl
    |i+2=>rfl
   ·intro i hi;simp [pE] at hi;subst hi;exact Nat.zero_lt_succ _
   ·intro i blk b o hi ho;exact .inr ⟨i,blk,by rw[RT];simpa using hi,ho⟩
   ·intro i t x ts u y us h1 h2;rw[h1] at h2;cases h2;rfl
   ·exact⟨[],rfl,rfl⟩
  ·have h0:w.cell? ⟨b,0,none⟩=some (.pointer (some ⟨b,0,none⟩)):=hra 0 _ rfl;refine(Any.Builder_copyCheck_used Tryz.lays240 Tryz.builderX72 b w h0).mono ?_;rintro en w' ⟨rfl,rfl⟩;refine⟨_,g,rfl,⟨fun b o h=>⟨h,rfl⟩,hH,⟨[],rfl,rfl⟩,Fr.refl _ _ _,?_,fun _ _ _ _ _=>rfl,?_,fun _ _ _ h=>h,fun _ _ _ _ h=>h⟩⟩
   ·intro i blk b o hi ho;exact .inr ⟨i,blk,by rw[RT];simpa using hi,ho⟩
   ·intro i t x ts u y us h1 h2;rw[h1] at h2;cases h2;rfl
 ·cases hC
theorem a9Y {P:Program}(w:World): ∀(l:List Int) (a:Addr) (acc:ByteArray),(∀j x,l[j]? =some x->w.cell? (a.add j)=some (.int .u8 x))->
  (loadBytes a acc l.length).run P w= .ok ⟨acc.data++(rV l).toArray⟩ w
 |[],a,acc,_=>by simp [loadBytes,rV]
 |x::l,a,acc,h=>by
  have h0:w.cell? a=some (.int .u8 x):=by
   have:=h 0 x rfl;simpa[Addr.add] using this
  have ih:=a9Y (P:=P) w l (a.add 1) (acc.push (UInt8.ofNat x.toNat)) (fun j y hy=>by
   have:=h (j+1) y (by simpa using hy);have e:(a.add 1).add j=a.add (j+1):=by
    unfold Addr.add;by_cases hj:j=0
    ·subst hj;simp
    ·simp [hj];omega
   rw[e];exact this)
  have hx:x.toNat.toUInt8=UInt8.ofNat x.toNat:=rfl;simp only[aPR,loadBytes,aP4,run_load,h0,Result.andThen,hx];rw[ih];congr 1;apply ByteArray.ext;simp [ByteArray.push,rV]
theorem aIw {P:Program}(w:World) (pt it ty e:TypeId) (hp:P.underlying pt=some (.pointer e)) (hc:P.cellsOf e=1) (g cells:Nat) (hsh:w.shape? g=some (e,cells)) (l:List Int) (h0:l≠[]) (hn:l.length<=cells) (h63:l.length<=9223372036854775807)
  (hcell: ∀j x,l[j]? =some x->w.cell? ((⟨g,0,none⟩:Addr).add j)=some (.int .u8 x)):
  (Builtin.unsafeString_ #[pt,it] ty #[.pointer (some ⟨g,0,none⟩),.int .i64 l.length]).run P w= .ok (.string ⟨(rV l).toArray⟩) (w.freeze ⟨g,0,none⟩ l.length):=by
 have hl:l.length≠0:=by simpa using h0
 have hlb:=a9Y (P:=P) w l ⟨g,0,none⟩ .empty hcell;have hlies:=Lib.liesAt_bytes (P:=P) hc (cells/P.cellsOf e) l.length (by rw[hc];simpa using hn);have h63': ¬(9223372036854775807:Int)<(l.length:Int):=by omega
 have hdef:Builtin.unsafeString_ #[pt,it] ty #[.pointer (some ⟨g,0,none⟩),.int .i64 l.length]=
   (do
    let n<-asInt (.int .i64 l.length)
    if n<0 then runtimePanic (.error "unsafe.String: len out of range")
    if n>IntKind.i64.max then unsupported (.unsafePointer "String: a length above the largest int")
    if n=0 then pure (.string .empty)
    else if<-variablesAt ⟨g,0,none⟩ (<-elemOf pt) n.toNat then do
     let s<-loadBytes ⟨g,0,none⟩ .empty n.toNat
     freeze ⟨g,0,none⟩ n.toNat
     pure (.string s)
    else unsupported (.unsafePointer "String: not so many bytes at ptr")):=rfl
 rw[hdef];have hmax:IntKind.i64.max=9223372036854775807:=rfl;have hneg: ¬(l.length:Int)<0:=by omega
 simp [asInt,asIntOf,hmax,h63',hneg,hl,variablesAt,hsh,elemOf,aP6 hp,hlies,hlb]
theorem YD {P:Program}{ρ:Go.Shelf.Ren}(L:Lays.n169 P ρ) (X:Builder.Extra P ρ) (b n cap:Nat) (a q:Option Addr) (s:ByteArray) (w w2:World)
  (c1:w.drew.cell? ⟨b,1,none⟩=some (.slice a n cap)) (hSD:(Builtin.unsafeSliceData_ #[(ρ.t 37)] (ρ.t 127) #[.slice a n cap]).run P w.drew= .ok (.pointer q) w.drew)
  (hUS:(Builtin.unsafeString_ #[(ρ.t 127),(ρ.t 3)] (ρ.t 9) #[.pointer q,.int .i64 n]).run P w.drew= .ok (.string s) w2):
  Calls P (ρ.f 169) #[.pointer (some ⟨b,0,none⟩)] w fun e w'=>e= .returned (.string s)/\w'=w2:=by
 have mixed:=L.mixed;have t72:=L.t72;have a72:=L.a72;have z72:=L.z72;have v72:=L.v72;have u72:=aP6 L.t72;have t70:=L.t70;have a70:=L.a70;have z70:=L.z70;have v70:=L.v70;have u70:=aP6 L.t70;have t37:=L.t37;have a37:=L.a37;have z37:=L.z37;have v37:=L.v37;have u37:=aP6 L.t37;have t127:=L.t127;have a127:=L.a127;have z127:=L.z127;have v127:=L.v127;have u127:=aP6 L.t127;have t3:=L.t3;have a3:=L.a3;have z3:=L.z3;have v3:=L.v3;have u3:=aP6 L.t3;have t9:=L.t9;have a9:=L.a9;have z9:=L.z9;have v9:=L.v9;have u9:=aP6 L.t9;have t5:=X.t5;have a5:=X.a5;have z5:=X.z5;have v5:=X.v5;have u5:=aP6 X.t5
 go_enter L.f169,Body.n169_ntmps ρ
 go_wp2
 go_region_o
 all_goals (go_wp2;go_ret;exact⟨rfl,rfl⟩)
theorem aIx {P:Program}{ρ:Go.Shelf.Ren}(L:Lays.n169 P ρ) (X:Builder.Extra P ρ) (b g:Nat) (cur:Array Value) (w:World) (hlt:b<w.heap.size)
  (c1:w.drew.cell? ⟨b,1,none⟩=some (.slice (some ⟨g,0,none⟩) 0 0)) (hg:w.drew.heap[g]? =some (.cells cur (ρ.t 5) (0,0))):
  Calls P (ρ.f 169) #[.pointer (some ⟨b,0,none⟩)] w fun e w'=>e= .returned (.string ⟨#[]⟩)/\w'=w.drew.alloc (.view ⟨g,0,none⟩ (ρ.t 5)):=by
 have hUS:=Any.unsafeString_none L X;have hSD:(Builtin.unsafeSliceData_ #[(ρ.t 37)] (ρ.t 127) #[.slice (some ⟨g,0,none⟩) 0 0]).run P w.drew= .ok (.pointer (some ⟨w.drew.heap.size,0,none⟩)) (w.drew.alloc (.view ⟨g,0,none⟩ (ρ.t 5))):=
  Lib.run_unsafeSliceData_zero w.drew _ _ (ρ.t 5) L.t127 ⟨g,0,none⟩ 0 ((ρ.t 5),cur.size) (by simp [World.shape?,hg])
 have c2:(w.drew.alloc (.view ⟨g,0,none⟩ (ρ.t 5))).cell? ⟨b,1,none⟩=some (.slice (some ⟨g,0,none⟩) 0 0):=
  (aQb (a:=⟨b,1,none⟩) (Lib.alloc_old w.drew _ b hlt)).trans c1
 have c3:(w.alloc (.view ⟨g,0,none⟩ (ρ.t 5))).drew.cell? ⟨b,1,none⟩=some (.slice (some ⟨g,0,none⟩) 0 0):=c2;have c0:w.cell? ⟨b,1,none⟩=some (.slice (some ⟨g,0,none⟩) 0 0):=c1;have mixed:=L.mixed;have t72:=L.t72;have a72:=L.a72;have z72:=L.z72;have v72:=L.v72;have u72:=aP6 L.t72;have t70:=L.t70;have a70:=L.a70;have z70:=L.z70;have v70:=L.v70;have u70:=aP6 L.t70;have t37:=L.t37;have a37:=L.a37;have z37:=L.z37;have v37:=L.v37;have u37:=aP6 L.t37;have t127:=L.t127;have a127:=L.a127;have z127:=L.z127;have v127:=L.v127;have u127:=aP6 L.t127;have t3:=L.t3;have a3:=L.a3;have z3:=L.z3;have v3:=L.v3;have u3:=aP6 L.t3;have t9:=L.t9;have a9:=L.a9;have z9:=L.z9;have v9:=L.v9;have u9:=aP6 L.t9;have t5:=X.t5;have a5:=X.a5;have z5:=X.z5;have v5:=X.v5;have u5:=aP6 X.t5
 go_enter L.f169,Body.n169_ntmps ρ
 go_wp2
 go_region_o
 all_goals (go_wp2;go_ret;exact⟨rfl,rfl⟩)
@[go_sem] def YE:List pB->List p9->Option pH
 |[(.val .ref (some (0,0)),none)],[.cells (.pair .mref (.pair (.list (.int .u8)) .unit)) ((some (0,0)),O) [(1,1)],.grow 5 1 Z]=>some ⟨[Z=List.length O.1],[(.val .str (rV O.1),none)],[.cells (.pair .mref (.pair (.list (.int .u8)) .unit)) ((some (0,0)),O) [],.dead]⟩
 |_,_=>none
theorem YF {g:Gh}{w w':World}{m:Option (Nat×Nat)}{b:(Ty.pair (.list (.int .u8)) .unit).den}{e n:Nat}{s:List UInt8}{sd:List Prop}(hH:rL g w (pN 0 [p9.cells (.pair .mref (.pair (.list (.int .u8)) .unit)) (m,b) [(1,1)],.grow e 1 n]))
  (hos:w'.os=w.os) (htape:w'.tape=w.tape) (hout:w'.output=w.output) (hsz:w.heap.size<=w'.heap.size)
  (hcell: ∀b o,b<w.heap.size->w'.cell? ⟨b,o,none⟩=w.cell? ⟨b,o,none⟩) (hshape: ∀b s,w.shape? b=some s->w'.shape? b=some s)
  (hblk: ∀b,b<w.heap.size->(∀o,¬rE g 1 (.grow e 1 n) b o)->w'.heap[b]? =w.heap[b]?):
  HZ g w [p9.cells (.pair .mref (.pair (.list (.int .u8)) .unit)) (m,b) [(1,1)],.grow e 1 n] ⟨sd,[(.val .str s,none)],[.cells (.pair .mref (.pair (.list (.int .u8)) .unit)) (m,b) [],.dead]⟩ g w' (.string ⟨s.toArray⟩):=by
 have hg0:pD (pN 0 [p9.cells (.pair .mref (.pair (.list (.int .u8)) .unit)) (m,b) [(1,1)],.grow e 1 n]) 0=some (.cells (.pair .mref (.pair (.list (.int .u8)) .unit)) (m,b) [(1,1)]):=rfl;have hg1:pD (pN 0 [p9.cells (.pair .mref (.pair (.list (.int .u8)) .unit)) (m,b) [(1,1)],.grow e 1 n]) 1=some (.grow e 1 n):=rfl;have hle:Le g w g w':=⟨fun _ _ h=>h,fun b o h=>hcell b o (hH.sl b o h),fun _ _ h=>h,fun _ _ _ h=>h⟩;have hno: ∀c o,rE g 0 (.cells (.pair .mref (.pair (.list (.int .u8)) .unit)) (m,b) [(1,1)]) c o->∀o',¬rE g 1 (.grow e 1 n) c o':=fun c o h o' h'=>by
  obtain⟨v,hv,hb⟩:=h';exact hH.dis 0 1 _ _ c o (by decide) hg0 hg1 h ⟨v,hv,hb⟩
 obtain⟨p,cs,hJ,hR,hra,hth,hns,htk⟩:=hH.blk 0 _ hg0;have hown0: ∀j,j<2->rE g 0 (.cells (.pair .mref (.pair (.list (.int .u8)) .unit)) (m,b) [(1,1)]) p.1 (p.2+j):=fun j hj=>⟨p,hJ,rfl,Nat.le_add_right _ _,Nat.add_lt_add_left hj _⟩;have hpl:p.1<w.heap.size:=N7 (hH.blk 0 _ hg0) (hown0 0 (by decide));have hpb:w'.heap[p.1]? =w.heap[p.1]? :=hblk p.1 hpl (hno p.1 _ (hown0 0 (by decide)));have hbk0:yE g w' 0 (.cells (.pair .mref (.pair (.list (.int .u8)) .unit)) (m,b) []):=
  ⟨p,cs,hJ,wL hle hR,fun j v hj=>(hcell _ _ hpl).trans (hra j v hj),⟨fun j hj=>by
   have h1:=hth.1 j hj;rw[hcell _ _ hpl];exact⟨h1.1,(aQN (a:=⟨p.1,p.2+j,none⟩) hpb).trans h1.2⟩,fun h s hs=>hshape _ _ (hth.2 h s hs)⟩,hns,fun _ _ h=>by cases h⟩
 refine⟨fun b o h=>⟨h,hcell b o (hH.sl b o h)⟩,?_,(show qH g w' (.val .str s,none) (.string ⟨s.toArray⟩) from⟨CR _ _ _,trivial⟩),⟨hos,htape,hout,hsz,?_,?_,fun _ _ h=> .inl h,fun b s h=> .inl (hshape b s h)⟩,?_,fun _ _ _ _ _=>rfl,?_,fun _ _ _ h=>h,fun _ _ _ _ h=>h⟩
 ·refine⟨fun i blk h=> ?_,fun i j bi bj c o hij hi hj hoi hoj=> ?_,fun b o h=>aQs (hH.sl b o h) hsz,MH hH.tab.1 hsz (fun c hc=>hblk c (aQs hc hH.tab.1.1) fun o ho=>absurd (hH.tab.2 1 _ c o hg1 ho) (by omega)),fun i blk c o h ho=> ?_⟩
  ·match i,h with
   |0,h=>cases h;exact hbk0
   |1,h=>cases h;trivial
   |i+2,h=>simp [pN,pD] at h
  ·match i,j,hi,hj with
   |0,0,_,_=>exact hij rfl
   |0,1,_,hj=>cases hj;exact hoj
   |1,_,hi,_=>cases hi;exact hoi
   |0,j+2,_,hj=>simp [pN,pD] at hj
   |i+2,_,hi,_=>simp [pN,pD] at hi
  ·match i,h with
   |0,h=>cases h;exact hH.tab.2 0 _ c o hg0 ho
   |1,h=>cases h;exact ho.elim
   |i+2,h=>simp [pN,pD] at h
 ·intro c hc hn;exact hblk c hc fun o ho=>hn o ⟨1,_,hg1,ho⟩
 ·intro c o hc hn;exact⟨hcell c o hc,aQN (a:=⟨c,o,none⟩) (hblk c hc fun o' ho=>hn ⟨1,_,hg1,by obtain⟨v,hv,hb⟩:=ho;exact⟨v,hv,hb⟩⟩)⟩
 ·intro i blk c o hi ho
  match i,hi with
  |0,hi=>cases hi;exact .inr ⟨0,_,hg0,ho⟩
  |1,hi=>cases hi;exact ho.elim
  |i+2,hi=>simp at hi
 ·intro i t x ts u y us h1 h2
  match i,h1,h2 with
  |0,h1,h2=>cases h1;cases h2;rfl
  |1,h1,_=>cases h1
  |i+2,h1,_=>simp at h1
theorem aIy (w:World) (a p:Addr) (n:Nat):(w.freeze a n).cell? p=w.cell? p:=by
 unfold World.freeze;split
 ·rfl
 ·simp only[World.cell?,aRj];by_cases h:a.block=p.block
  ·rw[if_pos h];cases w.heap[p.block]? with
   |none=>rfl
   |some o=>cases o<;>rfl
  ·rw[if_neg h]
theorem aIz (w:World) (a:Addr) (n b:Nat):(w.freeze a n).shape? b=w.shape? b:=by
 unfold World.freeze;split
 ·rfl
 ·simp only[World.shape?,aRj];by_cases h:a.block=b
  ·rw[if_pos h];cases w.heap[b]? with
   |none=>rfl
   |some o=>cases o<;>rfl
  ·rw[if_neg h]
theorem aIA (w:World) (a:Addr) (n b:Nat) (h:b≠a.block):(w.freeze a n).heap[b]? =w.heap[b]? :=by
 unfold World.freeze;split
 ·rfl
 ·simp only[aRj];rw[if_neg (Ne.symm h)]
theorem aIB (w:World) (a:Addr) (n:Nat):(w.freeze a n).os=w.os/\(w.freeze a n).tape=w.tape/\(w.freeze a n).output=w.output/\(w.freeze a n).heap.size=w.heap.size:=by
 unfold World.freeze;split
 ·exact⟨rfl,rfl,rfl,rfl⟩
 ·exact⟨rfl,rfl,rfl,by simp⟩
theorem a9Z {g:Gh}{w:World}{b:Nat}: ∀{l:List Int}{o:Nat},x6 (Rd g w (.int .u8)) w g.S 1 b o l->∀j x,l[j]? =some x->w.cell? ⟨b,o+j,none⟩=some (.int .u8 x)
 |[],_,_,_,_,h=>by cases h
 |y::l,o,⟨⟨cs,_,hra,_,hR⟩,hl⟩,j,x,h=>by
  match j,h with
  |0,h=>
   cases h;have hR:cs=[.int .u8 y]:=hR;subst hR;exact hra 0 _ rfl
  |j+1,h=>
   have:=a9Z hl j x (by simpa using h);rw[show o+(j+1)=o+1+j by omega];exact this
theorem aIC {u:Ty}{m:Option (Nat×Nat)}{bv:(Ty.pair (.list (.int .u8)) .unit).den}{l:List u.den}(hget:pW (.list u) (.pair .mref (.pair (.list (.int .u8)) .unit)) (m,bv) 1=some l):l.length=bv.1.length:=by
 have h2:pW (.list u) (.list (.int .u8)) bv.1 0=some l:=hget;simp only[pW] at h2;split at h2
 ·rename_i h;injection h with h
  subst h;cases h2;rfl
 ·cases h2
theorem aID:yH Tryz.prog 54 YE:=by
 refine⟨fun _ _=>rfl,fun g w args vals L r hH ha hC hs=> ?_⟩;unfold YE at hC;split at hC
 ·rename_i bv n;cases hC;obtain rfl:n=List.length bv.1:=hs _ (by simp);obtain⟨va,_,rfl,ra,hv⟩:=ha;cases hv;have hg0:pD (pN 0 [p9.cells (.pair .mref (.pair (.list (.int .u8)) .unit)) ((some (0,0)),bv) [(1,1)],.grow 5 1 (List.length bv.1)]) 0=some (.cells (.pair .mref (.pair (.list (.int .u8)) .unit)) ((some (0,0)),bv) [(1,1)]):=rfl;have hg1:pD (pN 0 [p9.cells (.pair .mref (.pair (.list (.int .u8)) .unit)) ((some (0,0)),bv) [(1,1)],.grow 5 1 (List.length bv.1)]) 1=some (.grow 5 1 (List.length bv.1)):=rfl;obtain⟨p,cs,hJ,hR,hra,hth,hns,htk⟩:=hH.blk 0 _ hg0;obtain⟨v',xs,hv',hown,hmax,hsl⟩:=hH.blk 1 _ hg1;obtain⟨c1,c2,rfl,hR1,hR2⟩:=hR;obtain⟨d1,d2,rfl,⟨a,cap,rfl,hcap,hl⟩,hd2⟩:=hR2;obtain⟨p',hJ',⟨hp0,_,_,_⟩,hc1⟩:=hR1;rw[hJ] at hJ';obtain rfl:=aPS hJ';obtain⟨b,o,k⟩:=p;have ho:o=0:=by simpa using hp0
  subst ho;have hlen1:c1.length=1:=by rcases hc1 with rfl|rfl<;>rfl
  obtain⟨q,hq,hva⟩:=yX ra.1;rw[hJ] at hq;cases hq;subst hva;have hcell1:w.cell? ⟨b,1,none⟩=some (.slice a bv.1.length cap):=hra 1 _ (by rw[aPX (by omega),hlen1];rfl);obtain⟨u,l,v,hget,hcv,hcur⟩:=htk 1 1 (by simp);have hvv:v= .slice a bv.1.length cap:=by
   rw[aPX (by omega),hlen1] at hcv;exact(aPS hcv).symm
  have hll:l.length=bv.1.length:=aIC hget;rw[hll,hv',hvv] at hcur;obtain rfl:=aPS hcur;have hbl:b<w.heap.size:=RG hcell1;have hdr: ∀(s:List UInt8) (sd:List Prop),HZ g w _ ⟨sd,[(.val .str s,none)],[.cells (.pair .mref (.pair (.list (.int .u8)) .unit)) ((some (0,0)),bv) [],.dead]⟩ g w.drew (.string ⟨s.toArray⟩):=fun s sd=>
   YF hH rfl rfl rfl (Nat.le_refl _) (fun _ _ _=>rfl) (fun _ _ h=>h) (fun _ _ _=>rfl)
  obtain⟨hx,⟨hnil,h0⟩ |⟨gb,cap',cur,hsl',hb0,hbk,hnc,hcm,hcs,htake⟩⟩:=hown
  ·have hb0:bv.1=[]:=aQJ.1 h0;have hz:rV bv.1=[]:=by rw[hb0];rfl
   have hl0:List.length bv.1=0:=h0;injection hnil with e1 e2 e3
   subst e1;subst e3;refine(YD Tryz.lays169 Tryz.builderExtra b bv.1.length 0 none none .empty w w.drew hcell1 rfl (by rw[hl0];exact Any.unsafeString_none Tryz.lays169 Tryz.builderExtra w.drew none)).mono ?_;rintro e w' ⟨rfl,rfl⟩;exact⟨_,g,rfl,by rw[hz];exact hdr [] _⟩
  ·injection hsl' with e1 e2 e3
   subst e1;subst e3;have hsz:bv.1.length<=cur.size:=by omega
   by_cases hb0:bv.1=[]
   ·have hz:rV bv.1=[]:=by rw[hb0];rfl
    have hl0:List.length bv.1=0:=by rw[hb0];rfl
    by_cases hc0:cap=0
    ·subst hc0;rw[hl0] at hcell1;refine(aIx Tryz.lays169 Tryz.builderExtra b gb cur w hbl hcell1 hbk).mono ?_;rintro e w' ⟨rfl,rfl⟩;have hold: ∀c,c<w.heap.size->(w.drew.alloc (.view ⟨gb,0,none⟩ 5)).heap[c]? =w.heap[c]? :=fun c hc=>Lib.alloc_old w.drew _ c hc;refine⟨_,g,rfl,?_⟩;rw[hz];exact YF hH rfl rfl rfl (by simp) (fun c o hc=>aQb (a:=⟨c,o,none⟩) (hold c hc)) (fun c s h=>(BS (hold c (BR h))).trans h) (fun c hc _=>hold c hc)
    ·refine(YD Tryz.lays169 Tryz.builderExtra b bv.1.length cap (some ⟨gb,0,none⟩) (some ⟨gb,0,none⟩) .empty w w.drew hcell1 (Lib.run_unsafeSliceData_row _ _ _ _ _ _ hc0) (by rw[hl0];exact Any.unsafeString_none Tryz.lays169 Tryz.builderExtra w.drew _)).mono ?_;rintro e w' ⟨rfl,rfl⟩;exact⟨_,g,rfl,by rw[hz];exact hdr [] _⟩
   ·have hcap0:cap≠0:=fun h=>hb0 (aQJ.1 (by omega));have hcb: ∀j x,bv.1[j]? =some x->w.cell? ⟨gb,j,none⟩=some (.int .u8 x):=by
     rcases hl with hl|⟨b',o',ha',hl⟩
     ·exact absurd hl hb0
     ·cases ha';intro j x hj;have:=a9Z hl j x hj;rwa [aQo] at this
    have hbk':w.drew.heap[gb]? =some (.cells cur 5 (0,0)):=hbk;have hshp:w.drew.shape? gb=some (5,cur.size):=by simp only[World.shape?,hbk']
    refine(YD Tryz.lays169 Tryz.builderExtra b bv.1.length cap (some ⟨gb,0,none⟩) (some ⟨gb,0,none⟩) ⟨(rV bv.1).toArray⟩ w (w.drew.freeze ⟨gb,0,none⟩ bv.1.length) hcell1 (Lib.run_unsafeSliceData_row _ _ _ _ _ _ hcap0)
     (aIw w.drew _ _ _ 5 (Tryz.lays169).t127 (Tryz.builderExtra).cellsByte gb cur.size hshp bv.1 hb0 hsz (by unfold maxLen at hcm;omega) (fun j x h=>by rw[aQ4,aQo];exact hcb j x h))).mono ?_
    rintro e w' ⟨rfl,rfl⟩;refine⟨_,g,rfl,?_⟩;have hblk: ∀c,(∀o,¬rE g 1 (.grow 5 1 (List.length bv.1)) c o)->(w.drew.freeze ⟨gb,0,none⟩ bv.1.length).heap[c]? =w.heap[c]? :=fun c hc=>aIA w.drew _ _ c fun e=>hc 0 ⟨_,hv',by rw[e];rfl⟩;have hr:=aIB w.drew ⟨gb,0,none⟩ bv.1.length;refine YF hH hr.1 hr.2.1 hr.2.2.1 (aRu hr.2.2.2.symm) (fun c o _=>aIy w.drew _ _ _) (fun c s h=>(aIz w.drew _ _ c).trans h) (fun c _ hc=>hblk c hc)
 ·cases hC
theorem a90:sM Tryz.prog 149 ⟨(.pair .str (.pair .str .unit)),0,0,false,[]⟩:=⟨by kernel_rfl,(show ((_/\∃_,_/\_)\/_)/\_ from⟨.inl ⟨rfl,_,Tryz.underlying149,(show _/\_/\_/\_ from⟨rfl,by kernel_rfl,by kernel_rfl,(show _/\_/\_/\_ from⟨rfl,by kernel_rfl,by kernel_rfl,trivial⟩)⟩)⟩,(fun h=>absurd h (by decide))⟩)⟩
theorem SM {P:Program}(w:World) (dT sT ty elem:TypeId) (sz g o dLen dCap:Nat) (a:Addr) (sLen sCap:Nat) (cur:Array Value) (t:TypeId) (cs:List Value)
  (hu:P.underlying dT=some (.slice elem)) (hs:(P.info? elem).map (·.size)=some sz)
  (hg:w.heap[g]? =some (.cells cur t (0,0))) (hn:cs.length=Nat.min sLen dLen*sz)
  (hsrc: ∀j v,cs[j]? =some v->w.cell? (a.add j)=some v) (hfit:o+cs.length<=cur.size) (h1: ∀v∈cs,v.oneCell'=true):
  (Builtin.copy_ #[dT,sT] ty #[.slice (some ⟨g,o,none⟩) dLen dCap,.slice (some a) sLen sCap]).run P w=
   .ok (goInt (Nat.min sLen dLen:Nat)) (w.setRow g (cur.toList.take o++cs++cur.toList.drop (o+cs.length)).toArray):=by
 have hl:=run_loadCells_list (P:=P) w a cs hsrc;have hst:=run_storeCells_at P g o t cs 0 cur w hg (by simpa using hfit) h1;cases hq:P.info? elem with
 |none=>simp [hq] at hs
 |some i=>
  have hi:i.size=sz:=by simpa[hq] using hs
  simp [Builtin.copy_,aP6 hu,Builtin.lenOf,Builtin.firstCells,sizeOf,typeInfo,hq,hi,<-hn,hl,hst]
theorem aIE {P:Program}(w:World) (tS tR e:TypeId) (ht:P.underlying tS=some (.slice e)) (size:Nat) (hz: ∀w,(Go.sizeOf e).run P w= .ok size w)
  (a b:Addr) (la ca lb cb:Nat) (hne:a.block≠b.block) (tA tB:TypeId) (kA kB:Nat)
  (hsa:w.shape? a.block=some (tA,kA)) (hkA:kA≠0) (hsb:w.shape? b.block=some (tB,kB)) (hfb: ∀o,w.frozen? ⟨b.block,o,none⟩=false) (hsp:b.spot=none):
  (Extern.SlicesOverlaps.overlaps #[tS,tS] #[tR] #[.slice (some a) la ca,.slice (some b) lb cb]).run P w= .ok (.bool false) w:=by
 have hnb:(a.block != b.block)=true:=by simpa using hne
 have hnb':(a.block==b.block)=false:=by simpa using hne
 have hfb1:w.frozen? b=false:=by
  obtain⟨bb,bo,bs⟩:=b;cases hsp;exact hfb bo
 have hfb2:=hfb kB;change Sem.run P (α:=Value) (do
  let some t:=(#[tS,tS]:Array TypeId)[0]? |stuck "slices.overlaps: no parameter types"
  let .slice elem<-underlying t|stuck "slices.overlaps: slice type expected"
  let size<-sizeOf elem
  match (some a:Option Addr),(some b:Option Addr) with
  |some a,some b=>
   if la=0\/lb=0\/size=0 then pure (Value.bool false)
   else if a.block != b.block&&(<-frozen a)&&(<-frozen b) then unsupported .addressObserved
   else do
    if a.block != b.block then do
     noView a;noView b
     if<-mayBeOne a b then return Value.bool ((<-choose (.extern "sameAddr.stringBytes" 2))==1)
    pure (Value.bool (a.block==b.block&&a.off<b.off+lb*size&&b.off<a.off+la*size))
  |_,_=>pure (Value.bool false)) w=_
 by_cases h0:la=0\/lb=0\/size=0
 ·simp [aP6 ht,hz,h0]
 ·cases kA with
  |zero=>exact absurd rfl hkA
  |succ kA=>
   cases hfa:w.frozen? a<;>cases hfe:w.frozen? {block:=a.block,off:=kA+1}<;>
   simp [aP6 ht,hz,h0,hnb,hnb',frozen,noView,viewAt,mayBeOne,stringish,shape,Sem.run,hsa,hsb,hfb1,hfb2,hfa,hfe]
theorem aIF {α:Type}{l:List α}{i n:Nat}(hin:i<=n):(l.drop (i*2)).take ((n-i)*2)=(l.take (n*2)).drop (i*2):=by
 rw[List.drop_take,show n*2-i*2=(n-i)*2 by omega]
theorem a91 {α:Type}{l:List α}{i n:Nat}{v:α}(h:v∈(l.drop (i*2)).take ((n-i)*2)):v∈l.take (n*2):=by
 rw[show (n-i)*2=n*2-i*2 by omega,<-List.drop_take] at h;exact List.mem_of_mem_drop h
theorem aIG {cur c1 c2:Array Value}{mid vs:List Value}{i n m:Nat}(hc1:c1=(cur.toList.take ((i+m)*2)++mid++cur.toList.drop ((i+m)*2+mid.length)).toArray) (hc2:c2=(c1.toList.take (i*2)++vs++c1.toList.drop (i*2+vs.length)).toArray)
  (hml:mid.length=(n-i)*2) (hvl:vs.length=m*2) (hcur:(n+m)*2<=cur.toList.length) (hin:i<=n):c2.toList.take ((n+m)*2)=cur.toList.take (i*2)++vs++mid:=by
 have e1:c1.toList=cur.toList.take ((i+m)*2)++(mid++cur.toList.drop ((i+m)*2+mid.length)):=by rw[hc1,aPW]
 have l1:(cur.toList.take ((i+m)*2)).length=(i+m)*2:=by rw[aQc];omega
 have e2:c1.toList.take (i*2)=cur.toList.take (i*2):=by
  rw[e1,aRl (by omega),List.take_take,Nat.min_eq_left (by omega)]
 have e3:c1.toList.drop (i*2+vs.length)=mid++cur.toList.drop ((i+m)*2+mid.length):=by
  rw[e1,hvl,show i*2+m*2=(cur.toList.take ((i+m)*2)).length by omega,aRA]
 have l2:(cur.toList.take (i*2)).length=i*2:=by rw[aQc];omega
 have e4:c2.toList=(cur.toList.take (i*2)++vs++mid)++cur.toList.drop ((i+m)*2+mid.length):=by rw[hc2,e2,e3];simp only[aPW]
 rw[e4,show (n+m)*2=(cur.toList.take (i*2)++vs++mid).length by simp only[aPP];omega,aRd]
theorem aIH (b n c i vb voff m vc:Nat) (cur:Array Value) (vs:List Value) (w:World) (hi:i<n) (hm:0<m) (hroom:n+m<=c) (hc63:c<=maxLen) (hvb:vb≠b)
  (hg:w.heap[b]? =some (.cells cur 149 (0,0))) (hcs:cur.size=c*2) (hvl:vs.length=m*2)
  (hvs: ∀j v,vs[j]? =some v->w.cell? ⟨vb,voff+j,none⟩=some v) (h1: ∀v∈cur.toList.take (n*2),v.oneCell'=true) (h1v: ∀v∈vs,v.oneCell'=true):
  Calls Tryz.prog 240 #[.slice (some ⟨b,0,none⟩) n c,.int .i64 i,.slice (some ⟨vb,voff,none⟩) m vc] w fun e w'=>
   e= .returned (.slice (some ⟨b,0,none⟩) (n+m) c)/\∃cur':Array Value,w'=w.drew.setRow b cur'/\cur'.size=cur.size/\cur'.toList.take ((n+m)*2)=cur.toList.take (i*2)++vs++(cur.toList.drop (i*2)).take ((n-i)*2):=by
 have u24:=aP6 Tryz.underlying24;have hz1: ¬((m:Int)=0):=by omega
 have hz2: ¬((i:Int)=(n:Int)):=by omega
 have hw1:IntKind.i64.wrap ((i:Int)+(m:Int))=(i:Int)+(m:Int):=by rw[aQQ];unfold maxLen at hc63;omega
 have hw2:IntKind.i64.wrap ((n:Int)+(m:Int))=(n:Int)+(m:Int):=by rw[aQQ];unfold maxLen at hc63;omega
 have hb1:(0:Int)<=(i:Int)+(m:Int):=by omega
 have hin:i<=n:=by omega
 have htn:((i:Int)+(m:Int)).toNat=i+m:=by omega
 have hb2: ¬(c=i+m):=by omega
 have hb3:(i:Int)<=(n:Int)+(m:Int):=by omega
 have hb4: ¬(c=i):=by omega
 have z144: ∀w,(Go.sizeOf 149).run Tryz.prog w= .ok 2 w:=fun w=>by
  simp only[sizeOf,typeInfo,aP4,aQW,aPV];rfl
 have hsz:(Tryz.prog.info? 149).map (·.size)=some 2:=by kernel_rfl
 have hvs0:w.cell? ⟨vb,voff,none⟩=some (vs[0]'(by omega)):=hvs 0 _ (aPU (by omega));obtain⟨⟨tA,kA⟩,hsa,hkA⟩: ∃q:TypeId×Nat,w.shape? vb=some q/\q.2≠0:=by
  have h0:=hvs0;simp only[World.cell?] at h0;simp only[World.shape?];cases hh:w.heap[vb]? with
  |none=>rw[hh] at h0;simp at h0
  |some o=>
   rw[hh] at h0;cases o with
   |cells cs e fr=>
    refine⟨(e,cs.size),rfl,fun hz=> ?_⟩;have hz:cs.size=0:=hz;have:cs= #[]:=Array.eq_empty_of_size_eq_zero hz;subst this;simp at h0
   |_=>simp at h0
 have hov: ∀lb cb,(callFunc 268 #[.slice (some ⟨vb,voff,none⟩) m vc,.slice (some ⟨b,(i+m)*2,none⟩) lb cb]).run Tryz.prog w= .ok (.value (.bool false)) w:=fun lb cb=>by
  rw[run_callFunc_extern Tryz.func268 (by kernel_rfl) (by kernel_rfl) (by kernel_rfl) (e:=Extern.SlicesOverlaps.overlaps #[24,24] #[4]) (by kernel_rfl),
   aIE w 24 4 149 Tryz.underlying24 2 z144 ⟨vb,voff,none⟩ ⟨b,(i+m)*2,none⟩ m vc lb cb hvb tA 149 kA cur.size hsa hkA (by simp [World.shape?,hg]) (fun o=>Lib.frozen_of_heap hg _) rfl]
  rfl
 have mixed:Tryz.prog.follows .mixedOrders=true:=by kernel_rfl
 obtain⟨mid,hmid⟩: ∃mid,mid=(cur.toList.drop (i*2)).take ((n-i)*2):=⟨_,rfl⟩;have hml:mid.length=(n-i)*2:=by rw[hmid,aQc,aP5,aQl];omega
 have hmin1:Nat.min (n+m-i) (n+m- (i+m))=n-i:=by simp only[Nat.min_def];split<;>omega
 have hmin2:Nat.min m (n+m-i)=m:=by simp only[Nat.min_def];split<;>omega
 obtain⟨c1,hc1⟩: ∃c1:Array Value,c1=(cur.toList.take ((i+m)*2)++mid++cur.toList.drop ((i+m)*2+mid.length)).toArray:=⟨_,rfl⟩;have hc1l:c1.size=cur.size:=by rw[hc1];simp only[aQA,aPP,aQc,aP5,aQl,hml];omega
 obtain⟨c2,hc2⟩: ∃c2:Array Value,c2=(c1.toList.take (i*2)++vs++c1.toList.drop (i*2+vs.length)).toArray:=⟨_,rfl⟩;have hc2l:c2.size=cur.size:=by rw[hc2];simp only[aQA,aPP,aQc,aP5,aQl,hc1l,hvl];omega
 have hcp1: ∀ty dc sc,(Builtin.copy_ #[24,24] ty #[.slice (some ⟨b,(i+m)*2,none⟩) (n+m- (i+m)) dc,.slice (some ⟨b,i*2,none⟩) (n+m-i) sc]).run Tryz.prog w.drew= .ok (goInt (n-i:Nat)) (w.drew.setRow b c1):=fun ty dc sc=>by
  have h:=SM (P:=Tryz.prog) w.drew 24 24 ty 149 2 b ((i+m)*2) (n+m- (i+m)) dc ⟨b,i*2,none⟩ (n+m-i) sc cur 149 mid Tryz.underlying24 hsz hg (by rw[hml,hmin1]) (fun j v hj=>by
    rw[aRG];rw[hmid,aRD] at hj;split at hj
    ·rw[List.getElem?_drop,aQV] at hj;show (w.cell? ⟨b,i*2+j,none⟩)=_;rw[Lib.cell_of_heap hg];exact hj
    ·cases hj) (by rw[hml];omega) (fun v hv=>h1 v (a91 (hmid▸hv)))
  rw[h,hmin1,hc1]
 have hg1:(w.drew.setRow b c1).heap[b]? =some (.cells c1 149 (0,0)):=aRP w.drew b cur c1 _ _ hg;have hcp2: ∀ty dc,(Builtin.copy_ #[24,24] ty #[.slice (some ⟨b,i*2,none⟩) (n+m-i) dc,.slice (some ⟨vb,voff,none⟩) m vc]).run Tryz.prog (w.drew.setRow b c1)= .ok (goInt (m:Nat)) ((w.drew.setRow b c1).setRow b c2):=fun ty dc=>by
  have h:=SM (P:=Tryz.prog) (w.drew.setRow b c1) 24 24 ty 149 2 b (i*2) (n+m-i) dc ⟨vb,voff,none⟩ m vc c1 149 vs Tryz.underlying24 hsz hg1 (by rw[hvl,hmin2]) (fun j v hj=>by
    rw[aRG,aQb (w:=w) (a:=⟨vb,voff+j,none⟩) (aRn w.drew b vb c1 hvb)];exact hvs j v hj) (by rw[hvl,hc1l];omega) h1v
  rw[h,hmin2,hc2]
 have Hmid:=Lib.hid hmid;have Hc1:=Lib.hid hc1;have Hc2:=Lib.hid hc2;have Hs1:=Lib.hid hc1l;have Hs2:=Lib.hid hc2l;have Hml:=Lib.hid hml;clear hmid hc1 hc2 hc1l hc2l hml hmin1 hmin2
 go_enter Tryz.func240,Tryz.ntmps240
 go_wp2_with (simp only[hov])
 go_region_law_o (refine step_copy_runI rfl _ _ 24 24 rfl _ _ (by simp [Act.eval,Act.put]) (by simp [Act.eval,Act.put]) (hcp1 _ _ _) ?_)
 go_wp2_with (at_builtin;refine wpList_copy_runI _ rfl _ _ 24 24 rfl _ _ rfl rfl (hcp2 _ _) ?_)
 go_ret
 refine⟨rfl,c2,?_,Hs2.out,?_⟩
 ·rw[setRow_setRow]
 ·rw[<-Hmid.out];exact aIG Hc1.out Hc2.out Hml.out hvl (by rw[aQl];omega) hin
theorem aII (base:Option Addr) (n c i:Nat) (v0:Option Addr) (vc:Nat) (w:World) (hi:i<=n) (hnc:n<=c) (hc63:c<=maxLen):
  Calls Tryz.prog 240 #[.slice base n c,.int .i64 i,.slice v0 0 vc] w fun e w'=>e= .returned (.slice base n c)/\w'=w:=by
 have u24:=aP6 Tryz.underlying24
 go_enter Tryz.func240,Tryz.ntmps240
 go_wp2_with fail
 all_goals (go_ret;exact⟨rfl,rfl⟩)
theorem aIJ (v:Value) (n vb voff m vc:Nat) (xs vs:List Value) (w:World) (hm:0<m) (hown:w.ownsRow 0 149 2 v n xs) (h63:n+m<=maxLen) (hby:(n+m)*32<=140737488355328)
  (hvl:vs.length=m*2) (hvs: ∀j v,vs[j]? =some v->w.cell? ⟨vb,voff+j,none⟩=some v) (h1v: ∀v∈vs,v.oneCell'=true):
  Calls Tryz.prog 240 #[v,.int .i64 n,.slice (some ⟨vb,voff,none⟩) m vc] w fun e w'=>
   ∃q cap,e= .returned (.slice (some ⟨q,0,none⟩) (n+m) cap)/\w'.ownsRow 0 149 2 (.slice (some ⟨q,0,none⟩) (n+m) cap) (n+m) (xs++vs)/\
   (q=w.heap.size\/v.ownBlock=some q)/\w.grownBy w' v.ownBlock:=by
 have u24:=aP6 Tryz.underlying24;obtain⟨inf,hi,hsz,hz⟩:=E2 a90;have hby2:inf.bytes=32:=by
  have:(Tryz.prog.info? 149).map (·.bytes)=some 32:=by kernel_rfl
  rw[hi] at this;exact aPS this
 have hrun: ∀ty,∃q cap w',(Builtin.append_ #[24,24] ty #[v,.slice (some ⟨vb,voff,none⟩) m vc]).run Tryz.prog w= .ok (.slice (some ⟨q,0,none⟩) (n+m) cap) w'/\_:=
  fun ty=>WR (P:=Tryz.prog) w 24 ty 149 inf _ 2 32 Tryz.underlying24 hi hz hsz hby2 (by rfl) v n xs hown ⟨vb,voff,none⟩ m vc vs hvl (fun j u hj=>by rw[aRG];exact hvs j u hj) h1v hm h63 hby
 obtain⟨q,cap,w2,hr,h1,h2,h3,h4,h5⟩:=hrun 24;have H1:=Lib.hid h1;have H2:=Lib.hid h2;have H3:=Lib.hid h3;have Hown:=Lib.hid hown;have hz1: ¬((m:Int)=0):=by omega
 have hmx:n+m<=9223372036854775807:=by unfold maxLen at h63;omega
 obtain⟨hxl,hv⟩:=hown;clear h1 h2 h3 h5 hrun hz hsz hby2 hi hxl;rcases hv with⟨rfl,rfl⟩ |⟨b,c,cur,rfl,_,hbk,hnc,hcm,hcs,htk⟩
 ·clear Hown;rw[aQo] at hr
  go_enter Tryz.func240,Tryz.ntmps240
  go_wp2_with (at_builtin;refine Lib.wpList_append_run _ rfl _ _ _ _ rfl _ _ rfl rfl _ _ hr ?_)
  all_goals (go_ret;exact⟨q,cap,by rw[aQo];rfl,H1.out,H2.out,H3.out⟩)
 ·clear hbk hcs htk;have hcm:c<=9223372036854775807:=by unfold maxLen at hcm;omega
  go_enter Tryz.func240,Tryz.ntmps240
  go_wp2_with (at_builtin;refine Lib.wpList_append_run _ rfl _ _ _ _ rfl _ _ rfl rfl _ _ hr ?_)
  all_goals (go_ret;exact⟨q,cap,rfl,H1.out,H2.out,H3.out⟩)
theorem aIK (b n c i vb voff m vc:Nat) (cur:Array Value) (vs:List Value) (w:World) (hi:i<n) (hm:0<m) (hnc:n<=c) (hroom:c<n+m) (hbig:(n+m)*32<=140737488355328)
  (hg:w.heap[b]? =some (.cells cur 149 (0,0))) (hcs:cur.size=c*2) (hvl:vs.length=m*2)
  (hvs: ∀j v,vs[j]? =some v->w.cell? ⟨vb,voff+j,none⟩=some v) (h1: ∀v∈cur.toList.take (n*2),v.oneCell'=true) (h1v: ∀v∈vs,v.oneCell'=true):
  Calls Tryz.prog 240 #[.slice (some ⟨b,0,none⟩) n c,.int .i64 i,.slice (some ⟨vb,voff,none⟩) m vc] w fun e w'=>
   ∃G,e= .returned (.slice (some ⟨w.heap.size,0,none⟩) (n+m) G)/\w'.ownsRow 0 149 2 (.slice (some ⟨w.heap.size,0,none⟩) (n+m) G) (n+m) (cur.toList.take (i*2)++vs++(cur.toList.drop (i*2)).take ((n-i)*2))/\w.grownBy w' none:=by
 have u24:=aP6 Tryz.underlying24;have mixed:Tryz.prog.follows .mixedOrders=true:=by kernel_rfl
 obtain⟨inf,hinf,hzs,hz⟩:=E2 a90;have hzb:inf.bytes=32:=by
  have:(Tryz.prog.info? 149).map (·.bytes)=some 32:=by kernel_rfl
  rw[hinf] at this;exact aPS this
 have hsz:(Tryz.prog.info? 149).map (·.size)=some 2:=by kernel_rfl
 have hz1: ¬((m:Int)=0):=by omega
 have hz2: ¬((i:Int)=(n:Int)):=by omega
 have hz3:(c:Int)<(n:Int)+(m:Int):=by omega
 have hbw:b<w.heap.size:=by
  rcases aQ8 b w.heap.size with h|h
  ·exact h
  ·rw[Array.getElem?_eq_none h] at hg;cases hg
 have hvw:vb<w.heap.size:=block_lt_of_cell (hvs 0 _ (aPU (by omega)));have hkk:(n:Int)+(m:Int)- (i:Int)=((n+m-i:Nat):Int):=by omega
 have hik:i+(n+m-i)=n+m:=by omega
 have hold:(Builtin.firstCells inf.size i (.slice (some ⟨b,0,none⟩) i c)).run Tryz.prog w.drew= .ok (cur.toList.take (i*2)).toArray w.drew:=by
  rw[hzs];exact run_firstCells_some w.drew 2 i ⟨b,0,none⟩ i c (cur.toList.take (i*2)) (by rw[aQc,aQl];omega) (fun j v hj=>by
   rw[aRG,aQo];rw[aRD] at hj;split at hj
   ·rw[aQV] at hj;show w.cell? ⟨b,j,none⟩=_;rw[Lib.cell_of_heap hg];exact hj
   ·cases hj)
 have hrz: ∀ty,(Builtin.append_ #[24,3] ty #[.slice (some ⟨b,0,none⟩) i c,.int .i64 ((n:Int)+(m:Int)- (i:Int))]).run Tryz.prog w=
   .ok (.slice (some ⟨w.heap.size,0,none⟩) (n+m) (grownCap w (n+m) c 149)) (w.drew.alloc (.cells ((cur.toList.take (i*2)).toArray++Builtin.zeroCells (w7 (.pair .str (.pair .str .unit))).cells (n+m-i)++Builtin.zeroCells (w7 (.pair .str (.pair .str .unit))).cells (grownCap w (n+m) c 149- (n+m))) 149)):=fun ty=>by
  have h:=Lib.run_append_grow_zeros (P:=Tryz.prog) w 24 3 ty 149 inf _ .i64 .i64 Tryz.underlying24 Tryz.underlying3 hinf hz (some ⟨b,0,none⟩) i c (cur.toList.take (i*2)) hold (n+m-i) (by omega) (by rw[hzs];decide) (by omega) (by omega) (by rw[hzb];omega) (by rw[hzb,hik];exact growslice_fits hroom hbig);rw[hik] at h;rw[hkk];exact h
 obtain⟨G,hG⟩: ∃G,G=grownCap w (n+m) c 149:=⟨_,rfl⟩;obtain⟨ROW,hROW⟩: ∃ROW:Array Value,ROW=(cur.toList.take (i*2)).toArray++Builtin.zeroCells (w7 (.pair .str (.pair .str .unit))).cells (n+m-i)++Builtin.zeroCells (w7 (.pair .str (.pair .str .unit))).cells (G- (n+m)):=⟨_,rfl⟩;rw[<-hG] at hrz;rw[<-hROW] at hrz;have hGn:n+m<=G:=by rw[hG];exact grownCap_ge w _ _ _
 have hGm:G<=maxLen:=by rw[hG];exact grownCap_le_maxLen w (n+m) c _ (by unfold maxLen;omega)
 have hzc:(w7 (.pair .str (.pair .str .unit))).cells.size=2:=rfl;have hRl:ROW.size=G*2:=by
  rw[hROW];simp only[aRY,aQA,size_zeroCells,hzc,aQc,aQl];omega
 have hRt:ROW.toList.take (i*2)=cur.toList.take (i*2):=by
  rw[hROW];simp only[Array.toList_append,aPW];rw[aRl (by rw[aQc,aQl];omega),List.take_take,Nat.min_self]
 obtain⟨q,hq⟩: ∃q,q=w.heap.size:=⟨_,rfl⟩;obtain⟨mid,hmid⟩: ∃mid,mid=(cur.toList.drop (i*2)).take ((n-i)*2):=⟨_,rfl⟩;have hml:mid.length=(n-i)*2:=by rw[hmid,aQc,aP5,aQl];omega
 have hmin1:Nat.min m (n+m-i)=m:=by simp only[Nat.min_def];split<;>omega
 have hmin2:Nat.min (n-i) (n+m- (i+m))=n-i:=by simp only[Nat.min_def];split<;>omega
 obtain⟨c1,hc1⟩: ∃c1:Array Value,c1=(ROW.toList.take (i*2)++vs++ROW.toList.drop (i*2+vs.length)).toArray:=⟨_,rfl⟩;have hc1l:c1.size=G*2:=by rw[hc1];simp only[aQA,aPP,aQc,aP5,aQl,hRl,hvl];omega
 obtain⟨c2,hc2⟩: ∃c2:Array Value,c2=(c1.toList.take ((i+m)*2)++mid++c1.toList.drop ((i+m)*2+mid.length)).toArray:=⟨_,rfl⟩;have hc2l:c2.size=G*2:=by rw[hc2];simp only[aQA,aPP,aQc,aP5,aQl,hc1l,hml];omega
 obtain⟨W1,hW1⟩: ∃W1,W1=w.drew.alloc (.cells ROW 149):=⟨_,rfl⟩;rw[<-hW1] at hrz;have hbq:b≠q:=by omega
 have hvq:vb≠q:=by omega
 have hg1:W1.heap[q]? =some (.cells ROW 149 (0,0)):=by rw[hW1,hq];exact aRZ w.drew _
 have hO1: ∀k,k<w.heap.size->W1.heap[k]? =w.heap[k]? :=fun k hk=>by rw[hW1];exact aQg w.drew _ k hk
 have hcpA: ∀(W:World),W.heap=W1.heap->∀ty dc,(Builtin.copy_ #[24,24] ty #[.slice (some ⟨q,i*2,none⟩) (n+m-i) dc,.slice (some ⟨vb,voff,none⟩) m vc]).run Tryz.prog W= .ok (goInt (m:Nat)) (W.setRow q c1):=fun W hW ty dc=>by
  have h:=SM (P:=Tryz.prog) W 24 24 ty 149 2 q (i*2) (n+m-i) dc ⟨vb,voff,none⟩ m vc ROW 149 vs Tryz.underlying24 hsz (by rw[hW];exact hg1) (by rw[hvl,hmin1]) (fun j v hj=>by
    rw[aRG,aQb (w:=w) (a:=⟨vb,voff+j,none⟩) (by rw[hW];exact hO1 vb hvw)];exact hvs j v hj) (by rw[hvl,hRl];omega) h1v
  rw[h,hmin1,hc1]
 have hcpB: ∀(W:World),W.heap=(W1.setRow q c1).heap->∀ty dc sc,(Builtin.copy_ #[24,24] ty #[.slice (some ⟨q,(i+m)*2,none⟩) (n+m- (i+m)) dc,.slice (some ⟨b,i*2,none⟩) (n-i) sc]).run Tryz.prog W= .ok (goInt (n-i:Nat)) (W.setRow q c2):=fun W hW ty dc sc=>by
  have h:=SM (P:=Tryz.prog) W 24 24 ty 149 2 q ((i+m)*2) (n+m- (i+m)) dc ⟨b,i*2,none⟩ (n-i) sc c1 149 mid Tryz.underlying24 hsz (by rw[hW];exact aRP W1 q ROW c1 _ _ hg1) (by rw[hml,hmin2]) (fun j v hj=>by
    rw[aRG,aQb (w:=w) (a:=⟨b,i*2+j,none⟩) (by rw[hW,aRn W1 q b c1 hbq];exact hO1 b hbw),Lib.cell_of_heap hg];rw[hmid,aRD] at hj;split at hj
    ·rw[List.getElem?_drop,aQV] at hj;exact hj
    ·cases hj) (by rw[hml,hc1l];omega) (fun v hv=>h1 v (a91 (hmid▸hv)))
  rw[h,hmin2,hc2]
 have hGi: ¬(G=i):=by omega
 have hGim: ¬(G=i+m):=by omega
 have hci: ¬(c=i):=by omega
 have hw1:IntKind.i64.wrap ((i:Int)+(m:Int))=(i:Int)+(m:Int):=by rw[aQQ];omega
 have hw2:IntKind.i64.wrap ((n:Int)+(m:Int))=(n:Int)+(m:Int):=by rw[aQQ];omega
 have hw3:IntKind.i64.wrap ((n:Int)+(m:Int)- (i:Int))=(n:Int)+(m:Int)- (i:Int):=by rw[aQQ];omega
 have hb1:(0:Int)<=(i:Int)+(m:Int):=by omega
 have hin:i<=n:=by omega
 have htn:((i:Int)+(m:Int)).toNat=i+m:=by omega
 have hb3:(i:Int)<=(n:Int):=by omega
 have hG63:G<=9223372036854775807:=by unfold maxLen at hGm;omega
 rw[<-hq] at hrz⊢;have hend: ∀W:World,W.heap=((W1.setRow q c1).setRow q c2).heap->W.os=w.os->W.tape=w.tape->W.output=w.output->
   W.ownsRow 0 149 2 (.slice (some ⟨q,0,none⟩) (n+m) G) (n+m) (cur.toList.take (i*2)++vs++mid)/\w.grownBy W none:=fun W hW e1 e2 e3=>by
  have hg2:W.heap[q]? =some (.cells c2 149 (0,0)):=by rw[hW];exact aRP (W1.setRow q c1) q c1 c2 _ _ (aRP W1 q ROW c1 _ _ hg1)
  have hs:w.heap.size<=W.heap.size:=by
   have:=(aP9.1 hg2).1;omega
  refine⟨⟨?_,.inr ⟨q,G,c2,rfl,aQI _,hg2,hGn,hGm,hc2l,?_⟩⟩,⟨e1,e2,e3,hs,fun k hk _=> ?_⟩⟩
  ·simp only[aPP,aQc,aQl,hml,hvl];omega
  ·have x1:c1.toList=cur.toList.take (i*2)++vs++ROW.toList.drop (i*2+vs.length):=by rw[hc1,hRt]
   have l1:(cur.toList.take (i*2)++vs).length=(i+m)*2:=by rw[aPP,aQc,aQl,hvl];omega
   have x2:c2.toList=cur.toList.take (i*2)++vs++mid++c1.toList.drop ((i+m)*2+mid.length):=by
    rw[hc2];show c1.toList.take ((i+m)*2)++mid++_=_;rw[x1,<-l1,aRd]
   rw[x2,show (n+m)*2=(cur.toList.take (i*2)++vs++mid).length by rw[aPP,l1,hml];omega,aRd]
  ·rw[hW,aRn _ q k c2 (by omega),aRn _ q k c1 (by omega)];exact hO1 k hk
 have Hmid:=Lib.hid hmid;have Hq:=Lib.hid hq;have Hend:=Lib.hid hend;have HW1:=Lib.hid hW1;clear hkk hik hold hROW hG hRl hmid hq hend hW1 hc1 hc2 hc1l hc2l hml hmin1 hmin2 hz hzs hzb hinf hRt hg1 hO1
 go_enter Tryz.func240,Tryz.ntmps240
 go_wp2_with (first
  |(at_builtin;refine Lib.wpList_append_run _ rfl _ _ _ _ rfl _ _ rfl rfl _ _ (hrz _) ?_)
  |(at_builtin;refine wpList_copy_runI _ rfl _ _ 24 24 rfl _ _ rfl rfl (hcpA _ rfl _ _) ?_))
 go_region_law_o (refine step_copy_runI rfl _ _ 24 24 rfl (.slice (some ⟨q,(i+m)*2,none⟩) (n+m- (i+m)) (G- (i+m))) (.slice (some ⟨b,i*2,none⟩) (n-i) (c-i)) (by simp [Act.eval,Act.put]) (by simp [Act.eval,Act.put]) (hcpB (W1.setRow q c1).drew rfl _ (G- (i+m)) (c-i)) ?_)
 go_wp2_with fail
 go_ret
 rw[<-Hmid.out];exact⟨G,rfl,Hend.out _ rfl (by rw[HW1.out];rfl) (by rw[HW1.out];rfl) (by rw[HW1.out];rfl)⟩
theorem aIL (v:Value) (n i m vc:Nat) (v0:Option Addr) (xs vs:List Value) (w:World) (hin:i<=n) (hown:w.ownsRow 0 149 2 v n xs) (hby:(n+m)*32<=140737488355328)
  (h1: ∀u∈xs,u.oneCell'=true) (hv0:m=0\/∃vb voff,v0=some ⟨vb,voff,none⟩/\v.ownBlock≠some vb/\∀j u,vs[j]? =some u->w.cell? ⟨vb,voff+j,none⟩=some u)
  (hvl:vs.length=m*2) (h1v: ∀v∈vs,v.oneCell'=true):
  Calls Tryz.prog 240 #[v,.int .i64 i,.slice v0 m vc] w fun e w'=>
   ∃v',e= .returned v'/\w'.ownsRow 0 149 2 v' (n+m) (xs.take (i*2)++vs++xs.drop (i*2))/\(m=0->v'=v)/\(∀b,v'.ownBlock=some b->b=w.heap.size\/v.ownBlock=some b)/\w.grownBy w' v.ownBlock:=by
 have h63:n+m<=maxLen:=by unfold maxLen;omega
 rcases Nat.eq_zero_or_pos m with hm|hm
 ·subst hm;have hvs:vs=[]:=aQJ.1 (by omega);subst hvs;have hres:w.ownsRow 0 149 2 v (n+0) (xs.take (i*2)++[]++xs.drop (i*2)):=by
   rw[List.append_nil,aQ3];exact hown
  obtain⟨base,c,rfl,hnc,hc⟩: ∃base c,v= .slice base n c/\n<=c/\c<=maxLen:=by
   rcases hown.2 with⟨rfl,rfl⟩ |⟨b,c,cur,rfl,_,_,h2,h3,_⟩
   ·exact⟨none,0,rfl,Nat.le_refl _,by unfold maxLen;omega⟩
   ·exact⟨_,c,rfl,h2,h3⟩
  refine(aII base n c i v0 vc w hin hnc hc).mono ?_;rintro e w' ⟨rfl,rfl⟩;exact⟨_,rfl,hres,fun _=>rfl,fun b hb=> .inr hb,World.grownBy.refl _ _⟩
 ·obtain⟨vb,voff,rfl,hvb,hvs⟩: ∃vb voff,v0=some ⟨vb,voff,none⟩/\v.ownBlock≠some vb/\∀j u,vs[j]? =some u->w.cell? ⟨vb,voff+j,none⟩=some u:=by
   rcases hv0 with h|h
   ·omega
   ·exact h
  have hxl:=hown.1;rcases aQ8 i n with hlt|hge
  ·rcases hown.2 with⟨rfl,rfl⟩ |⟨b,c,cur,rfl,_,hbk,hnc,hcm,hcs,htk⟩
   ·omega
   ·have hb:vb≠b:=fun h=>hvb (by rw[h];rfl);have hx1:cur.toList.take (i*2)=xs.take (i*2):=by rw[<-htk,List.take_take,Nat.min_eq_left (by omega)]
    have hx2:(cur.toList.drop (i*2)).take ((n-i)*2)=xs.drop (i*2):=by rw[aIF hin,htk]
    rcases aQ8 c (n+m) with hr|hr
    ·refine(aIK b n c i vb voff m vc cur vs w hlt hm hnc hr hby hbk hcs hvl hvs (by rw[htk];exact h1) h1v).mono ?_;rintro e w' ⟨G,rfl,ho,hg⟩;rw[hx1,hx2] at ho;exact⟨_,rfl,ho,fun h=>by omega,fun b hb=> .inl (by simpa[Value.ownBlock] using hb.symm),⟨hg.os,hg.tape,hg.output,hg.size,fun k hk _=>hg.block k hk (by simp)⟩⟩
    ·refine(aIH b n c i vb voff m vc cur vs w hlt hm hr hcm hb hbk hcs hvl hvs (by rw[htk];exact h1) h1v).mono ?_;rintro e w' ⟨rfl,cur',rfl,hs,ht⟩;rw[hx1,hx2] at ht;refine⟨_,rfl,⟨?_,.inr ⟨b,c,cur',rfl,aQI _,aRP w.drew b cur cur' _ _ hbk,hr,hcm,by rw[hs,hcs],ht⟩⟩,fun h=>by omega,fun b' hb'=> .inr hb',⟨rfl,rfl,rfl,by simp,fun k hk hne=>aRn w.drew b k cur' (fun h=>hne (by rw[h];rfl))⟩⟩;simp only[aPP,aQc,aP5,hxl,hvl];omega
  ·obtain rfl:i=n:=by omega
   refine(aIJ v i vb voff m vc xs vs w hm hown h63 hby hvl hvs h1v).mono ?_;rintro e w' ⟨q,cap,rfl,ho,hq,hg⟩;refine⟨_,rfl,?_,fun h=>by omega,fun b hb=> ?_,hg⟩
   ·rw[<-hxl,List.take_length,aQz,List.append_nil];exact ho
   ·have hb:q=b:=by simpa[Value.ownBlock] using hb
    exact hb▸hq
theorem a92 {α:Type}{R:α->List Value->Prop}{c:Nat}: ∀{l:List α}{cs:List Value}(i:Nat),sB R c l cs->sB R c (l.take i) (cs.take (i*c))
 |_,_,0,_=>by simp [sB]
 |[],_,_+1,h=>by rw[show _=[] from h];simp [sB]
 |x::l,_,i+1,⟨c1,c2,e,h1,h2,h3⟩=>by
  refine⟨c1,c2.take (i*c),?_,h1,h2,a92 i h3⟩;rw[e,aQU,Nat.add_comm,<-h1,List.take_length_add_append]
theorem a93 {α:Type}{R:α->List Value->Prop}{c:Nat}: ∀{l:List α}{cs:List Value}(i:Nat),sB R c l cs->sB R c (l.drop i) (cs.drop (i*c))
 |_,_,0,h=>by simpa using h
 |[],_,_+1,h=>by rw[show _=[] from h];simp [sB]
 |x::l,_,i+1,⟨c1,c2,e,h1,h2,h3⟩=>by
  rw[e,show (i+1)*c=c1.length+i*c by rw[h1,aQU,Nat.add_comm],List.drop_length_add_append];exact a93 i h3
def zU {t:Type}(l:List t) (i:Int) (v:List t):List t:=List.take i.toNat l++v++List.drop i.toNat l
@[go_sem] def YG:List pB->List p9->Option pH
 |[(.own 0 O,none),(.val (.int .i64) Z,none),(.val (.list (.pair .str (.pair .str .unit))) aA,none)],[.row 149 (.pair .str (.pair .str .unit)) aB aC]=>
  some ⟨[O=aC,0<=Z/\Z<=List.length aB,(List.length aB+List.length aA)*32<=140737488355328],[(.own 0 (List.length (zU aB Z aA)),none)],[.row 149 (.pair .str (.pair .str .unit)) (zU aB Z aA) (List.length (zU aB Z aA))]⟩
 |_,_=>none
theorem aIM:yH Tryz.prog 240 YG:=by
 refine⟨fun _ _=>rfl,fun g w args vals L r hH ha hC hs=> ?_⟩;unfold YG at hC;split at hC
 ·rename_i n iI vl l n2;cases hC;obtain rfl:n=n2:=hs _ (by simp);obtain⟨hi0,hil⟩:=hs (0<=iI/\iI<=List.length l) (by simp);have hby:=hs ((List.length l+List.length vl)*32<=140737488355328) (by simp);clear hs;obtain⟨va,_,rfl,ra,vb,_,rfl,rb,vc,_,rfl,rc,hv⟩:=ha;cases hv;have hg0:pD (pN 0 [p9.row 149 (.pair .str (.pair .str .unit)) l n]) 0=some (.row 149 (.pair .str (.pair .str .unit)) l n):=rfl;obtain⟨hl,v,xs,hcur,hown,hF,hnone,hseal⟩:=hH.blk 0 _ hg0;have hva:va=v:=by
   have:=ra.1.1;rw[hcur] at this;exact(aPS this).symm
  subst hva;obtain⟨i,rfl⟩:=Int.eq_ofNat_of_zero_le hi0;have hvb:vb= .int .i64 i:=v8 rb.1;subst hvb;obtain⟨a,cap,rfl,hcap,hlist⟩:=BU rc.1;have hRone: ∀(x:(Ty.pair .str (.pair .str .unit)).den) cs,Rd g w (.pair .str (.pair .str .unit)) x cs->∀v∈cs,v.oneCell'=true:=fun x cs h=>zN h;obtain⟨vs,hFv,hv0⟩: ∃vs,sB (Rd g w (.pair .str (.pair .str .unit))) 2 vl vs/\(vl.length=0\/∃vb voff,a=some ⟨vb,voff,none⟩/\va.ownBlock≠some vb/\∀j u,vs[j]? =some u->w.cell? ⟨vb,voff+j,none⟩=some u):=by
   rcases hlist with rfl|⟨b,o,rfl,hL⟩
   ·exact⟨[],rfl,.inl rfl⟩
   ·obtain⟨cs,h1,h2,h3⟩:=K7 hL;rcases Nat.eq_zero_or_pos vl.length with h0|h0
    ·exact⟨cs,h1,.inl h0⟩
    ·exact⟨cs,h1,.inr ⟨b,o,rfl,fun hb=>hseal b hb _ (h3 0 (Nat.mul_pos h0 (by decide))),h2⟩⟩
  have hvl:=FX hFv;have hil2:(i:Int)<=(l.length:Int):=hil;have hil':i<=n:=by omega
  subst hl;refine(aIL va l.length i vl.length cap a xs vs w (by omega) hown hby (ND hRone hF) hv0 hvl (ND hRone hFv)).mono ?_;rintro e w' ⟨v',rfl,hown',hm0,hob,hgr⟩;have hlen:(zU l (i:Int) vl).length=l.length+vl.length:=by
   simp only[zU,aQv,aPP,aQc,aP5];omega
  have hF':sB (Rd g w (.pair .str (.pair .str .unit))) 2 (zU l (i:Int) vl) (xs.take (i*2)++vs++xs.drop (i*2)):=by
   unfold zU;rw[aQv];exact N5 (N5 (a92 i hF) hFv) (a93 i hF)
  have hsl: ∀b o,g.S b o->w'.cell? ⟨b,o,none⟩=w.cell? ⟨b,o,none⟩:=fun b o h=>aQb (a:=⟨b,o,none⟩) (hgr.block b (hH.sl b o h) (fun e=>hseal b e.symm o h));have hE:=qV.row (side:=[]) (rds:=[]) (s:=(.own 0 (zU l (i:Int) vl).length,none)) (val:=v') (k:=0) (g:=g) (w:=w) (H:=pN 0 [p9.row 149 (.pair .str (.pair .str .unit)) l l.length]) hH (e:=149) (t:= .pair .str (.pair .str .unit)) (l:=zU l (i:Int) vl) (n:=(zU l (i:Int) vl).length) (v:=v') rfl (by rw[hlen];exact hown') hF'
   (fun m hm=>hnone m (by omega)) (fun u hu=>by
    rcases Nat.eq_zero_or_pos vl.length with h0|h0
    ·rw[hlen,h0,aRg,hcur] at hu;rw[hm0 h0];exact(aPS hu).symm
    ·rw[hnone _ (by omega)] at hu;cases hu)
   (.inr ⟨va.ownBlock,hgr,fun b hb o=>⟨0,_,by simp,hg0,va,hcur,hb⟩⟩) hsl
   (fun b hb o hS=>by
    rcases hob b hb with h|h
    ·have:=hH.sl b o hS;omega
    ·exact hseal b h o hS)
   (fun b hb=>(hob b hb).imp (fun h=>by omega) fun h o=>⟨0,_,by simp,hg0,va,hcur,h⟩)
   ⟨⟨by simp [Gh.tok],by
    rw[hlen];rcases hown'.2 with⟨rfl,h⟩ |⟨b,cap',_,rfl,_,_,h,_⟩
    ·exact .inl ⟨rfl,h⟩
    ·exact .inr ⟨b,cap',rfl,h⟩⟩,trivial⟩
  refine⟨v',_,rfl,⟨fun b o h=>⟨hE.le.S b o h,hE.le.cell b o h⟩,hE.heap.ext ?_,hE.slot,hE.fr.mono fun b o ⟨i,blk,_,h1,h2⟩=>⟨i,blk,h1,h2⟩,fun i blk b o hi ho=> ?_,fun i t x ts h=> ?_,fun i t x ts u y us h _=> ?_,fun _ _ _ h=>h,fun i m u hi h=> ?_⟩⟩
  ·intro i
   match i with
   |0=>rfl
   |i+1=>rfl
  ·match i,hi with
   |0,hi=>
    cases hi;exact(hE.perm 0 _ b o (by simp [pE]) rfl ho).imp id fun⟨i,blk,_,h1,h2⟩=>⟨i,blk,h1,h2⟩
   |i+1,hi=>simp at hi
  ·match i,h with
   |0,h=>cases h
   |i+1,h=>simp at h
  ·match i,h with
   |0,h=>cases h
   |i+1,h=>simp at h
  ·exact hE.le.cur i m u h
 ·cases hC
end Go.Proofs.YtbbpilohihldiaaGreatDoor
namespace Go.Proofs.YtbbpilohihldiaaGreatDoor.Vc
open Go.RowKit
@[go_sem] def YH (np:Nat):DV->Bool
 | .any=>true
 | .nilS=>true
 | .val .ref (some (i,_))=>decide (i<np)
 | .val .ref none=>true
 | .val t _=>t.pure
 |_=>false
@[go_sem] def SN (np:Nat):pB->Bool
 |(d,none)=>YH np d
 |(.val (.list t) _,some k)=>t.pure&&decide (k<np)
 |_=>false
@[go_sem] def KL (np:Nat):List (Nat×pB)->Bool
 |[]=>true
 |(_,s)::r=>SN np s&&KL np r
theorem a94 {np:Nat}: ∀{env:List (Nat×pB)},KL np env=true->∀t,SN np (lk env t)=true
 |[],_,t=>rfl
 |(k,s)::r,h,t=>by
  simp only[KL,aPT] at h;unfold lk;split
  ·exact h.1
  ·exact a94 h.2 t
theorem aIN {np:Nat}{g g':Gh}{w:World}(hS:g'.S=g.S) (hJ: ∀i,i<np->g'.J i=g.J i) (hC: ∀i n,i<np->g'.cur i n=g.cur i n) {s:pB}{v:Value}(hp:SN np s=true) (h:qH g w s v):qH g' w s v:=by
 have hV: ∀{t:Ty}{x:t.den},t.pure=true->s9 g w t x v->s9 g' w t x v:=fun ht hv=>by
  rcases hv with⟨h1,cs,h2,h3⟩ |⟨h1,h2⟩
  ·exact .inl ⟨h1,cs,h2,uV hS ht h3⟩
  ·exact .inr ⟨h1,uV hS ht h2⟩
 have hD: ∀d,YH np d=true->yD g w d v->yD g' w d v:=by
  intro d hd hr;unfold YH at hd;split at hd
  ·trivial
  ·exact hr
  ·rename_i i o;have hi:=aQu hd;rcases hr with⟨h1,_⟩ |⟨h1,h2⟩
   ·cases h1
   ·refine .inr ⟨h1,?_⟩;obtain⟨p,hp1,hp2⟩:=h2;exact⟨p,(hJ i hi).trans hp1,hp2⟩
  ·rcases hr with⟨h1,_⟩ |⟨h1,h2⟩
   ·cases h1
   ·exact .inr ⟨h1,h2⟩
  ·exact hV hd hr
  ·cases hd
 obtain⟨d,k⟩:=s;cases k with
 |none=>exact⟨hD d hp h.1,trivial⟩
 |some k=>
  unfold SN at hp;split at hp
  ·rename_i heq;cases heq
  ·rename_i t x k' heq;cases heq;simp only[aPT,aPQ] at hp;exact⟨hV (t:= .list t) hp.1 h.1,(hC k _ hp.2).trans h.2⟩
  ·cases hp
theorem aIO {np:Nat}{g g':Gh}{w w':World}{env:List (Nat×pB)}{tmps:Array Value}(h:zQ g w env tmps) (hp:KL np env=true) (hS: ∀b o,g.S b o->g'.S b o) (hc: ∀b o,g.S b o->w'.cell? ⟨b,o,none⟩=w.cell? ⟨b,o,none⟩)
  (hJ: ∀i p,i<np->g.J i=some p->g'.J i=some p) (hC: ∀i n v,i<np->g.cur i n=some v->g'.cur i n=some v):zQ g' w' env tmps:=fun t=>by
 have le:Le g w ⟨g'.S,fun i=>if i<np then g'.J i else g.J i,fun i n=>if i<np then g'.cur i n else g.cur i n⟩ w':=by
  refine⟨hS,hc,fun i p hi=> ?_,fun i n v hi=> ?_⟩
  ·show (if i<np then _ else _)=_;split
   ·rename_i hlt;exact hJ i p hlt hi
   ·exact hi
  ·show (if i<np then _ else _)=_;split
   ·rename_i hlt;exact hC i n v hlt hi
   ·exact hi
 exact aIN (np:=np) (g:=⟨g'.S,fun i=>if i<np then g'.J i else g.J i,fun i n=>if i<np then g'.cur i n else g.cur i n⟩) (g':=g') rfl (fun i hi=>(if_pos hi).symm) (fun i n hi=>by show g'.cur i n=(if i<np then g'.cur i n else g.cur i n);rw[if_pos hi]) (a94 hp t) (zM le (h t))
theorem s8.inner {A A':Nat->Nat->Prop}{L L':List p9}{g0 g g':Gh}{w0 w w':World}{H H':rD}(h:s8 A L g0 w0 g w H) (k:s8 A' L' g w g' w' H') (hA: ∀b o,A' b o->w.heap.size<=b\/xZ g H b o) (hl:L.length<=L'.length)
  (hL: ∀i,i<L.length->∀b,L'[i]? =some b->pD H i=some b):s8 A L g0 w0 g' w' H':=by
 have own: ∀b o,A' b o->w0.heap.size<=b\/A b o:=fun b o x=>by
  rcases hA b o x with h1|⟨i,blk,h1,h2⟩
  ·exact .inl (aQK h.fr.size h1)
  ·exact h.perm i blk b o h1 h2
 refine⟨fun b o x=> ?_,h.fr.trans k.fr own,fun i blk b o h1 h2=> ?_,fun i p hi hp=>k.J i p (by omega) (h.J i p hi hp),fun i hi=>k.live i (by omega),fun i u y us hi hg=> ?_,fun i n v hi hv=>k.cur i n v (by omega) (h.cur i n v hi hv)⟩
 ·obtain⟨h1,h2⟩:=h.shut b o x;obtain⟨k1,k2⟩:=k.shut b o h1;exact⟨k1,k2.trans h2⟩
 ·rcases k.perm i blk b o h1 h2 with h3|h3
  ·exact .inl (aQK h.fr.size h3)
  ·exact own b o h3
 ·obtain⟨x,ts,hx⟩:=k.ty i u y us (by omega) hg;exact h.ty i u x ts hi (hL i hi _ hx)
theorem s8.start {g:Gh}{w:World}{H:rD}{L':List p9}(hH:rL g w H) (hL: ∀i b,L'[i]? =some b->pD H i=some b/\b≠.dead) (hty: ∀i,i<L'.length->∀b,pD H i=some b->L'[i]? =some b):s8 (xZ g H) L' g w g w H:=by
 refine⟨fun b o h=>⟨h,rfl⟩,Fr.refl _ _ _,fun i blk b o hg ho=> .inr ⟨i,blk,hg,ho⟩,fun _ _ _ h=>h,fun i hi=> ?_,fun i u y us hi hg=>⟨y,us,hty i hi _ hg⟩,fun _ _ _ _ h=>h⟩;obtain⟨h1,h2⟩:=hL i L'[i] (by simp);have hbk:=hH.blk i _ h1;generalize L'[i]=blk at hbk h2;cases blk with
 |cells t x ts=>obtain⟨p,cs,hp,_⟩:=hbk;exact .inl ⟨p,hp⟩
 |grow e c n=>obtain⟨v,xs,hv,_⟩:=hbk;exact .inr ⟨n,v,hv⟩
 |row e t l n=>obtain⟨_,v,xs,hv,_⟩:=hbk;exact .inr ⟨n,v,hv⟩
 |map k v l=>obtain⟨p,es,cl,hp,_⟩:=hbk;exact .inl ⟨p,hp⟩
 |iter s n=>obtain⟨p,hp,_⟩:=hbk;exact .inl ⟨p,hp⟩
 |dead=>exact absurd rfl h2
@[go_sem] def I7 (env:List (Nat×pB)):List Nat->List pB->List (Nat×pB)
 |p::ps,s::ss=>I7 (sF (some p) s env) ps ss
 |_,_=>env
theorem a95 {g:Gh}{w:World}: ∀{ps:List Nat}{ss:List pB}{vs:List Value}{env:List (Nat×pB)}{tmps:Array Value},zQ g w env tmps->(∀p∈ps,p<tmps.size)->uL g w ss vs->ps.length=ss.length->
  zQ g w (I7 env ps ss) ((ps.zip vs).foldl (fun t (q:Nat×Value)=>t.setIfInBounds q.1 q.2) tmps)/\((ps.zip vs).foldl (fun t (q:Nat×Value)=>t.setIfInBounds q.1 q.2) tmps).size=tmps.size
 |[],[],vs,env,tmps,h,_,ha,_=>by
  have:vs=[]:=ha;subst this;exact⟨h,rfl⟩
 |p::ps,s::ss,vs,env,tmps,h,hp,ha,hl=>by
  obtain⟨v,vs',rfl,h1,h2⟩:=ha;have hput:zQ g w (sF (some p) s env) (tmps.setIfInBounds p v):=XM (a:={tmps:=tmps,defers:=[]}) (o:=⟨some p,.move (.tmp 0),0, "",#[],none⟩) (N:=tmps.size) h (Le.refl g w) h1 rfl (by simpa[FT] using hp p (by simp))
  have:=a95 (tmps:=tmps.setIfInBounds p v) hput (fun q hq=>by simpa using hp q (aP1 _ hq)) h2 (by simpa using hl);exact⟨this.1,by rw[List.zip_cons_cons,List.foldl_cons];rw[this.2];simp⟩
def YI (P:Program) (gf:Nat) (u:Ty) {ι:Type}(pre:u.den->Prop) (items:u.den->List ι) (vl:ι->List Value):Prop:=
 (∀args w,(callFunc gf args).run P w= .ok (.enter gf args) w)/\
 ∀(l b o:Nat) (x:u.den) (cs:List Value) (g:Gh) (W0:World) (J:Nat->World->Prop) (Jx:World->Prop),pre x->Rd g W0 u x cs->
  (∀i W,J i W->W.rangeAt b o cs/\∀b o,g.S b o->W.cell? ⟨b,o,none⟩=W0.cell? ⟨b,o,none⟩)->
  (∀i W d,J i W->J i {W with drawn:=d})->(∀W d,Jx W->Jx {W with drawn:=d})->
  (∀i it W,(items x)[i]? =some it->J i W->YieldAt Fence.wide 0 P l (vl it).toArray W fun e W'=>(e= .returned (.bool true)/\J (i+1) W')\/(e= .returned (.bool false)/\Jx W'))->
  ∀W,J 0 W->Calls P gf #[.func (.yield l) #[] #[],.pointer (some ⟨b,o,none⟩)] W fun e W'=>(∃v,e= .returned v)/\(J (items x).length W'\/Jx W')
def vI {ι σ ρ:Type}(f:ι->σ->Option (σ⊕ρ)):List ι->σ->Option (σ⊕ρ)
 |[],x=>some (.inl x)
 |it::r,x=>(f it x).bind fun w=>match w with
  | .inl x'=>vI f r x'
  | .inr y=>some (.inr y)
theorem aIP {ι σ ρ:Type}{f:ι->σ->Option (σ⊕ρ)}{it:ι}{r:List ι}{x:σ}{y:σ⊕ρ}(h:vI f (it::r) x=some y): ∃w,f it x=some w/\(∀x',w= .inl x'->vI f r x'=some y)/\(∀z,w= .inr z->y= .inr z):=by
 unfold vI at h;cases hf:f it x with
 |none=>rw[hf] at h;cases h
 |some w=>
  rw[hf] at h;refine⟨w,rfl,fun x' e=> ?_,fun z e=> ?_⟩
  ·subst e;exact h
  ·subst e;exact(aPS h).symm
def qA (st:St):Ex->St->Prop
 | .normal,s=> ∃k:v7,s.keep k=st
 |_,_=>False
def qF {σ ρ:Type}(encH:σ->List p9) (E0:List (Nat×pB)) (N np np':Nat) (w:σ⊕ρ) (Q:Ex->St->Prop):Ex->St->Prop
 | .normal,s=> ∃(k:v7) (x:σ),w= .inl x/\s.keep k=⟨[],pN 0 (encH x),pV (encH x),N,np'⟩
 |e,s=> ∃(k:v7) (B:List p9),s.keep k=⟨[],pN 0 B,pV B,N,np'⟩/\(∃z,w= .inr z)/\Q e ⟨E0,pN 0 B,pV B,N,np⟩
section
variable {B:Nat}{A:Nat->Nat->Prop}{L:List p9}{g0 g:Gh}{w0 w:World}{b0 o0 n0:Nat}{cs:List Value}{E0:List (Nat×pB)}{tmps:Array Value}{ds:List Deferred}
structure AJ (B:Nat) (A:Nat->Nat->Prop) (L:List p9) (g0:Gh) (w0:World) (g:Gh) (w:World) (b0 o0 n0:Nat) (cs:List Value) (E0:List (Nat×pB)) (tmps:Array Value) (ds:List Deferred) (g1:Gh) (W:World) (H:rD):Prop where
 env:zQ g1 W E0 tmps
 heap:rL g1 W H
 good:s8 A L g0 w0 g1 W H
 sld: ∀b o,g.S b o->g1.S b o/\W.cell? ⟨b,o,none⟩=w.cell? ⟨b,o,none⟩
 rng:W.rangeAt b0 o0 cs
 len:cs.length=n0
 lt:0<n0->b0<W.heap.size
 out: ∀o,o0<=o->o<o0+n0->¬xZ g1 H b0 o
 defs:y3 B W ds
theorem AJ.turn {g1:Gh}{W W2:World}{H:rD}(h:AJ B A L g0 w0 g w b0 o0 n0 cs E0 tmps ds g1 W H) (t:tW w0.heap.size W W2) {ds':List Deferred}(hd:y3 B W2 ds'):AJ B A L g0 w0 g w b0 o0 n0 cs E0 tmps ds' g1 W2 H:=by
 refine⟨fun x=>zM (t.le h.heap.sl) (h.env x),t.heapOk h.heap,h.good.turn h.heap.sl t,fun b o x=>⟨(h.sld b o x).1,(t.cell (h.heap.sl b o (h.sld b o x).1) o).1.trans (h.sld b o x).2⟩,fun j v hv=> ?_,h.len,fun x=>aQs (h.lt x) t.size,h.out,hd⟩;have hj:j<cs.length:=(aP0.1 hv).1;have:=h.len;exact(t.cell (h.lt (by omega)) _).1.trans (h.rng j v hv)
theorem AJ.inner {g1 g2:Gh}{W W2:World}{H H2:rD}{L':List p9}{np':Nat}(h:AJ B A L g0 w0 g w b0 o0 n0 cs E0 tmps ds g1 W H) (k:s8 (xZ g1 H) L' g1 W g2 W2 H2) (hH:rL g2 W2 H2) (hpin:KL np' E0=true) (hnp:np'=L'.length) (hl:L.length<=L'.length)
  (hL: ∀i,i<L.length->∀b,L'[i]? =some b->pD H i=some b):AJ B A L g0 w0 g w b0 o0 n0 cs E0 tmps ds g2 W2 H2:=by
 subst hnp;refine⟨aIO h.env hpin (fun b o x=>(k.shut b o x).1) (fun b o x=>(k.shut b o x).2) (fun i p hi x=>k.J i p hi x) (fun i n v hi x=>k.cur i n v hi x),hH,h.good.inner k (fun b o x=> .inr x) hl hL,fun b o x=> ?_,fun j v hv=> ?_,h.len,fun x=>aQs (h.lt x) k.fr.size,fun o h1 h2 ⟨i,blk,h3,h4⟩=> ?_,h.defs.same fun D hD=> ?_⟩
 ·obtain⟨h1,h2⟩:=h.sld b o x;exact⟨(k.shut b o h1).1,(k.shut b o h1).2.trans h2⟩
 ·have hj:j<cs.length:=(aP0.1 hv).1;have:=h.len;exact(k.fr.cell _ _ (h.lt (by omega)) (h.out _ (by omega) (by omega))).1.trans (h.rng j v hv)
 ·rcases k.perm i blk _ _ h3 h4 with h5|h5
  ·have:=h.lt (by omega);omega
  ·exact h.out o h1 h2 h5
 ·rw[k.fr.blk D (aP9.1 hD).1 (fun o ⟨i,blk,h1,h2⟩=>S7 (h.heap.blk i blk h1) h2 hD rfl)];exact hD
theorem a96 {g1 g2:Gh}{W W2:World}{H H2:rD}{L':List p9}(hH:rL g1 W H) (k:s8 (xZ g1 H) L' g1 W g2 W2 H2) {D:Nat}{ob:Obj}(hD:W.heap[D]? =some ob) (hm:E5 ob=true):W2.heap[D]? =some ob:=by
 rw[k.fr.blk D (aP9.1 hD).1 (fun o ⟨i,blk,h1,h2⟩=>S7 (hH.blk i blk h1) h2 hD hm)];exact hD
end
theorem tW.put {B:Nat}{W:World}{l:Nat}{o o':Obj}(h:W.heap[l]? =some o) (hB:B<=l) (hN:NG<=l) (hm:E5 o=true) (hm':E5 o'=true):tW B W (W.putObj l o'):=by
 have hlt:=(aP9.1 h).1;refine⟨rfl,rfl,rfl,by simp [World.putObj],fun b hb=> ?_⟩;by_cases e:b=l
 ·subst e;exact .inr ⟨hB,hN,_,_,h,World.putObj_heap_same hlt,hm,hm'⟩
 ·exact .inl (World.putObj_heap_other e)
theorem tW.new (B:Nat) (W:World) (o:Obj):tW B W (W.alloc o):=by
 refine⟨rfl,rfl,rfl,by simp,fun b hb=> .inl ?_⟩;exact aQg W o b hb
theorem a97 {e:Ex}{x:Exit}(h:CU x=some e):(x= .normal/\e= .normal)\/(x= .ret/\e= .ret)\/∃id,x= .exit id/\e= .exit id:=by
 cases x<;>simp only[CU,aPN] at h
 ·exact .inl ⟨rfl,h.symm⟩
 ·exact .inr (.inr ⟨_,rfl,h.symm⟩)
 ·cases h
 ·exact .inr (.inl ⟨rfl,h.symm⟩)
 ·cases h
 ·cases h
def aIQ:Ex->Option Code
 | .normal=>none
 | .ret=>some .ret
 | .exit id=>some (.exit id)
theorem YJ {P:Program}{gf:Nat}{u:Ty}{ι:Type}{pre:u.den->Prop}{items:u.den->List ι}{vl:ι->List Value}(hit:YI P gf u pre items vl) {sl:ι->List pB}(hsl: ∀it g w,uL g w (sl it) (vl it))
  {fo:Operand}{ps:Array Tmp}{assign body:Code}{s:St}{Q:Ex->St->Prop}{c:Nat}{k0:Option Nat}(hf:sO s.env fo=(.val .clo (some (gf,[(c,0)])),k0)) {xc:u.den}{toks:List (Nat×Nat)}(hc:pD s.H c=some (.cells u xc toks)) (hpre:pre xc)
  {σ ρ:Type}{f:ι->σ->Option (σ⊕ρ)}{x0:σ}{y:σ⊕ρ}(hy:vI f (items xc) x0=some y)
  (E0:List (Nat×pB)) (E1:ι->List (Nat×pB)) (encH:σ->List p9) (np':Nat) (k:v7) (hk:wJ s.np k.ids=true) (h0:s.keep k=⟨E0,pN 0 (encH x0),pV (encH x0),s.N,s.np⟩)
  (hcd:k.ids.all (fun q=>decide (q.2≠c))=true) (hpin:KL np' E0=true) (hnp:s.np<=np') (hlen: ∀x,np'<=pV (encH x)) (hdead: ∀x,((encH x).take np').all (fun b=>match b with| .dead=>false|_=>true)=true)
  (hps: ∀it,ps.toList.length=(sl it).length) (hpN:(ps.toList.all fun p=>decide (p<s.N))=true)
  (hround: ∀it x w,f it x=some w->(∀z,w= .inr z->y= .inr z)->Ev true P assign ⟨I7 E0 ps.toList (sl it),pN 0 (encH x),pV (encH x),s.N,np'⟩ (qA ⟨E1 it,pN 0 (encH x),pV (encH x),s.N,np'⟩)/\
   Ev true P body ⟨E1 it,pN 0 (encH x),pV (encH x),s.N,np'⟩ (qF encH E0 s.N s.np np' w Q))
  (hdone: ∀x,y= .inl x->Q .normal ⟨E0,pN 0 (encH x),pV (encH x),s.N,s.np⟩):Ev false P (.rangeFunc fo ps assign body) s Q:=by
 intro ro hro A L g0 w0 g a w B hB hr hg hn;have hN:ro=none:=by cases ro<;>first|rfl|cases hro
 subst hN;have hfv:=yJ hr.env fo;rw[hf] at hfv;obtain⟨p,hpJ,hev⟩: ∃p,g.J c=some p/\a.eval fo= .func (.func gf) #[] #[.pointer (some ⟨p.1,p.2,none⟩)]:=by
  rcases hfv.1 with⟨h1,_⟩ |⟨_,vs,⟨p,vs',h4,h5,h6⟩,h3⟩
  ·cases h1
  ·rw[show vs'=[] from h6] at h5;subst h5;simp only[aQH,and_true] at h3;exact⟨p,h4,h3⟩
 obtain⟨p',cs,hp',hRc,hra,hth,hns,htk⟩:=hr.heap.blk c _ hc;rw[hpJ] at hp';obtain rfl:=aPS hp';have hcl:=rW hRc;obtain⟨hr1,hg1,hn1,_⟩:=XL hr hg hn k hk;have hout: ∀o,p.2<=o->o<p.2+u.cells->¬xZ (tC g s.np k.ids) (s.keep k).H p.1 o:=by
  rintro o h1 h2 ⟨i,blk,h3,h4⟩;have h3':pD (MZ s k (wJ s.np k.ids)).H i=some blk:=h3;rw[hk] at h3';obtain⟨o',h5,rfl⟩:=G1 h3';obtain⟨c1,h6,h7⟩:=(I2 hk h5 fun c1 hc1=>hr.heap.blk o' c1 hc1).2 _ _ h4;have h8:=aQt.1 hcd _ h5;exact hr.heap.dis o' c c1 _ p.1 o (aQu h8) h6 hc h7 ⟨p,hpJ,rfl,h1,h2⟩
 rw[h0] at hr1 hg1 hout;have inv0:AJ B A L g0 w0 g w p.1 p.2 u.cells cs E0 a.tmps a.defers (tC g s.np k.ids) w (pN 0 (encH x0)):=
  ⟨hr1.env,hr1.heap,hg1,fun b o h=>⟨h,rfl⟩,hra,hcl,fun hpos=>by
   obtain⟨v,hv⟩:=aPO.1 (hth.1 0 hpos).1;exact RG hv,hout,hr.def_⟩
 have hNG:NG<=w.heap.size:=hr.heap.tab.1.1;have hBw:w0.heap.size<=w.heap.size:=hg.fr.size;refine wpIn_rangeFunc fun fn _=> ?_;obtain⟨rec,hrec⟩: ∃rec:LoopState->Option Code->Loop,rec=fun st pe=>{state:=st,pending:=pe,fn,tmps:=a.tmps,params:=ps,assign,body,defers:=w.heap.size}:=⟨_,rfl⟩;obtain⟨W1,hW1⟩: ∃W1,(w.alloc (.deferred (some []))).alloc (.loop (rec .ready none))=W1:=⟨_,rfl⟩;have hL1:W1.heap[w.heap.size+1]? =some (.loop (rec .ready none)):=by
  rw[<-hW1];have:=World.alloc_heap_new (w.alloc (.deferred (some []))) (.loop (rec .ready none));rwa [World.size_alloc] at this
 have hK1:W1.heap[w.heap.size]? =some (.deferred (some [])):=by
  rw[<-hW1];exact(aQg _ _ _ (by simp)).trans (World.alloc_heap_new w _)
 have t1:tW w0.heap.size w W1:=by rw[<-hW1];exact(tW.new _ _ _).trans (tW.new _ _ _)
 obtain⟨ds,hds⟩: ∃ds:List Deferred,{target:= .collected w.heap.size,args:= #[]}::a.defers=ds:=⟨_,rfl⟩;have hd1:y3 B W1 ds:=by
  rw[<-hds];refine⟨List.nodup_cons.2 ⟨fun hm=> ?_,hr.def_.1⟩,fun d hd=> ?_⟩
  ·obtain⟨D,h1,_,_,h4⟩:=hr.def_.2 _ hm;have h5:w.heap.size=D:=by injection h1 with h1;injection h1
   have:=(aP9.1 h4).1;omega
  ·rcases aP2.1 hd with rfl|hd
   ·exact⟨_,rfl,by omega,hNG,hK1⟩
   ·obtain⟨D,h1,h2,h3,h4⟩:=hr.def_.2 _ hd;have hlt:=(aP9.1 h4).1;refine⟨D,h1,h2,h3,?_⟩;rw[<-hW1];exact(aQg _ _ D (by simp;omega)).trans ((aQg _ _ D hlt).trans h4)
 let l:=w.heap.size+1
 let J:Nat->World->Prop:=fun i W=> ∃g1 x,vI f ((items xc).drop i) x=some y/\AJ B A L g0 w0 g w p.1 p.2 u.cells cs E0 a.tmps ds g1 W (pN 0 (encH x))/\
  (∀j,pV (encH x)<=j->g1.J j=none/\∀n,g1.cur j n=none)/\W.heap[l]? =some (.loop (rec .ready none))
 let Jx:World->Prop:=fun W=> ∃g1 Bl e cd z,aIQ e=some cd/\y= .inr z/\Q e ⟨E0,pN 0 Bl,pV Bl,s.N,s.np⟩/\AJ B A L g0 w0 g w p.1 p.2 u.cells cs E0 a.tmps ds g1 W (pN 0 Bl)/\
  (∀j,pV Bl<=j->g1.J j=none/\∀n,g1.cur j n=none)/\s.np<=pV Bl/\W.heap[l]? =some (.loop (rec .done (some cd)))
 have tdrawn: ∀(W:World) (d:Nat),tW w0.heap.size W {W with drawn:=d}:=fun W d=>⟨rfl,rfl,rfl,Nat.le_refl _,fun _ _=> .inl rfl⟩
 have hJd: ∀i W d,J i W->J i {W with drawn:=d}:=fun i W d ⟨g1,x,h1,h2,h3,h4⟩=>⟨g1,x,h1,h2.turn (tdrawn W d) (h2.defs.same fun _ h=>h),h3,h4⟩
 have hJxd: ∀W d,Jx W->Jx {W with drawn:=d}:=fun W d ⟨g1,Bl,e,cd,z,h1,h2,h3,h4,h5,h6,h7⟩=>⟨g1,Bl,e,cd,z,h1,h2,h3,h4.turn (tdrawn W d) (h4.defs.same fun _ h=>h),h5,h6,h7⟩
 have hround2: ∀i it W,(items xc)[i]? =some it->J i W->YieldAt Fence.wide 0 P l (vl it).toArray W fun e W'=>(e= .returned (.bool true)/\J (i+1) W')\/(e= .returned (.bool false)/\Jx W'):=by
  rintro i it W hi ⟨g1,x,hfold,inv,nb,hl⟩;have hil:i<(items xc).length:=(aP0.1 hi).1;have hdrop:(items xc).drop i=it::(items xc).drop (i+1):=by
   rw[aQa hil];congr 1;exact(aP0.1 hi).2
  rw[hdrop] at hfold;obtain⟨wv,hw,hinl,hinr⟩:=aIP hfold;obtain⟨evA,evB⟩:=hround it x wv hw hinr;have hvl:(vl it).toArray.size=ps.size:=by
   rw[aQA,(SG (hsl it g1 W)).1,<-hps it,aQl]
  have hyl:=run_yield (P:=P) (args:=(vl it).toArray) hl (by rw[hrec];exact hvl);rw[hrec] at hyl;refine⟨fn,_,assign,body,hyl,roundIn_of_wpIn trivial ?_⟩;have hz:(ps.zip (vl it).toArray).foldl (fun tmps (t,v)=>tmps.setIfInBounds t v) a.tmps=(ps.toList.zip (vl it)).foldl (fun t (q:Nat×Value)=>t.setIfInBounds q.1 q.2) a.tmps:=by
   rw[<-aRV,Array.toList_zip]
  rw[hz];obtain⟨henv,hsz⟩:=a95 inv.env (fun q hq=>by rw[hr.size];exact aQu (aQt.1 hpN q hq)) (hsl it g1 W) (hps it);have hL'len:((encH x).take np').length=np':=by
   rw[aQc];have:=hlen x;rw[SH] at this;omega
  have hLget: ∀i b,((encH x).take np')[i]? =some b->pD (pN 0 (encH x)) i=some b:=fun i b h=>by
   rw[wS];exact(aRR (by have:=(aP0.1 h).1;omega)).symm.trans h
  have hLget2: ∀i b,((encH x).take np')[i]? =some b->pD (pN 0 (encH x)) i=some b/\b≠.dead:=fun i b h=>⟨hLget i b h,fun e=>by
   have:=aQt.1 (hdead x) b (List.mem_of_getElem? h);subst e;cases this⟩
  have hLty: ∀i,i<((encH x).take np').length->∀b,pD (pN 0 (encH x)) i=some b->((encH x).take np')[i]? =some b:=fun i hi b h=>by
   rw[wS] at h;exact(aRR (by omega)).trans h
  have gs:=s8.start inv.heap hLget2 hLty;have rA:tY W.heap.size g1 W ⟨I7 E0 ps.toList (sl it),pN 0 (encH x),pV (encH x),s.N,np'⟩ {tmps:=(ps.toList.zip (vl it)).foldl (fun t (q:Nat×Value)=>t.setIfInBounds q.1 q.2) a.tmps,defers:=[]}:=⟨henv,inv.heap,hsz.trans hr.size,nb,a8U _ _,hlen x⟩;have hlow:L.length<=((encH x).take np').length:=by rw[hL'len,<-hn];exact hnp
  refine aRF (evA (some l) rfl _ _ g1 W g1 _ W _ (Nat.le_refl _) rA gs hL'len.symm) fun e a1 wa hp=> ?_;obtain⟨e',g2,s2,e1,e2,e3,e4,e5⟩:=hp;rcases a97 e1 with⟨rfl,rfl⟩ |⟨rfl,rfl⟩ |⟨id,rfl,rfl⟩
  ·obtain⟨kA,hkA⟩:=e2;obtain⟨g3,k1,k2,k3,_⟩:=E6 e3 e4 e5 kA;rw[hkA] at k1 k2;have inva:=inv.inner k2 k1.heap hpin hL'len.symm hlow (fun i hi b h=>hLget i b h);have hla:=a96 inv.heap k2 hl rfl;refine⟨_,run_beginRound hla (by rw[hrec]),?_⟩;obtain⟨Wb,hWb⟩: ∃Wb,wa.putObj l (.loop {rec .ready none with state:= .busy})=Wb:=⟨_,rfl⟩
   have tb:tW w0.heap.size wa Wb:=by rw[<-hWb];exact tW.put hla (by show w0.heap.size<=w.heap.size+1;omega) (by show NG<=w.heap.size+1;omega) rfl rfl
   have hlt:=(aP9.1 hla).1;have other: ∀{W:World}{o o':Obj}{D:Nat},W.heap[l]? =some (.loop (rec .ready none))\/W.heap[l]? =some (.loop {rec .ready none with state:= .busy})->W.heap[D]? =some (.deferred (some []))->(W.putObj l o').heap[D]? =some (.deferred (some [])):=by
    intro W o o' D h1 h2;rw[World.putObj_heap_other (fun e=>by subst e;rcases h1 with h1|h1<;>(rw[h1] at h2;cases h2))]
    exact h2
   have invb:=inva.turn tb (inva.defs.same fun D hD=>by rw[<-hWb];exact other (o:= .loop (rec .ready none)) (.inl hla) hD);have hlb:Wb.heap[l]? =some (.loop {rec .ready none with state:= .busy}):=by rw[<-hWb];exact World.putObj_heap_same hlt
   rw[hWb];have gsb:=s8.start invb.heap hLget2 hLty;have rB:tY W.heap.size g3 Wb ⟨E1 it,pN 0 (encH x),pV (encH x),s.N,np'⟩ a1:=⟨fun t=>zM (tb.le k1.heap.sl) (k1.env t),invb.heap,k1.size,k1.nb,k1.def_.same fun D hD=>by rw[<-hWb];exact other (o:= .loop (rec .ready none)) (.inl hla) hD,hlen x⟩;have hWW:W.heap.size<=Wb.heap.size:=aQK k2.fr.size tb.size;refine aRF (evB (some l) rfl _ _ g3 Wb g3 a1 Wb _ hWW rB gsb hL'len.symm) fun e a2 wc hp=> ?_;obtain⟨e',g4,s4,e1,e2,e3,e4,e5⟩:=hp;have vY: ∀(kB:v7) (Bl:List p9),s4.keep kB=⟨[],pN 0 Bl,pV Bl,s.N,np'⟩->∀jump:Option Code,∃g5,AJ B A L g0 w0 g w p.1 p.2 u.cells cs E0 a.tmps ds g5 (wc.putObj l (.loop (rec (if jump.isNone then .ready else .done) jump))) (pN 0 Bl)/\
     (∀j,pV Bl<=j->g5.J j=none/\∀n,g5.cur j n=none)/\np'<=pV Bl/\(wc.putObj l (.loop (rec (if jump.isNone then .ready else .done) jump))).heap[l]? =some (.loop (rec (if jump.isNone then .ready else .done) jump))/\
     (Instr.endRound l jump).run P wc= .ok (.bool jump.isNone) (wc.putObj l (.loop (rec (if jump.isNone then .ready else .done) jump))):=by
    intro kB Bl hkB jump;obtain⟨g5,j1,j2,j3,_⟩:=E6 e3 e4 e5 kB;rw[hkB] at j1 j2;have invc:=invb.inner j2 j1.heap hpin hL'len.symm hlow (fun i hi b h=>hLget i b h);have hlc:=a96 invb.heap j2 hlb rfl;have hltc:=(aP9.1 hlc).1;have tc:tW w0.heap.size wc (wc.putObj l (.loop (rec (if jump.isNone then .ready else .done) jump))):=tW.put hlc (by show w0.heap.size<=w.heap.size+1;omega) (by show NG<=w.heap.size+1;omega) rfl rfl;refine⟨g5,invc.turn tc (invc.defs.same fun D hD=>other (o:= .loop (rec .ready none)) (.inr hlc) hD),j1.nb,j1.np,World.putObj_heap_same hltc,?_⟩;have:=run_endRound (P:=P) jump hlc;rw[this,hrec]
   rcases a97 e1 with⟨rfl,rfl⟩ |⟨rfl,rfl⟩ |⟨id,rfl,rfl⟩
   ·obtain⟨kB,x',rfl,hkB⟩:=e2;obtain⟨g5,q1,q2,q3,q4,q5⟩:=vY kB _ hkB none;exact⟨_,_,q5,.inl ⟨rfl,g5,x',hinl x' rfl,q1,q2,q4⟩⟩
   ·obtain⟨kB,Bl,hkB,⟨z,rfl⟩,hq⟩:=e2;obtain⟨g5,q1,q2,q3,q4,q5⟩:=vY kB _ hkB (some .ret);exact⟨_,_,q5,.inr ⟨rfl,g5,Bl,.ret,.ret,z,rfl,hinr z rfl,hq,q1,q2,aQK hnp q3,q4⟩⟩
   ·obtain⟨kB,Bl,hkB,⟨z,rfl⟩,hq⟩:=e2;obtain⟨g5,q1,q2,q3,q4,q5⟩:=vY kB _ hkB (some (.exit id));exact⟨_,_,q5,.inr ⟨rfl,g5,Bl,.exit id,.exit id,z,rfl,hinr z rfl,hq,q1,q2,aQK hnp q3,q4⟩⟩
  ·exact e2.elim
  ·exact e2.elim
 refine⟨l,[{target:= .collected w.heap.size,args:= #[]}],W1,{target:= .fn (.func gf) #[.pointer (some ⟨p.1,p.2,none⟩)],args:= #[.func (.yield l) #[] #[]]},W1,gf,#[.func (.yield l) #[] #[]]++ #[.pointer (some ⟨p.1,p.2,none⟩)],W1,?_,?_,fun _ _=>trivial,?_,fun h=>(by cases h),?_⟩
 ·rw[<-hW1,hrec];exact run_enterLoop_outer _ _ _ _ _
 ·simp only[resolve,hev];simp [go_sem]
 ·simp [invoke,go_sem,hit.1]
 ·have inv1:=inv0.turn t1 hd1;refine(a82 (ro:=none) (n:=0-1) (hit.2 l p.1 p.2 xc cs g w J Jx hpre hRc (fun i W ⟨g1,x,_,h2,_⟩=>⟨h2.rng,fun b o hb=>(h2.sld b o hb).2⟩) hJd hJxd hround2 W1 ⟨_,x0,hy,inv1,hr1.nb,hL1⟩)).mono ?_;have hend: ∀{W:World}{r:Loop},W.heap[l]? =some (.loop r)->∀{ds0:List Deferred},y3 B W ds0->y3 B (W.putObj l (.loop {r with state:= .exhausted})) ds0:=by
   intro W r h1 ds0 h2;refine h2.same fun D hD=> ?_;rw[World.putObj_heap_other (fun e=>by subst e;rw[h1] at hD;cases hD)];exact hD
  rintro e W2 ⟨⟨v,rfl⟩,(⟨g1,x,h1,h2,h3,h4⟩ |⟨g1,Bl,e,cd,z,h1,h2,h3,h4,h5,h6,h7⟩)⟩
  ·rw[aQz] at h1;have hyx:y= .inl x:=(aPS h1).symm;have hin:=h2.turn (tW.put (o':= .loop {rec .ready none with state:= .exhausted}) h4 (by show w0.heap.size<=w.heap.size+1;omega) (by show NG<=w.heap.size+1;omega) rfl rfl) (hend h4 h2.defs)
   refine⟨none,W2.putObj l (.loop {rec .ready none with state:= .exhausted}),by have:=run_endLoop (P:=P) h4 (by rw[hrec];simp);rw[hrec] at this⊢;exact this,?_⟩
   refine⟨.normal,g1,_,rfl,hdone x hyx,⟨hin.env,hin.heap,hr.size,h3,?_,aQK hnp (hlen x)⟩,hin.good,hn⟩;have:=hin.defs;rw[<-hds] at this;exact this
  ·have hin:=h4.turn (tW.put (o':= .loop {rec .done (some cd) with state:= .exhausted}) h7 (by show w0.heap.size<=w.heap.size+1;omega) (by show NG<=w.heap.size+1;omega) rfl rfl) (hend h7 h4.defs)
   refine⟨some cd,W2.putObj l (.loop {rec .done (some cd) with state:= .exhausted}),by have:=run_endLoop (P:=P) h7 (by rw[hrec];simp);rw[hrec] at this⊢;exact this,?_⟩
   have hdef:=hin.defs;rw[<-hds] at hdef;have hrel:tY B g1 (W2.putObj l (.loop {rec .done (some cd) with state:= .exhausted})) ⟨E0,pN 0 Bl,pV Bl,s.N,s.np⟩ {a with defers:=[{target:= .collected w.heap.size,args:= #[]}]++a.defers}:=⟨hin.env,hin.heap,hr.size,h5,hdef,h6⟩
   cases e with
   |normal=>cases h1
   |ret=>
    obtain rfl:=aPS h1;exact wpIn_ret ⟨.ret,g1,_,rfl,h3,hrel,hin.good,hn⟩
   |exit id=>
    obtain rfl:=aPS h1;exact wpIn_exit ⟨.exit id,g1,_,rfl,h3,hrel,hin.good,hn⟩
section
variable {σ ρ:Type}{encH:σ->List p9}{E0:List (Nat×pB)}{N np np':Nat}{w:σ⊕ρ}{Q:Ex->St->Prop}{st s:St}
theorem YK (k:v7) (h:s.keep k=st):qA st .normal s:=⟨k,h⟩
theorem YL (k:v7) (x:σ) (hw:w= .inl x) (h:s.keep k=⟨[],pN 0 (encH x),pV (encH x),N,np'⟩):qF encH E0 N np np' w Q .normal s:=⟨k,x,hw,h⟩
theorem aIR (k:v7) (B:List p9) (z:ρ) (hw:w= .inr z) (h:s.keep k=⟨[],pN 0 B,pV B,N,np'⟩) (hq:Q .ret ⟨E0,pN 0 B,pV B,N,np⟩):qF encH E0 N np np' w Q .ret s:=⟨k,B,h,⟨z,hw⟩,hq⟩
end
end Go.Proofs.YtbbpilohihldiaaGreatDoor.Vc
namespace Go.Proofs.YtbbpilohihldiaaGreatDoor
open Go.RowKit Go.Shelf Vc
section
attribute [local go_sem] Oper.semAt_some
def AK (d:(Ty.pair .str (.pair (.list .str) (.pair .str .unit))).den):List (Int×List UInt8):=
 (0,d.1)::((List.range d.2.1.length).map fun j:Nat=>((j:Int)+1,d.2.1.getD j []))++[((d.2.1.length:Int)+1,d.2.2.1)]
def I8 (it:Int×List UInt8):List Value:=[.int .i64 it.1,.string ⟨it.2.toArray⟩]
@[go_sem] def SO (it:Int×List UInt8):List pB:=[(.val (.int .i64) it.1,none),(.val .str it.2,none)]
theorem YM (it:Int×List UInt8) (g:Gh) (w:World):uL g w (SO it) (I8 it):=⟨_,_,rfl,⟨vP _ _ _ _,trivial⟩,_,_,rfl,⟨CR _ _ _,trivial⟩,rfl⟩
theorem aIS (d:(Ty.pair .str (.pair (.list .str) (.pair .str .unit))).den):(AK d).length=d.2.1.length+2:=by simp [AK]
theorem aIT (d:(Ty.pair .str (.pair (.list .str) (.pair .str .unit))).den):(AK d)[0]? =some (0,d.1):=by simp [AK]
theorem aIU (d:(Ty.pair .str (.pair (.list .str) (.pair .str .unit))).den) {j:Nat}(h:j<d.2.1.length):(AK d)[j+1]? =some ((j:Int)+1,d.2.1.getD j []):=by
 simp [AK,aP7,h]
theorem aIV (d:(Ty.pair .str (.pair (.list .str) (.pair .str .unit))).den):(AK d)[d.2.1.length+1]? =some ((d.2.1.length:Int)+1,d.2.2.1):=by
 simp [AK]
theorem aIW:YI Tryz.prog 92 (.pair .str (.pair (.list .str) (.pair .str .unit))) (fun d=>d.2.1.length<=4611686018427387904) AK I8:=by
 refine⟨fun _ _=>rfl,?_⟩;intro l b o d cs g W0 J Jx hpre hR hrd hJd hJxd hY W h0;obtain⟨c1,c2,rfl,hh,c3,c4,rfl,hl,c5,c6,rfl,ht,hu⟩:=hR;rw[show c1=[.string ⟨d.1.toArray⟩] from hh] at hrd;rw[show c5=[.string ⟨d.2.2.1.toArray⟩] from ht,show c6=[] from hu] at hrd;obtain⟨a,cap,rfl,hcap,hel⟩:=hl;have r0: ∀i W,J i W->W.cell? ⟨b,o,none⟩=some (.string ⟨d.1.toArray⟩):=fun i W h=>by simpa using(hrd i W h).1 0 _ rfl
 have r1: ∀i W,J i W->W.cell? ⟨b,o+1,none⟩=some (.slice a d.2.1.length cap):=fun i W h=>(hrd i W h).1 1 _ rfl;have r2: ∀i W,J i W->W.cell? ⟨b,o+2,none⟩=some (.string ⟨d.2.2.1.toArray⟩):=fun i W h=>(hrd i W h).1 2 _ rfl;have re: ∀j,j<d.2.1.length->∃b' o',a=some ⟨b',o',none⟩/\∀i W,J i W->W.cell? ⟨b',o'+j,none⟩=some (.string ⟨(d.2.1.getD j []).toArray⟩):=by
  intro j hj;rcases hel with h|⟨b',o',h1,h2⟩
  ·rw[h] at hj;cases hj
  ·refine⟨b',o',h1,fun i W h=> ?_⟩;have hg:d.2.1[j]? =some (d.2.1.getD j []):=by rw[aQe,aPU hj];rfl
   obtain⟨cs,k1,k2,k3,k4⟩:=RJ h2 hg;rw[show cs=[.string ⟨(d.2.1.getD j []).toArray⟩] from k4] at k2;have k5:=k2 0 _ rfl;have k6:=k3 0 (by decide);rw[aRg,show j*Ty.str.cells=j from aRX j] at k5 k6;rw[(hrd i W h).2 _ _ k6];exact k5
 have q0:=aIT d;have qm:=fun j=>aIU d (j:=j);have ql:=aIV d;have qn:=aIS d;generalize hn:d.2.1.length=n at*;refine(callsIn_wide (n:=0)).1 (callsIn_of_wp Tryz.func92 rfl trivial ?_);simp only[Tryz.ntmps92,aQA,aPR,aPZ,Nat.reduceAdd,Nat.reduceSub,Array.replicate_succ,Array.replicate_zero,List.push_toArray,List.append_toArray,List.nil_append,List.cons_append];have c0:=r0 0 W h0;obtain⟨fn,tmps,assign,body,hy,hQ⟩:=hY 0 _ W q0 h0;dsimp only[I8] at hy
 gi_wp2
 refine⟨rfl,hQ.mono ?_⟩;clear hQ hy;rintro e W1 (⟨rfl,hJ1⟩ |⟨rfl,hJx⟩)
 ·have s1:=r1 _ W1 hJ1
  gi_wp2
  gi_loopw [13] (fun i wr=> ∃k:Nat,k<=n/\i= .int .i64 k/\J (k+1) wr) (fun i _=>n- (RowKit.intOf i).toNat)
  case atStart=>exact⟨0,aQI _,rfl,hJ1⟩
  case round=>
   obtain⟨k,hk,rfl,hJs⟩:=hrel;by_cases hlt:k<n
   ·obtain⟨b',o',rfl,hce⟩:=re k hlt;have hc':=hce _ _ hJs;have hq:=qm k hlt;clear re qm ql q0 hce;generalize d.2.1.getD k []=x at hc' hq;obtain⟨fn,tmps,assign,body,hy,hQ⟩:=hY _ _ wr hq hJs;dsimp only[I8] at hy
    gi_wp2
    refine⟨rfl,hQ.mono ?_⟩;clear hQ hy;rintro e W2 (⟨rfl,hJ2⟩ |⟨rfl,hJx⟩)
    ·gi_wp2
     go_roundw
     case rel=>exact⟨k+1,by omega,by simp,hJ2⟩
     case measure=>
      show n- (k+1)<n-k;omega
    ·gi_wp2
     refine bodyPost_ret (results_none rfl _ _ _) rfl ?_;exact⟨⟨_,rfl⟩,.inr hJx⟩
   ·obtain rfl:k=n:=by omega
    have s1:=r1 _ _ hJs;have s2:=r2 _ _ hJs;obtain⟨fn,tmps,assign,body,hy,hQ⟩:=hY _ _ wr ql hJs;dsimp only[I8] at hy
    gi_wp2
    refine⟨rfl,hQ.mono ?_⟩;clear hQ hy;rintro e W2 (⟨rfl,hJ2⟩ |⟨rfl,hJx⟩)
    ·gi_wp2
     go_end0
     exact⟨⟨_,rfl⟩,.inl (by rw[qn];exact hJ2)⟩
    ·gi_wp2
     go_end0
     exact⟨⟨_,rfl⟩,.inr hJx⟩
 ·gi_wp2
  refine bodyPost_ret (results_none rfl _ _ _) rfl ?_;exact⟨⟨_,rfl⟩,.inr hJx⟩
def sH (s:List UInt8) (i:Nat):Nat:=if 0<=Lib.indexByte (s.drop i) 10 then i+(Lib.indexByte (s.drop i) 10).toNat+1 else s.length
def sI (s:List UInt8):Nat->Nat->List (Int×List UInt8)
 |0,_=>[]
 |n+1,i=>if i<s.length then((i:Int),(s.drop i).take (sH s i-i))::sI s n (sH s i) else[]
def uG (s:Ty.str.den):List (Int×List UInt8):=sI s (List.length s) 0
theorem YN: ∀(s:List UInt8) (c:UInt8),Lib.indexByte s c<s.length/\ -1<=Lib.indexByte s c
 |[],_=>by simp [Lib.indexByte]
 |b::l,c=>by
  have:=YN l c;unfold Lib.indexByte;split
  ·simp
  ·split
   ·simp;omega
   ·simp only[aPR];omega
theorem YO {s:List UInt8}{i:Nat}(h:i<s.length):i<sH s i/\sH s i<=s.length:=by
 have:=YN (s.drop i) 10;rw[aP5] at this;unfold sH;split<;>omega
theorem YP (l:List UInt8) (m n:Nat):(⟨l.toArray⟩:ByteArray).extract m n=⟨((l.drop m).take (n-m)).toArray⟩:=by
 apply ByteArray.ext;apply aQY.1;simp
theorem a98:YI Tryz.prog 134 .str (fun s=>List.length s<=4611686018427387904) uG I8:=by
 refine⟨fun _ _=>rfl,?_⟩;intro l b o (d:List UInt8) cs g W0 J Jx hpre hR hrd hJd hJxd hY W h0;rw[show cs=[.string ⟨d.toArray⟩] from hR] at hrd;have r0: ∀i W,J i W->W.cell? ⟨b,o,none⟩=some (.string ⟨d.toArray⟩):=fun i W h=>by simpa using(hrd i W h).1 0 _ rfl
 have hlen:(uG d)=sI d d.length 0:=rfl;refine(callsIn_wide (n:=0)).1 (callsIn_of_wp Tryz.func134 rfl trivial ?_);simp only[Tryz.ntmps134,aQA,aPR,aPZ,Nat.reduceAdd,Nat.reduceSub,Array.replicate_succ,Array.replicate_zero,List.push_toArray,List.append_toArray,List.nil_append,List.cons_append]
 gi_wp2
 gi_loopw [3] (fun p wr=> ∃i k n:Nat,i<=d.length/\p= .int .i64 i/\d.length<=n+i/\(uG d).drop k=sI d n i/\k<=(uG d).length/\J k wr) (fun p _=>d.length- (RowKit.intOf p).toNat)
 case atStart=>exact⟨0,0,d.length,aQI _,rfl,Nat.le_refl _,rfl,aQI _,h0⟩
 case round=>
  obtain⟨i,k,n,hi,rfl,hn,hdrop,hk,hJs⟩:=hrel;have s1:=r0 _ _ hJs;by_cases hlt:i<d.length
  ·obtain⟨n',rfl⟩: ∃n',n=n'+1:=⟨n-1,by omega⟩;have hu:sI d (n'+1) i=((i:Int),(d.drop i).take (sH d i-i))::sI d n' (sH d i):=by rw[sI,if_pos hlt]
   rw[hu] at hdrop;have hq:(uG d)[k]? =some ((i:Int),(d.drop i).take (sH d i-i)):=by
    have:=aQk (·[0]?) hdrop;simpa using this
   have hd2:(uG d).drop (k+1)=sI d n' (sH d i):=by
    have:=aQk (List.drop 1) hdrop;simpa[aQ5,Nat.add_comm] using this
   have hk2:k+1<=(uG d).length:=(aP0.1 hq).1;obtain⟨fn,tmps,assign,body,hy,hQ⟩:=hY _ _ wr hq hJs;dsimp only[I8] at hy;obtain⟨t1,t2⟩:=YO hlt
   gi_wp2
   refine⟨trivial,rfl,(callsIn_wide.2 (Any.strings_IndexByte Tryz.lays137 _ 10 wr)).mono ?_⟩;rintro e w' ⟨rfl,rfl⟩;have hext:((⟨d.toArray⟩:ByteArray).extract i d.length).data.toList=d.drop i:=by
    rw[YP];show (d.drop i).take (d.length-i)=d.drop i;exact List.take_of_length_le (by simp)
   rw[hext,show (10:Int).toNat.toUInt8=10 from rfl];have hib:=YN (d.drop i) 10;rw[aP5] at hib;unfold sH at hy t1 t2 hd2;generalize hkk:Lib.indexByte (d.drop i) 10=kk at hib hy t1 t2 hd2;clear hext hu hdrop;by_cases hkp:0<=kk
   ·rw[if_pos hkp] at hy t1 t2 hd2;obtain⟨m,rfl⟩: ∃m:Nat,kk=m:=⟨kk.toNat,by omega⟩;rw[aQv] at hy t1 t2 hd2;rw[<-YP] at hy;have hz:((i:Int)+m+1).toNat=i+m+1:=by omega
    gi_wp2
    refine⟨rfl,hQ.mono ?_⟩;clear hQ hy;rintro e W2 (⟨rfl,hJ2⟩ |⟨rfl,hJx⟩)
    ·gi_wp2
     go_roundw
     case rel=>exact⟨i+m+1,k+1,n',by omega,by simp,by omega,hd2,hk2,hJ2⟩
     case measure=>
      show d.length- (i+m+1)<d.length-i;omega
    ·gi_wp2
     refine bodyPost_ret (results_none rfl _ _ _) rfl ?_;exact⟨⟨_,rfl⟩,.inr hJx⟩
   ·rw[if_neg hkp] at hy t1 t2 hd2;rw[<-YP] at hy
    gi_wp2
    refine⟨rfl,hQ.mono ?_⟩;clear hQ hy;rintro e W2 (⟨rfl,hJ2⟩ |⟨rfl,hJx⟩)
    ·gi_wp2
     go_roundw
     case rel=>exact⟨d.length,k+1,n',by omega,by simp,by omega,hd2,hk2,hJ2⟩
     case measure=>
      show d.length-d.length<d.length-i;omega
    ·gi_wp2
     refine bodyPost_ret (results_none rfl _ _ _) rfl ?_;exact⟨⟨_,rfl⟩,.inr hJx⟩
  ·obtain rfl:i=d.length:=by omega
   have hkk:k=(uG d).length:=by
    have h1:=aQk List.length hdrop;have h2:sI d n d.length=[]:=by
     cases n with
     |zero=>rfl
     |succ n=>rw[sI,if_neg (aRH _)]
    rw[h2,aP5,aPZ] at h1;omega
   gi_wp2
   go_end0
   exact⟨⟨_,rfl⟩,.inl (hkk▸hJs)⟩
end
end Go.Proofs.YtbbpilohihldiaaGreatDoor
namespace Go.Proofs.YtbbpilohihldiaaGreatDoor
open Go.RowKit Go.Shelf Go.Lib
theorem aIX {w:World}(hc:w.cell? ⟨5,15,none⟩=some (.int .u8 4)):
  Calls Tryz.prog 299 #[.int .u64 16] w fun e w'=>e= .returned (.int .i64 4)/\w'=w:=by
 go_enter Tryz.func299,Tryz.ntmps299
 have k0:bits BinOp.and IntKind.u64 16 (IntKind.u64.wrap (-16))=16:=by decide+kernel
 have k1:IntKind.u64.wrap (16*285870213051353865) /288230376151711744=15:=by decide+kernel
 go_wp2
 go_ret
 exact⟨rfl,rfl⟩
theorem tzU {w:World}(hc:w.cell? ⟨5,15,none⟩=some (.int .u8 4)):
  Calls Tryz.prog 295 #[.int .u64 16] w fun e w'=>e= .returned (.int .i64 4)/\w'=w:=by
 go_enter Tryz.func295,Tryz.ntmps295
 go_wp2_with fail
 refine(aIX hc).mono ?_;rintro e w' ⟨rfl,rfl⟩
 go_wp2
 go_ret
 exact⟨rfl,rfl⟩
theorem aAa {w:World}:
  Calls Tryz.prog 294 #[.int .i64 16] w fun e w'=>e= .returned (.bool true)/\w'=w:=by
 have k0:bits BinOp.and IntKind.i64 16 15=0:=by decide+kernel
 go_enter Tryz.func294,Tryz.ntmps294
 go_wp2
 go_ret
 exact⟨rfl,rfl⟩
theorem aAb {w:World}{a:Addr}{v:Value}(h:w.cell? a=some v):a.block<w.heap.size:=by
 unfold World.cell? at h;split at h
 ·rename_i hb;exact(aP9.1 hb).1
 ·cases h
def I9 (n:Nat):UInt8:=if n<10 then(48+n).toUInt8 else(87+n).toUInt8
theorem aIY (w:World) (d:UInt8):(convert 42 9 (.slice (some ⟨w.heap.size,64,none⟩) 1 1)).run Tryz.prog (w.alloc (.cells (Tryz.zeroCells285.setIfInBounds 64 (.int .u8 (d.toNat:Int))) 285))= .ok (.string ⟨#[d]⟩) (w.alloc (.cells (Tryz.zeroCells285.setIfInBounds 64 (.int .u8 (d.toNat:Int))) 285)):=by
 refine run_convert_bytes_back _ _ _ 5 ⟨w.heap.size,64,none⟩ 1 [d] Tryz.underlying42 Tryz.underlying5 Tryz.underlying9 fun j hj=> ?_;have:j=0:=by simpa using hj
 subst this;simp [Addr.add,aRf]
theorem YQ: ∀u:Fin 16,(⟨#[48,49,50,51,52,53,54,55,56,57,97,98,99,100,101,102,103,104,105,106,107,108,109,110,111,112,113,114,115,116,117,118,119,120,121,122]⟩:ByteArray).data[u.val]? =some (I9 u.val):=by decide+kernel
theorem aIZ {w:World}(hc:w.cell? ⟨5,15,none⟩=some (.int .u8 4)) (u:Nat) (hu:u<16):
  Calls Tryz.prog 285 #[.slice none 0 0,.int .u64 u,.int .i64 16,.bool false,.bool false] w fun e w'=>e= .returned (.tuple #[.slice none 0 0,.string ⟨#[I9 u]⟩])/\Below w.heap.size w w':=by
 have hc2:(w.alloc (.cells Tryz.zeroCells285 285)).cell? ⟨5,15,none⟩=some (.int .u8 4):=by
  rw[aQb (a:=⟨5,15,none⟩) (aQg _ _ _ (aAb hc))];exact hc
 go_enter Tryz.func285,Tryz.ntmps285
 go_wp2_with fail
 refine aAa.mono ?_;rintro e w' ⟨rfl,rfl⟩
 go_wp2_with fail
 refine(tzU hc2).mono ?_;rintro e w' ⟨rfl,rfl⟩
 go_wp2_with fail
 go_rounds 1
 rw[aIY];simp only[Result.andThen];rw[Oper.upon_value]
 go_wp2
 go_ret2
 refine⟨?_,(Below.refl _ _).alloc (Nat.le_refl _) _⟩;have h:=YQ ⟨u,hu⟩;obtain⟨h1,h2⟩:=aP9.1 h;rw[<-h2];rfl
theorem aI0 (w:World) (d e:UInt8):(convert 42 9 (.slice (some ⟨w.heap.size,63,none⟩) 2 2)).run Tryz.prog (w.alloc (.cells ((Tryz.zeroCells285.setIfInBounds 64 (.int .u8 (e.toNat:Int))).setIfInBounds 63 (.int .u8 (d.toNat:Int))) 285))= .ok (.string ⟨#[d,e]⟩) (w.alloc (.cells ((Tryz.zeroCells285.setIfInBounds 64 (.int .u8 (e.toNat:Int))).setIfInBounds 63 (.int .u8 (d.toNat:Int))) 285)):=by
 refine run_convert_bytes_back _ _ _ 5 ⟨w.heap.size,63,none⟩ 2 [d,e] Tryz.underlying42 Tryz.underlying5 Tryz.underlying9 fun j hj=> ?_
 match j,hj with
 |0,_=>simp [Addr.add,aRf]
 |1,_=>simp [Addr.add,aRf]
theorem aI1: ∀u:Fin 256,bits BinOp.and IntKind.u64 (u.val:Int) 15=((u.val%16:Nat):Int):=by decide+kernel
theorem aI2 {w:World}(hc:w.cell? ⟨5,15,none⟩=some (.int .u8 4)) (u:Nat) (hu:16<=u) (hu2:u<256):
  Calls Tryz.prog 285 #[.slice none 0 0,.int .u64 u,.int .i64 16,.bool false,.bool false] w fun e w'=>e= .returned (.tuple #[.slice none 0 0,.string ⟨#[I9 (u/16),I9 (u%16)]⟩])/\Below w.heap.size w w':=by
 have hc2:(w.alloc (.cells Tryz.zeroCells285 285)).cell? ⟨5,15,none⟩=some (.int .u8 4):=by
  rw[aQb (a:=⟨5,15,none⟩) (aQg _ _ _ (aAb hc))];exact hc
 have h15:=aI1 ⟨u,hu2⟩;have hm:u%16<16:=Nat.mod_lt _ (by decide);have hq:u/16<16:=by omega
 have hq2:((u:Int)) /16=((u/16:Nat):Int):=rfl;dsimp only at h15;have H15:=Lib.hid h15;clear h15;obtain⟨m,hmm⟩: ∃m,u%16=m:=⟨_,rfl⟩;obtain⟨q,hqq⟩: ∃q,u/16=q:=⟨_,rfl⟩;rw[hmm] at hm;rw[hqq] at hq hq2;have h15:=H15.out;rw[hmm] at h15;have HM:=Lib.hid hmm;have HQ:=Lib.hid hqq;clear hmm hqq H15
 go_enter Tryz.func285,Tryz.ntmps285
 go_wp2_with fail
 refine aAa.mono ?_;rintro e w' ⟨rfl,rfl⟩
 go_wp2_with fail
 refine(tzU hc2).mono ?_;rintro e w' ⟨rfl,rfl⟩
 go_wp2_with fail
 go_rounds 2
 rw[aI0];simp only[Result.andThen];rw[Oper.upon_value]
 go_wp2
 go_ret2
 refine⟨?_,(Below.refl _ _).alloc (Nat.le_refl _) _⟩;have h:=YQ ⟨m,hm⟩;obtain⟨h1,h2⟩:=aP9.1 h;have k:=YQ ⟨q,hq⟩;obtain⟨k1,k2⟩:=aP9.1 k;rw[HM.out,HQ.out,<-h2,<-k2];rfl
def vS (c _b:Int):List UInt8:=if c<16 then[I9 c.toNat] else[I9 (c.toNat/16),I9 (c.toNat%16)]
theorem fb {w:World}(hc:w.cell? ⟨5,15,none⟩=some (.int .u8 4)) (u:Nat) (hu2:u<256):
  Calls Tryz.prog 285 #[.slice none 0 0,.int .u64 u,.int .i64 16,.bool false,.bool false] w fun e w'=>e= .returned (.tuple #[.slice none 0 0,.string ⟨(vS u 16).toArray⟩])/\Below w.heap.size w w':=by
 unfold vS;by_cases h:(u:Int)<16
 ·rw[if_pos h];exact aIZ hc u (by omega)
 ·rw[if_neg h];exact aI2 hc u (by omega) hu2
theorem aI3 {w:World}(hc:w.cell? ⟨5,15,none⟩=some (.int .u8 4)) (u:Nat) (hu2:u<256):
  Calls Tryz.prog 272 #[.int .i64 u,.int .i64 16] w fun e w'=>e= .returned (.string ⟨(vS u 16).toArray⟩)/\Below w.heap.size w w':=by
 obtain⟨s,hs⟩: ∃s,vS u 16=s:=⟨_,rfl⟩;have hfb:=fb hc u hu2;rw[hs] at hfb⊢;clear hs;have hk:IntKind.u64.wrap (u:Int)=u:=by rw[IntKind.wrap_u64];omega
 have hn: ¬(u:Int)<0:=by omega
 go_enter Tryz.func272,Tryz.ntmps272
 go_wp2_with fail
 refine hfb.mono ?_;rintro e w' ⟨rfl,hb⟩
 go_wp2
 go_ret
 exact⟨rfl,hb⟩
theorem aAc {w:World}(hc:w.cell? ⟨5,15,none⟩=some (.int .u8 4)) (u:Nat) (hu2:u<256):
  Calls Tryz.prog 245 #[.int .i64 u,.int .i64 16] w fun e w'=>e= .returned (.string ⟨(vS u 16).toArray⟩)/\Below w.heap.size w w':=by
 obtain⟨s,hs⟩: ∃s,vS u 16=s:=⟨_,rfl⟩;have hfb:=aI3 hc u hu2;rw[hs] at hfb⊢;clear hs
 go_enter Tryz.func245,Tryz.ntmps245
 go_wp2_with fail
 refine hfb.mono ?_;rintro e w' ⟨rfl,hb⟩
 go_wp2
 go_ret
 exact⟨rfl,hb⟩
#print axioms aAc
end Go.Proofs.YtbbpilohihldiaaGreatDoor
namespace Go.Proofs
open Go.RowKit Go.Lib
def Tryz.lays105_ren:Go.Shelf.Ren:=⟨fun|105=>246|212=>273|99=>136|165=>274|166=>53|170=>275|169=>54|263=>286|264=>287|206=>183|240=>93|241=>288|276=>133|277=>296|n=>n,fun|9=>9|3=>3|4=>4|20=>20|0=>0|46=>219|109=>266|5=>5|72=>84|76=>87|51=>241|146=>270|53=>243|148=>280|70=>82|37=>42|75=>86|127=>125|164=>168|80=>89|n=>n,fun|n=>n⟩
theorem Tryz.lays105:Go.Proofs.Lays.n105 Tryz.prog Tryz.lays105_ren:={
 mixed:=by kernel_rfl
 f99:=Tryz.func136.trans (aQk some (by kernel_rfl))
 f105:=Tryz.func246.trans (aQk some (by kernel_rfl))
 f165:=Tryz.func274.trans (aQk some (by kernel_rfl))
 f166:=Tryz.func53.trans (aQk some (by kernel_rfl))
 f169:=Tryz.func54.trans (aQk some (by kernel_rfl))
 f170:=Tryz.func275.trans (aQk some (by kernel_rfl))
 f206:=Tryz.func183.trans (aQk some (by kernel_rfl))
 f212:=Tryz.func273.trans (aQk some (by kernel_rfl))
 f240:=Tryz.func93.trans (aQk some (by kernel_rfl))
 f241:=Tryz.func288.trans (aQk some (by kernel_rfl))
 f263:=Tryz.func286.trans (aQk some (by kernel_rfl))
 f264:=Tryz.func287.trans (aQk some (by kernel_rfl))
 f276:=Tryz.func133.trans (aQk some (by kernel_rfl))
 f277:=Tryz.func296.trans (aQk some (by kernel_rfl))
 t0:=Tryz.underlying0
 a0:=Tryz.isAgg0
 z0:=Tryz.sizeOf0
 v0:=Tryz.zeroValue0
 t3:=Tryz.underlying3
 a3:=Tryz.isAgg3
 z3:=Tryz.sizeOf3
 v3:=Tryz.zeroValue3
 t4:=Tryz.underlying4
 a4:=Tryz.isAgg4
 z4:=Tryz.sizeOf4
 v4:=Tryz.zeroValue4
 t5:=Tryz.underlying5
 a5:=Tryz.isAgg5
 z5:=Tryz.sizeOf5
 v5:=Tryz.zeroValue5
 t9:=Tryz.underlying9
 a9:=Tryz.isAgg9
 z9:=Tryz.sizeOf9
 v9:=Tryz.zeroValue9
 t20:=Tryz.underlying20
 a20:=Tryz.isAgg20
 z20:=Tryz.sizeOf20
 v20:=Tryz.zeroValue20
 t37:=Tryz.underlying42
 a37:=Tryz.isAgg42
 z37:=Tryz.sizeOf42
 v37:=Tryz.zeroValue42
 t46:=Tryz.underlying219
 a46:=Tryz.isAgg219
 z46:=Tryz.sizeOf219
 v46:=Tryz.zeroValue219
 t51:=Tryz.underlying241
 a51:=Tryz.isAgg241
 z51:=Tryz.sizeOf241
 v51:=Tryz.zeroValue241
 t53:=Tryz.underlying243
 a53:=Tryz.isAgg243
 z53:=Tryz.sizeOf243
 v53:=Tryz.zeroValue243
 t70:=Tryz.underlying82
 a70:=Tryz.isAgg82
 z70:=Tryz.sizeOf82
 v70:=Tryz.zeroValue82
 t72:=Tryz.underlying84
 a72:=Tryz.isAgg84
 z72:=Tryz.sizeOf84
 v72:=Tryz.zeroValue84
 t75:=Tryz.underlying86
 a75:=Tryz.isAgg86
 z75:=Tryz.sizeOf86
 v75:=Tryz.zeroValue86
 t76:=Tryz.underlying87
 a76:=Tryz.isAgg87
 z76:=Tryz.sizeOf87
 v76:=Tryz.zeroValue87
 t109:=Tryz.underlying266
 a109:=Tryz.isAgg266
 z109:=Tryz.sizeOf266
 v109:=Tryz.zeroValue266
 t127:=Tryz.underlying125
 a127:=Tryz.isAgg125
 z127:=Tryz.sizeOf125
 v127:=Tryz.zeroValue125
 t146:=Tryz.underlying270
 a146:=Tryz.isAgg270
 z146:=Tryz.sizeOf270
 v146:=Tryz.zeroValue270
 t148:=Tryz.underlying280
 a148:=Tryz.isAgg280
 z148:=Tryz.sizeOf280
 v148:=Tryz.zeroValue280
 t164:=Tryz.underlying168
 a164:=Tryz.isAgg168
 z164:=Tryz.sizeOf168
 v164:=Tryz.zeroValue168}
theorem Tryz.Builder_Extra_105:Builder.Extra Tryz.prog Tryz.lays105_ren:={
 sizeBuilder:=by kernel_rfl
 liesBuilder:=by kernel_rfl
 t5:=Tryz.underlying5
 a5:=Tryz.isAgg5
 z5:=Tryz.sizeOf5
 v5:=Tryz.zeroValue5
 infoByte:=by kernel_rfl
 cellsByte:=by kernel_rfl
 sizeByte:=by kernel_rfl
 neB5:=by decide}
end Go.Proofs
namespace Go.Proofs.YtbbpilohihldiaaGreatDoor
open Vc Go.RowKit
def YR (n:Int):Prop:=n=16
instance (n:Int):Decidable (YR n):=inferInstanceAs (Decidable (n=16))
@[go_sem] def YS:List pB->List p9->Option pH
 |[(.val (.int .i64) O,none),(.val (.int .i64) Z,none)],[]=>some ⟨[0<=O/\O<256/\YR Z],[(.val .str (vS O Z),none)],[]⟩
 |_,_=>none
theorem aI4:yH Tryz.prog 245 YS:=by
 refine KK (fun _ _=>rfl) fun g w args vals L r hT ha hC hs=> ?_;unfold YS at hC;split at hC
 ·rename_i c d;cases hC;obtain⟨h1,h2,h3⟩:=hs _ aP8;obtain⟨va,_,rfl,ra,vb,_,rfl,rb,hv⟩:=ha;obtain rfl:=v8 ra.1;obtain rfl:=v8 rb.1;cases hv;obtain⟨u,rfl⟩: ∃u:Nat,c=((u:Nat):Int):=⟨Int.toNat c,(Int.toNat_of_nonneg h1).symm⟩;have h2:(u:Int)<256:=h2;obtain rfl:d=(16:Int):=h3;have hcell:w.cell? ⟨5,15,none⟩=some (.int .u8 4):=(hT.2.2.2 _ aP8).2;exact⟨rfl,rfl,(aAc hcell u (by omega)).mono fun e w' ⟨he,hb⟩=>⟨_,he,hb,CR _ _ _,trivial⟩⟩
 ·cases hC
def IA (s:List UInt8) (c:Int):List UInt8:=Lib.repeatL s c.toNat
@[go_sem] def YT:List pB->List p9->Option pH
 |[(.val .str O,none),(.val (.int .i64) Z,none)],[]=>some ⟨[0<=Z/\Z<=140737488355328/\(List.length O:Int)*Z<=140737488355328],[(.val .str (IA O Z),none)],[]⟩
 |_,_=>none
theorem aI5:yH Tryz.prog 246 YT:=by
 refine KK (fun _ _=>rfl) fun g w args vals L r hT ha hC hs=> ?_;unfold YT at hC;split at hC
 ·rename_i s c;cases hC;obtain⟨h1,h2,h3⟩:=hs _ aP8;obtain⟨va,_,rfl,ra,vb,_,rfl,rb,hv⟩:=ha;obtain rfl:=xF ra.1;obtain rfl:=v8 rb.1;cases hv;obtain⟨u,rfl⟩: ∃u:Nat,c=((u:Nat):Int):=⟨Int.toNat c,(Int.toNat_of_nonneg h1).symm⟩;have h2:(u:Int)<=140737488355328:=h2;have h3:((List.length s:Nat):Int)*(u:Int)<=140737488355328:=h3;have h4:List.length s*u<=140737488355328:=by rw[<-Int.natCast_mul] at h3;exact Int.ofNat_le.1 h3
  have h:=Any.strings_Repeat Tryz.lays105 Tryz.Builder_Extra_105 ⟨List.toArray s⟩ u w (by omega) (by show (List.toArray s).size*u<=_;rw[aQA];exact h4);exact⟨rfl,rfl,h.mono fun e w' ⟨he,hb⟩=>⟨_,he,hb,CR _ _ _,trivial⟩⟩
 ·cases hC
def SP (_c:Int):List UInt8:=[]
@[go_sem] def YU:List pB->List p9->Option pH
 |[(.val (.int .u8) O,none)],[]=>some ⟨[False],[(.val .str (SP O),none)],[]⟩
 |_,_=>none
theorem aI6:yH Tryz.prog 165 YU:=by
 refine KK (fun _ _=>rfl) fun g w args vals L r hT ha hC hs=> ?_;unfold YU at hC;split at hC
 ·cases hC;exact(hs _ aP8).elim
 ·cases hC
end Go.Proofs.YtbbpilohihldiaaGreatDoor
namespace Go.Proofs.YtbbpilohihldiaaGreatDoor
open Vc
noncomputable section
@[go_sem] abbrev rI:Ty:=(.pair .str (.pair .str (.pair .str (.pair (.list .str) (.pair (.list .str) (.pair (.int .i64) (.pair (.list (.pair .str (.pair .str .unit))) .unit)))))))
@[go_sem] abbrev wA:Ty:=(.pair .str (.pair (.list .str) (.pair (.list (.pair .str (.pair .str .unit))) (.pair (.list rI) .unit))))
@[go_sem] abbrev EA:Ty:=(.pair .str (.pair (.list .str) (.pair .str .unit)))
@[go_sem] abbrev sP:Ty:=(.pair .mref (.pair (.list (.int .u8)) .unit))
@[go_sem] abbrev yT8:Ty:=(.pair .str (.pair .str (.pair .str (.pair (.list .str) (.pair (.rl 9 .str) (.pair (.int .i64) (.pair (.list (.pair .str (.pair .str .unit))) .unit)))))))
@[go_sem] abbrev wM:Ty:=(.pair (.list .str) (.pair .mp (.pair .mp (.pair .mp (.pair yT8 (.pair (.int .i64) .unit))))))
@[go_sem] abbrev CV:Ty:=(.pair (.int .i64) (.pair .str (.pair .str .unit)))
@[go_sem] abbrev yM:Ty:=(.pair wA (.pair .ref (.pair .bool (.pair .mp (.pair (.list (.int .i64)) .unit)))))
abbrev pP:Type:=((List UInt8)×((List UInt8)×Unit))
abbrev qS:Type:=((List UInt8)×((List UInt8)×((List UInt8)×((List (List UInt8))×((List (List UInt8))×(Int×((List pP)×Unit)))))))
abbrev G4:Type:=((List UInt8)×((List (List UInt8))×((List UInt8)×Unit)))
abbrev rZ:Type:=((List UInt8)×((List (List UInt8))×((List pP)×((List qS)×Unit))))
abbrev IB:Type:=(qS×(Bool×(Bool×(Int×Unit))))
abbrev KM:Type:=(Int×((List UInt8)×((List UInt8)×(Bool×Unit))))
abbrev EB:Type:=(Int×((List UInt8)×((List UInt8)×Unit)))
@[go_sem] abbrev rN:Nat×TI:=(9,⟨.str,0,0,false,[]⟩)
theorem rP:sM Tryz.prog rN.1 rN.2:=⟨by kernel_rfl,(show Tryz.prog.underlying _=_ from by kernel_rfl)⟩
@[go_sem] abbrev vJ:Nat×TI:=(23,⟨(.list .str),9,16,false,[]⟩)
theorem vT:sM Tryz.prog vJ.1 vJ.2:=⟨by kernel_rfl,(show _/\_/\_ from⟨by kernel_rfl,by kernel_rfl,by kernel_rfl⟩)⟩
@[go_sem] abbrev KN:Nat×TI:=(34,⟨EA,0,0,false,[(1,9,1)]⟩)
theorem SQ:sM Tryz.prog KN.1 KN.2:=⟨by kernel_rfl,(show ((_/\∃_,_/\_)\/_)/\_ from⟨.inl ⟨rfl,_,Tryz.underlying34,(show _/\_/\_/\_ from⟨rfl,by kernel_rfl,by kernel_rfl,(show _/\_/\_/\_ from⟨rfl,by kernel_rfl,by kernel_rfl,(show _/\_/\_/\_ from⟨rfl,by kernel_rfl,by kernel_rfl,trivial⟩)⟩)⟩)⟩,(fun h=>absurd h (by decide))⟩)⟩
@[go_sem] abbrev B7:Nat×TI:=(25,⟨(.list rI),55,128,false,[]⟩)
theorem CW:sM Tryz.prog B7.1 B7.2:=⟨by kernel_rfl,(show _/\_/\_ from⟨by kernel_rfl,by kernel_rfl,by kernel_rfl⟩)⟩
@[go_sem] abbrev x9:Nat×TI:=(27,⟨wA,0,0,false,[(1,9,1),(2,149,2),(3,55,7)]⟩)
theorem y5:sM Tryz.prog x9.1 x9.2:=⟨by kernel_rfl,(show ((_/\∃_,_/\_)\/_)/\_ from⟨.inl ⟨rfl,_,Tryz.underlying27,(show _/\_/\_/\_ from⟨rfl,by kernel_rfl,by kernel_rfl,(show _/\_/\_/\_ from⟨rfl,by kernel_rfl,by kernel_rfl,(show _/\_/\_/\_ from⟨rfl,by kernel_rfl,by kernel_rfl,(show _/\_/\_/\_ from⟨rfl,by kernel_rfl,by kernel_rfl,trivial⟩)⟩)⟩)⟩)⟩,(fun h=>absurd h (by decide))⟩)⟩
@[go_sem] abbrev z6:Nat×TI:=(55,⟨rI,0,0,false,[(3,9,1),(4,9,1),(6,149,2)]⟩)
theorem AL:sM Tryz.prog z6.1 z6.2:=⟨by kernel_rfl,(show ((_/\∃_,_/\_)\/_)/\_ from⟨.inl ⟨rfl,_,Tryz.underlying55,(show _/\_/\_/\_ from⟨rfl,by kernel_rfl,by kernel_rfl,(show _/\_/\_/\_ from⟨rfl,by kernel_rfl,by kernel_rfl,(show _/\_/\_/\_ from⟨rfl,by kernel_rfl,by kernel_rfl,(show _/\_/\_/\_ from⟨rfl,by kernel_rfl,by kernel_rfl,(show _/\_/\_/\_ from⟨rfl,by kernel_rfl,by kernel_rfl,(show _/\_/\_/\_ from⟨rfl,by kernel_rfl,by kernel_rfl,(show _/\_/\_/\_ from⟨rfl,by kernel_rfl,by kernel_rfl,trivial⟩)⟩)⟩)⟩)⟩)⟩)⟩)⟩,(fun h=>absurd h (by decide))⟩)⟩
@[go_sem] abbrev CX:Nat×TI:=(42,⟨(.list (.int .u8)),5,1,false,[]⟩)
theorem G5:sM Tryz.prog CX.1 CX.2:=⟨by kernel_rfl,(show _/\_/\_ from⟨by kernel_rfl,by kernel_rfl,by kernel_rfl⟩)⟩
@[go_sem] abbrev EC:Nat×TI:=(84,⟨sP,0,0,false,[(1,5,1)]⟩)
theorem IC:sM Tryz.prog EC.1 EC.2:=⟨by kernel_rfl,(show ((_/\∃_,_/\_)\/_)/\_ from⟨.inl ⟨rfl,_,Tryz.underlying84,(show _/\_/\_/\_ from⟨rfl,by kernel_rfl,by kernel_rfl,(show _/\_/\_/\_ from⟨rfl,by kernel_rfl,by kernel_rfl,trivial⟩)⟩)⟩,(fun h=>absurd h (by decide))⟩)⟩
@[go_sem] abbrev wN:Nat×TI:=(24,⟨(.list (.pair .str (.pair .str .unit))),149,32,false,[]⟩)
theorem xA:sM Tryz.prog wN.1 wN.2:=⟨by kernel_rfl,(show _/\_/\_ from⟨by kernel_rfl,by kernel_rfl,by kernel_rfl⟩)⟩
@[go_sem] abbrev B8:Nat×TI:=(149,⟨(.pair .str (.pair .str .unit)),0,1,false,[]⟩)
theorem CY:sM Tryz.prog B8.1 B8.2:=⟨by kernel_rfl,(show ((_/\∃_,_/\_)\/_)/\_ from⟨.inl ⟨rfl,_,Tryz.underlying149,(show _/\_/\_/\_ from⟨rfl,by kernel_rfl,by kernel_rfl,(show _/\_/\_/\_ from⟨rfl,by kernel_rfl,by kernel_rfl,trivial⟩)⟩)⟩,(fun _=>⟨by kernel_rfl,1,by decide,(.struct rfl Tryz.underlying149 (by kernel_rfl) (.cons (by decide) rfl (by kernel_rfl) (by kernel_rfl) (.str Tryz.underlying9) (.cons (by decide) rfl (by kernel_rfl) (by kernel_rfl) (.str Tryz.underlying9) .nil)))⟩)⟩)⟩
@[go_sem] abbrev wT:Nat×TI:=(3,⟨(.int .i64),0,0,false,[]⟩)
theorem xG:sM Tryz.prog wT.1 wT.2:=⟨by kernel_rfl,(show Tryz.prog.underlying _=_ from by kernel_rfl)⟩
@[go_sem] abbrev C0:Nat×TI:=(4,⟨.bool,0,0,false,[]⟩)
theorem ED:sM Tryz.prog C0.1 C0.2:=⟨by kernel_rfl,(show Tryz.prog.underlying _=_ from by kernel_rfl)⟩
@[go_sem] abbrev G6:Nat×TI:=(66,⟨.mp,9,4,false,[]⟩)
theorem KO:sM Tryz.prog G6.1 G6.2:=⟨by kernel_rfl,(show Tryz.prog.underlying _=_ from by kernel_rfl)⟩
@[go_sem] abbrev NW:Nat×TI:=(133,⟨.mp,3,4,false,[]⟩)
theorem YV:sM Tryz.prog NW.1 NW.2:=⟨by kernel_rfl,(show Tryz.prog.underlying _=_ from by kernel_rfl)⟩
@[go_sem] abbrev G7:Nat×TI:=(135,⟨wM,0,0,false,[(0,9,1),(7,9,1),(10,149,2)]⟩)
theorem KP:sM Tryz.prog G7.1 G7.2:=⟨by kernel_rfl,(show ((_/\∃_,_/\_)\/_)/\_ from⟨.inl ⟨rfl,_,Tryz.underlying135,(show _/\_/\_/\_ from⟨rfl,by kernel_rfl,by kernel_rfl,(show _/\_/\_/\_ from⟨rfl,by kernel_rfl,by kernel_rfl,(show _/\_/\_/\_ from⟨rfl,by kernel_rfl,by kernel_rfl,(show _/\_/\_/\_ from⟨rfl,by kernel_rfl,by kernel_rfl,(show _/\_/\_/\_ from⟨rfl,by kernel_rfl,by kernel_rfl,(show _/\_/\_/\_ from⟨rfl,by kernel_rfl,by kernel_rfl,trivial⟩)⟩)⟩)⟩)⟩)⟩)⟩,(fun h=>absurd h (by decide))⟩)⟩
@[go_sem] abbrev CZ:Nat×TI:=(5,⟨(.int .u8),0,0,false,[]⟩)
theorem G8:sM Tryz.prog CZ.1 CZ.2:=⟨by kernel_rfl,(show Tryz.prog.underlying _=_ from by kernel_rfl)⟩
@[go_sem] abbrev NX:Nat×TI:=(21,⟨(.int .i32),0,0,false,[]⟩)
theorem YW:sM Tryz.prog NX.1 NX.2:=⟨by kernel_rfl,(show Tryz.prog.underlying _=_ from by kernel_rfl)⟩
@[go_sem] abbrev KQ:Nat×TI:=(28,⟨(.int .i64),0,0,false,[]⟩)
theorem SR:sM Tryz.prog KQ.1 KQ.2:=⟨by kernel_rfl,(show Tryz.prog.underlying _=_ from by kernel_rfl)⟩
@[go_sem] abbrev SS:Nat×TI:=(24,⟨(.list (.pair .str (.pair .str .unit))),149,32,true,[]⟩)
theorem aAe:sM Tryz.prog SS.1 SS.2:=⟨by kernel_rfl,(show _/\_/\_ from⟨by kernel_rfl,by kernel_rfl,by kernel_rfl⟩)⟩
@[go_sem] abbrev YX:Nat×TI:=(2,⟨(.int .i64),0,0,false,[]⟩)
theorem aI7:sM Tryz.prog YX.1 YX.2:=⟨by kernel_rfl,(show Tryz.prog.underlying _=_ from by kernel_rfl)⟩
@[go_sem] abbrev ST:Nat×TI:=(241,⟨(.int .u32),0,0,false,[]⟩)
theorem aAf:sM Tryz.prog ST.1 ST.2:=⟨by kernel_rfl,(show Tryz.prog.underlying _=_ from by kernel_rfl)⟩
@[go_sem] abbrev G9:Nat×TI:=(67,⟨(.list (.int .i64)),3,8,false,[]⟩)
theorem KR:sM Tryz.prog G9.1 G9.2:=⟨by kernel_rfl,(show _/\_/\_ from⟨by kernel_rfl,by kernel_rfl,by kernel_rfl⟩)⟩
@[go_sem] abbrev NY:Nat×TI:=(55,⟨yT8,0,0,false,[(3,9,1),(6,149,2)]⟩)
theorem YY:sM Tryz.prog NY.1 NY.2:=⟨by kernel_rfl,(show ((_/\∃_,_/\_)\/_)/\_ from⟨.inl ⟨rfl,_,Tryz.underlying55,(show _/\_/\_/\_ from⟨rfl,by kernel_rfl,by kernel_rfl,(show _/\_/\_/\_ from⟨rfl,by kernel_rfl,by kernel_rfl,(show _/\_/\_/\_ from⟨rfl,by kernel_rfl,by kernel_rfl,(show _/\_/\_/\_ from⟨rfl,by kernel_rfl,by kernel_rfl,(show _/\_/\_/\_ from⟨rfl,by kernel_rfl,by kernel_rfl,(show _/\_/\_/\_ from⟨rfl,by kernel_rfl,by kernel_rfl,(show _/\_/\_/\_ from⟨rfl,by kernel_rfl,by kernel_rfl,trivial⟩)⟩)⟩)⟩)⟩)⟩)⟩)⟩,(fun h=>absurd h (by decide))⟩)⟩
@[go_sem] abbrev EE:Nat×TI:=(129,⟨CV,0,1,false,[]⟩)
theorem ID:sM Tryz.prog EE.1 EE.2:=⟨by kernel_rfl,(show ((_/\∃_,_/\_)\/_)/\_ from⟨.inl ⟨rfl,_,Tryz.underlying129,(show _/\_/\_/\_ from⟨rfl,by kernel_rfl,by kernel_rfl,(show _/\_/\_/\_ from⟨rfl,by kernel_rfl,by kernel_rfl,(show _/\_/\_/\_ from⟨rfl,by kernel_rfl,by kernel_rfl,trivial⟩)⟩)⟩)⟩,(fun _=>⟨by kernel_rfl,1,by decide,(.struct rfl Tryz.underlying129 (by kernel_rfl) (.cons (by decide) rfl (by kernel_rfl) (by kernel_rfl) (.int Tryz.underlying3) (.cons (by decide) rfl (by kernel_rfl) (by kernel_rfl) (.str Tryz.underlying9) (.cons (by decide) rfl (by kernel_rfl) (by kernel_rfl) (.str Tryz.underlying9) .nil))))⟩)⟩)⟩
@[go_sem] abbrev D0:Nat×TI:=(95,⟨yM,0,0,false,[(1,9,1),(2,149,2),(3,55,7),(7,3,1)]⟩)
theorem GA:sM Tryz.prog D0.1 D0.2:=⟨by kernel_rfl,(show ((_/\∃_,_/\_)\/_)/\_ from⟨.inl ⟨rfl,_,Tryz.underlying95,(show _/\_/\_/\_ from⟨rfl,by kernel_rfl,by kernel_rfl,(show _/\_/\_/\_ from⟨rfl,by kernel_rfl,by kernel_rfl,(show _/\_/\_/\_ from⟨rfl,by kernel_rfl,by kernel_rfl,(show _/\_/\_/\_ from⟨rfl,by kernel_rfl,by kernel_rfl,(show _/\_/\_/\_ from⟨rfl,by kernel_rfl,by kernel_rfl,trivial⟩)⟩)⟩)⟩)⟩)⟩,(fun h=>absurd h (by decide))⟩)⟩
@[go_sem] abbrev KS:Nat×TI:=(93,⟨.ref,0,0,false,[]⟩)
theorem SU:sM Tryz.prog KS.1 KS.2:=⟨by kernel_rfl,(show∃_,_ from⟨_,Tryz.underlying93⟩)⟩
@[go_sem] abbrev KT:Nat×TI:=(106,⟨(.pair sP .unit),0,0,false,[(1,5,1)]⟩)
theorem SV:sM Tryz.prog KT.1 KT.2:=⟨by kernel_rfl,(show ((_/\∃_,_/\_)\/_)/\_ from⟨.inl ⟨rfl,_,Tryz.underlying106,(show _/\_/\_/\_ from⟨rfl,by kernel_rfl,by kernel_rfl,trivial⟩)⟩,(fun h=>absurd h (by decide))⟩)⟩
@[go_sem] abbrev KU:Nat×TI:=(90,⟨.ref,0,0,false,[]⟩)
theorem SW:sM Tryz.prog KU.1 KU.2:=⟨by kernel_rfl,(show∃_,_ from⟨_,Tryz.underlying90⟩)⟩
theorem qI:Tryz.prog.follows .mixedOrders=true:=by kernel_rfl
@[go_sem] abbrev NZ:Nat×pX:=(135,⟨[.v,.v],Y9,[],[],none⟩)
theorem SX:qE Tryz.prog NZ:=⟨aIo,fun _ h=>by cases h⟩
@[go_sem] abbrev O0:Nat×pX:=(97,⟨[.v,.v],YA,[],[],none⟩)
theorem aAg:qE Tryz.prog O0:=⟨aIp,fun _ h=>by cases h⟩
@[go_sem] abbrev aAh:Nat×pX:=(243,⟨[.v],YB,[],[],none⟩)
theorem aI8:qE Tryz.prog aAh:=⟨aIq,fun _ h=>by cases h⟩
@[go_sem] abbrev SY:Nat×pX:=(93,⟨[.p sP [1]],YC,[],[],none⟩)
theorem YZ:qE Tryz.prog SY:=⟨aIv,fun _ h=>by cases h⟩
@[go_sem] abbrev IE:Nat×pX:=(54,⟨[.p sP [1]],YE,[],[],none⟩)
theorem KV:qE Tryz.prog IE:=⟨aID,fun _ h=>by cases h⟩
@[go_sem] abbrev aAi:Nat×pX:=(240,⟨[.r,.v,.v],YG,[],[],none⟩)
theorem aI9:qE Tryz.prog aAi:=⟨aIM,fun _ h=>by cases h⟩
@[go_sem] abbrev aAj:Nat×pX:=(245,⟨[.v,.v],YS,[],[],none⟩)
theorem aJa:qE Tryz.prog aAj:=⟨aI4,fun _ h=>by cases h⟩
@[go_sem] abbrev aAk:Nat×pX:=(246,⟨[.v,.v],YT,[],[],none⟩)
theorem aJb:qE Tryz.prog aAk:=⟨aI5,fun _ h=>by cases h⟩
@[go_sem] abbrev aAl:Nat×pX:=(165,⟨[.v],YU,[],[],none⟩)
theorem aJc:qE Tryz.prog aAl:=⟨aI6,fun _ h=>by cases h⟩
@[go_sem] abbrev Z0:Nat×pX:=(147,⟨[.v],noC,[],[],some a9V⟩)
theorem aJd:qE Tryz.prog Z0:=aIs
end
theorem z7 {σ ρ:Type}(f:σ->Option (σ⊕ρ)) (x:σ):pY f x=(f x).bind fun w=>match w with
  | .inl y=>pY f y
  | .inr r=>some r:=by
 cases h:f x with
 |none=>
  cases h2:pY f x with
  |none=>rfl
  |some r=>
   obtain⟨n,hn⟩:=SK h2;cases n with
   |zero=>cases hn
   |succ n=>unfold iter at hn;rw[h] at hn;cases hn
 |some w=>
  cases w with
  |inl y=>exact zT h
  |inr r=>exact tZ h
theorem xB {t:Ty}{l:List t.den}{i:Nat}(h:i<l.length):pQ t l (i:Int)=l[i]:=by
 unfold pQ;rw[aQv,aQe,aPU h];rfl
theorem yN {l:List UInt8}{i:Nat}(h:i<l.length):pZ l (i:Int)=(l[i].toNat:Int):=by
 unfold pZ;rw[aQv,aQe,aPU h];rfl
def uP {β:Type}(f:Nat->β) (b:β):Option Nat->β
 |some k=>f k
 |none=>b
theorem Z1 {α ρ:Type}{f:Int->Option (Int⊕(Unit⊕ρ))}{l:List α}(p:α->Bool) (g:Nat->ρ)
  (hf: ∀(i:Nat) (h:i<l.length),f i=if p l[i]=true then some (.inr (.inr (g i))) else some (.inl (i+1)))
  (he:f l.length=some (.inr (.inl ()))): ∀(n j:Nat),j+n=l.length->pY f j=some (uP (fun k=> .inr (g (j+k))) (.inl ()) ((l.drop j).findIdx? p))
 |0,j,hj=>by
  have:j=l.length:=by omega
  subst this;rw[aQz,z7,he];rfl
 |n+1,j,hj=>by
  have hlt:j<l.length:=by omega
  rw[z7,hf j hlt,aQa hlt,aQ2];by_cases hp:p l[j]=true
  ·rw[if_pos hp,if_pos hp];rfl
  ·rw[if_neg hp,if_neg hp];show pY f ((j:Int)+1)=_;have:=Z1 p g hf he n (j+1) (by omega);rw[show ((j:Int)+1)=((j+1:Nat):Int) by omega,this];cases(l.drop (j+1)).findIdx? p with
   |none=>rfl
   |some k=>
    show some (Sum.inr (g (j+1+k)))=some (Sum.inr (g (j+(k+1))));rw[show j+1+k=j+(k+1) by omega]
theorem zV {α ρ:Type}{f:Int->Option (Int⊕(Unit⊕ρ))}{l:List α}(p:α->Bool) (g:Nat->ρ)
  (hf: ∀(i:Nat) (h:i<l.length),f i=if p l[i]=true then some (.inr (.inr (g i))) else some (.inl (i+1)))
  (he:f l.length=some (.inr (.inl ()))):pY f 0=some (uP (fun k=> .inr (g k)) (.inl ()) (l.findIdx? p)):=by
 have:=Z1 p g hf he l.length 0 (by omega);simpa using this
theorem aAm {s:List UInt8}{i:Nat}(h:i<s.length) (ha:s[i].toNat<128):w6 s i=(s[i].toNat:Int)/\yW s i=i+1:=by
 have h1:=Lib.decodeL_drop ⟨s.toArray⟩ i;have h2:(⟨s.toArray⟩:ByteArray).data.toList.drop i=s[i]::s.drop (i+1):=by
  show s.drop i=_;rw[aQa h]
 rw[h2,Lib.decodeL_ascii _ _ ha] at h1;unfold w6 yW W4;rw[<-h1,if_pos h];exact⟨rfl,rfl⟩
theorem aJe {n b0 b1 b2 b3:Nat}(h:128<=b0):128<=(Lib.decodeN n b0 b1 b2 b3).1:=by
 unfold Lib.decodeN
 repeat' split
 all_goals first|omega|(dsimp only;omega)
theorem aAn {s:List UInt8}{i:Nat}(h:i<s.length) (ha:128<=s[i].toNat):128<=w6 s i:=by
 unfold w6;rw[Lib.decode_at];have:(⟨s.toArray⟩:ByteArray).get! i=s[i]:=by
  show s.toArray[i]! =_;simp [h]
 rw[this];exact Int.ofNat_le.2 (aJe ha)
theorem aAo {ρ:Type}{f:Nat->Option (Nat⊕(Unit⊕ρ))}{s:List UInt8}(p:Int->Bool) (g:Nat->ρ) (hb: ∀c,128<=c->p c=true)
  (hf: ∀(i:Nat) (h:i<s.length),f i=if p (w6 s i)=true then some (.inr (.inr (g i))) else some (.inl (yW s i)))
  (he:f s.length=some (.inr (.inl ()))): ∀(n j:Nat),j+n=s.length->pY f j=some (uP (fun k=> .inr (g (j+k))) (.inl ()) ((s.drop j).findIdx? (fun b=>p b.toNat)))
 |0,j,hj=>by
  have:j=s.length:=by omega
  subst this;rw[aQz,z7,he];rfl
 |n+1,j,hj=>by
  have hlt:j<s.length:=by omega
  rw[z7,hf j hlt,aQa hlt,aQ2];by_cases ha:s[j].toNat<128
  ·obtain⟨e1,e2⟩:=aAm hlt ha;rw[e1,e2];by_cases hp:p (s[j].toNat:Int)=true
   ·rw[if_pos hp,if_pos hp];rfl
   ·rw[if_neg hp,if_neg hp];show pY f (j+1)=_;rw[aAo p g hb hf he n (j+1) (by omega)];cases(s.drop (j+1)).findIdx? (fun b=>p b.toNat) with
    |none=>rfl
    |some k=>
     show some (Sum.inr (g (j+1+k)))=some (Sum.inr (g (j+(k+1))));rw[show j+1+k=j+(k+1) by omega]
  ·rw[if_pos (hb _ (aAn hlt (by omega))),if_pos (hb _ (by omega))];rfl
theorem aJf {ρ:Type}{f:Nat->Option (Nat⊕(Unit⊕ρ))}{s:List UInt8}(p:Int->Bool) (g:Nat->ρ) (hb: ∀c,128<=c->p c=true)
  (hf: ∀(i:Nat) (h:i<s.length),f i=if p (w6 s i)=true then some (.inr (.inr (g i))) else some (.inl (yW s i)))
  (he:f s.length=some (.inr (.inl ()))):pY f 0=some (uP (fun k=> .inr (g k)) (.inl ()) (s.findIdx? (fun b=>p b.toNat))):=by
 have:=aAo p g hb hf he s.length 0 (by omega);simpa using this
def pK {α:Type}(l:List α):Prop:=l.length<=4000000000
noncomputable section
def O1 (O:rZ) (Z:(List UInt8)):Int→Option (Int⊕(Unit⊕(Int×Bool))):=fun aA=>if (decide (aA<(O.2.2.2.1.length:Int)))=true then if 0≤aA∧aA<(O.2.2.2.1.length:Int) then if (decide ((pQ rI O.2.2.2.1 aA).1=Z))=true then some (.inr (.inr ((aA,true)))) else if pA (aA+(1:Int)) then some (.inl (aA+(1:Int))) else none else none else some (.inr (.inl ()))
def EF (O:rZ) (Z:(List UInt8)):Option (Int×Bool):=s3 (pY (O1 O Z) (0:Int)) fun _=>some (((0:Int),false))
section
variable (O:rZ) (Z:(List UInt8))
abbrev Z2:List pB:=[(.val wA O,none),(.val .str Z,none)]
abbrev Z3:List p9:=[]
@[go_sem] def Z4:pH:=⟨[((EF O Z)).isSome=true],[(.val (.int .i64) ((val (EF O Z)).1),none),(.val .bool ((val (EF O Z)).2),none)],[]⟩
def aAp:List pB→List p9→Option pH:=qO (V:=(rZ×(List UInt8))) (fun x=>Z2 x.1 x.2) (fun x=>Z3) fun x=>Z4 x.1 x.2
@[go_sem] theorem aOd:aAp (no_index (Z2 O Z)) (no_index Z3)=some (Z4 O Z):=qQ (fun⟨a0,a1⟩ ⟨b0,b1⟩ h1 h2=>by cases h1;cases h2;rfl) (O,Z)
end
@[go_sem] abbrev aAq:Nat×pX:=(37,⟨[.v,.v],aAp,[],[],none⟩)
theorem GB:qG Tryz.prog [rN,B7,x9,z6] (qD []):=⟨⟨rP,⟨CW,⟨y5,⟨AL,trivial⟩⟩⟩⟩,qP,qI⟩
theorem aJg:qE Tryz.prog aAq:=by
 refine qR GB Tryz.func37 (c:=_) rfl (N:=23) (by kernel_rfl) (ts:=[(4,none),(5,none)]) rfl (fun _ _=>rfl) ?_;intro⟨O,Z⟩ hs hrow;dsimp only[Z2,Z3,Z4,qJ,pN,pV,qC,qM,Nat.reduceAdd] at hs hrow⊢;have hz:=hs;obtain⟨z0,hC0⟩:=aPO.1 hz
 try rw[qZ hC0]
 clear hz hs;unfold EF at hC0;refine p8 GB ?_;refine pL ?_;refine p8 GB ?_;refine qT ?_;obtain⟨y1,hy1,hC0⟩:=u6 hC0;refine tI 0 (fun s=> ∃v,y1= .inl v∧s=(fun _=>⟨[],[],0,23,0⟩) v) ?_ ?_
 ·refine tH hy1 (fun x=>⟨[(1,(.val .str Z,none)),(2,(.val .ref (some (0,0)),none)),(6,(.val (.int .i64) x,none))],[(0,.cells wA O [])],1,23,0⟩) ⟨[1,2,6],[(0,0)]⟩ (by rfl) ?_;intro aA w1 n1 hC1 hN1;unfold O1 at hC1;dsimp only at hC1⊢;refine pL ?_;refine p8 GB ?_;refine pJ hC1 (fun hC1 hc1=> ?_) (fun hC1 hc1=> ?_)
  ·refine pU (pI (pL (qT ?_)));obtain⟨hg1,hC1⟩:=pF hC1;refine p8 GB ?_ (hp:=by exact hg1);refine pJ hC1 (fun hC1 hc2=> ?_) (fun hC1 hc2=> ?_)
   ·refine p8 GB ?_;refine pG (q9 (pT (uX (uW (q9 (pT ?_))))));cases hC1;cases hN1;dsimp only at hC0;cases hC0;exact⟨[],by rfl,by rfl,by rfl⟩
   ·refine pU (qW (pI ?_));obtain⟨hg2,hC1⟩:=pF hC1;refine qY GB ?_ (hp:=by exact hg2);cases hC1;exact sG ⟨⟨[1,2,6],[(0,0)]⟩,_,by rfl,hN1⟩
  ·refine tG (tD (tK ?_));cases hC1;cases hN1;exact tJ ⟨⟨[],[]⟩,_,rfl,by rfl⟩
 ·rintro _ ⟨v,rfl,rfl⟩;dsimp only at hC0⊢;refine tE (pI ?_);refine p8 GB ?_;refine pG ?_;cases hC0;exact⟨[],by rfl,by rfl,by rfl⟩
attribute [irreducible] EF
def aAr (O:G4):Unit:=()
section
variable (O:G4)
abbrev Z5:List pB:=[(.val EA O,none)]
abbrev Z6:List p9:=[]
@[go_sem] def Z7:pH:=⟨[],[(.val .clo (some (92,[(0,0)])),none)],[.cells EA O []]⟩
def aAs:List pB→List p9→Option pH:=qO (V:=G4) (fun x=>Z5 x) (fun x=>Z6) fun x=>Z7 x
@[go_sem] theorem aOe:aAs (no_index (Z5 O)) (no_index Z6)=some (Z7 O):=qQ (fun a0 b0 h1 h2=>by cases h1;cases h2;rfl) O
end
@[go_sem] abbrev aAt:Nat×pX:=(50,⟨[.v],aAs,[],[],none⟩)
theorem Z8:qG Tryz.prog [KN] (qD []):=⟨⟨SQ,trivial⟩,qP,qI⟩
theorem aJh:qE Tryz.prog aAt:=by
 refine qR Z8 Tryz.func50 (c:=_) rfl (N:=4) (by kernel_rfl) (ts:=[(2,none)]) rfl (fun _ _=>rfl) ?_;intro O hs hrow;dsimp only[Z5,Z6,Z7,qJ,pN,pV,qC,qM,Nat.reduceAdd] at hs hrow⊢;obtain⟨z0,hC0⟩: ∃z,(aAr O)=z:=⟨_,rfl⟩
 try rw[hC0]
 unfold aAr at hC0;refine p8 Z8 ?_;refine p8 Z8 ?_;refine pG ?_;cases hC0;exact⟨[(0,0)],by rfl,by rfl,by rfl⟩
def xH (O:((List Int)×Unit)) (Z:(List UInt8)):Option Unit:=if List.length O.1+Z.length≤140737488355328 then some (()) else none
section
variable (O:(List UInt8)) (Z:((List Int)×Unit)) (aA:Nat)
abbrev Z9:List pB:=[(.val .ref (some (0,0)),none),(.val .str O,none)]
abbrev ZA:List p9:=[.cells sP ((some (0,0)),Z) [(1,1)],.grow 5 1 aA]
@[go_sem] def ZB:pH:=⟨[aA=(Z.1.length),((xH Z O)).isSome=true],[(.val (.int .i64) (O.length:Int),none),(.any,none)],[.cells sP ((some (0,0)),((Z.1++rK O),())) [(1,1)],.grow 5 1 ((Z.1++rK O).length)]⟩
def aAu:List pB→List p9→Option pH:=qO (V:=((List UInt8)×((List Int)×Unit)×Nat)) (fun x=>Z9 x.1) (fun x=>ZA x.2.1 x.2.2) fun x=>ZB x.1 x.2.1 x.2.2
@[go_sem] theorem aOf:aAu (no_index (Z9 O)) (no_index (ZA Z aA))=some (ZB O Z aA):=qQ (fun⟨a0,a1,a2⟩ ⟨b0,b1,b2⟩ h1 h2=>by cases h1;cases h2;rfl) (O,Z,aA)
end
@[go_sem] abbrev GC:Nat×pX:=(53,⟨[.p sP [1],.v],aAu,[],[],none⟩)
theorem O2:qG Tryz.prog [rN,CX,EC] (qD [SY]):=⟨⟨rP,⟨G5,⟨IC,trivial⟩⟩⟩,pO YZ qP,qI⟩
theorem IF:qE Tryz.prog GC:=by
 refine qR O2 Tryz.func53 (c:=_) rfl (N:=19) (by kernel_rfl) (ts:=[(4,none),(5,none)]) rfl (fun _ _=>rfl) ?_;intro⟨O,Z,aA⟩ hs hrow;dsimp only[Z9,ZA,ZB,qJ,pN,pV,qC,qM,Nat.reduceAdd] at hs hrow⊢;obtain⟨rfl,hz⟩:=hs;obtain⟨z0,hC0⟩:=aPO.1 hz
 try rw[qZ hC0]
 clear hz;unfold xH at hC0;refine p8 O2 ?_;refine p8 O2 ?_ (hp:=by first|rfl|trivial)
 obtain⟨hg1,hC0⟩:=pF hC0;refine p8 O2 ?_ (hp:=by exact⟨by first|rfl|trivial,hg1⟩)
 refine p8 O2 ?_;refine pG ?_;cases hC0;exact⟨[(0,0),(1,1)],by rfl,by rfl,by rfl⟩
attribute [irreducible] xH
def GD (O:(List (List UInt8))):(Int×Int)→Option ((Int×Int)⊕Int):=fun(Z,aA)=>if ((decide (aA<(O.length:Int)))&&(decide (Z<(1099511627776:Int))))=true then if 0≤aA∧aA<(O.length:Int) then if pA (Z+((pQ .str O aA).length:Int)) then if pA (aA+(1:Int)) then some (.inl ((Z+((pQ .str O aA).length:Int)),(aA+(1:Int)))) else none else none else none else some (.inr Z)
def GE (O:(List pP)):(Int×Int)→Option ((Int×Int)⊕Int):=fun(Z,aA)=>if ((decide (aA<(O.length:Int)))&&(decide (Z<(1099511627776:Int))))=true then if 0≤aA∧aA<(O.length:Int) then if pA (Z+(((pQ (.pair .str (.pair .str .unit)) O aA).1).length:Int)) then if 0≤aA∧aA<(O.length:Int) then if pA ((Z+(((pQ (.pair .str (.pair .str .unit)) O aA).1).length:Int))+(((pQ (.pair .str (.pair .str .unit)) O aA).2.1).length:Int)) then if pA (aA+(1:Int)) then some (.inl (((Z+(((pQ (.pair .str (.pair .str .unit)) O aA).1).length:Int))+(((pQ (.pair .str (.pair .str .unit)) O aA).2.1).length:Int)),(aA+(1:Int)))) else none else none else none else none else none else some (.inr Z)
def xI (O:(List (List UInt8))) (Z:(List pP)):Option Int:=if pA ((O.length:Int)+(Z.length:Int)) then rC (pY (GD O) (((O.length:Int)+(Z.length:Int)),(0:Int))) fun aA=>rC (pY (GE Z) (aA,(0:Int))) fun aB=>some (aB) else none
section
variable (O:(List (List UInt8))) (Z:(List pP))
abbrev ZC:List pB:=[(.val (.list .str) O,none),(.val (.list (.pair .str (.pair .str .unit))) Z,none)]
abbrev ZD:List p9:=[]
@[go_sem] def ZE:pH:=⟨[((xI O Z)).isSome=true],[(.val (.int .i64) (val (xI O Z)),none)],[]⟩
def aAv:List pB→List p9→Option pH:=qO (V:=((List (List UInt8))×(List pP))) (fun x=>ZC x.1 x.2) (fun x=>ZD) fun x=>ZE x.1 x.2
@[go_sem] theorem aOg:aAv (no_index (ZC O Z)) (no_index ZD)=some (ZE O Z):=qQ (fun⟨a0,a1⟩ ⟨b0,b1⟩ h1 h2=>by cases h1;cases h2;rfl) (O,Z)
end
@[go_sem] abbrev ZF:Nat×pX:=(57,⟨[.v,.v],aAv,[],[],none⟩)
theorem B9:qG Tryz.prog [rN,vJ,wN,B8] (qD []):=⟨⟨rP,⟨vT,⟨xA,⟨CY,trivial⟩⟩⟩⟩,qP,qI⟩
theorem aAw:qE Tryz.prog ZF:=by
 refine qR B9 Tryz.func57 (c:=_) rfl (N:=56) (by kernel_rfl) (ts:=[(4,none)]) rfl (fun _ _=>rfl) ?_;intro⟨O,Z⟩ hs hrow;dsimp only[ZC,ZD,ZE,qJ,pN,pV,qC,qM,Nat.reduceAdd] at hs hrow⊢;have hz:=hs;obtain⟨z0,hC0⟩:=aPO.1 hz
 try rw[qZ hC0]
 clear hz hs;unfold xI at hC0;refine p8 B9 ?_;obtain⟨hg1,hC0⟩:=pF hC0;refine p8 B9 ?_ (hp:=by exact hg1);refine pL ?_;refine p8 B9 ?_;refine qT ?_;obtain⟨aA,hy1,hC0⟩:=pC hC0;refine tI 0 (fun s=>s=(fun x=>⟨[(1,(.val (.list (.pair .str (.pair .str .unit))) Z,none)),(5,(.val (.int .i64) x,none))],[],0,56,0⟩) aA) ?_ ?_
 ·refine tH hy1 (fun x=>⟨[(0,(.val (.list .str) O,none)),(1,(.val (.list (.pair .str (.pair .str .unit))) Z,none)),(5,(.val (.int .i64) x.1,none)),(6,(.val (.int .i64) x.2,none))],[],0,56,0⟩) ⟨[0,1,5,6],[]⟩ (by rfl) ?_;intro x1 w1 n1 hC1 hN1;obtain⟨aB,aC⟩:=x1;unfold GD at hC1;dsimp only at hC1⊢;refine pL ?_;refine p8 B9 ?_ (hp:=by exact⟨fun hh=>hh,(fun hh=>rH hh)⟩);refine pJ hC1 (fun hC1 hc1=> ?_) (fun hC1 hc1=> ?_)
  ·refine pU (pI (pL (qT ?_)));obtain⟨hg2,hC1⟩:=pF hC1;obtain⟨hg3,hC1⟩:=pF hC1;refine qY B9 ?_ (hp:=by exact⟨hg2,hg3⟩);refine qW (pI ?_);obtain⟨hg4,hC1⟩:=pF hC1;refine qY B9 ?_ (hp:=by exact hg4);cases hC1;exact sG ⟨⟨[0,1,5,6],[]⟩,_,by rfl,hN1⟩
  ·refine tG (tD (tK ?_));cases hC1;cases hN1;exact tJ ⟨⟨[1,5],[]⟩,by rfl⟩
 ·rintro _ rfl;dsimp only at hC0⊢;refine tE (pI (pL ?_));refine p8 B9 ?_;refine qT ?_;obtain⟨aD,hy1,hC0⟩:=pC hC0;refine tI 2 (fun s=>s=(fun x=>⟨[(5,(.val (.int .i64) x,none))],[],0,56,0⟩) aD) ?_ ?_
  ·refine tH hy1 (fun x=>⟨[(1,(.val (.list (.pair .str (.pair .str .unit))) Z,none)),(5,(.val (.int .i64) x.1,none)),(7,(.val (.int .i64) x.2,none))],[],0,56,0⟩) ⟨[1,5,7],[]⟩ (by rfl) ?_;intro x1 w1 n1 hC1 hN1;obtain⟨aE,aF⟩:=x1;unfold GE at hC1;dsimp only at hC1⊢;refine pL ?_;refine p8 B9 ?_ (hp:=by exact⟨fun hh=>hh,(fun hh=>rH hh)⟩);refine pJ hC1 (fun hC1 hc2=> ?_) (fun hC1 hc2=> ?_)
   ·refine pU (pI (pL (qT ?_)));obtain⟨hg5,hC1⟩:=pF hC1;obtain⟨hg6,hC1⟩:=pF hC1;obtain⟨hg7,hC1⟩:=pF hC1;obtain⟨hg8,hC1⟩:=pF hC1;refine BZ B9 ?_ (hp:=by exact⟨hg5,hg6,hg7,hg8⟩);refine qW (pI ?_);obtain⟨hg9,hC1⟩:=pF hC1;refine qY B9 ?_ (hp:=by exact hg9);cases hC1;exact sG ⟨⟨[1,5,7],[]⟩,_,by rfl,hN1⟩
   ·refine tG (tD (tK ?_));cases hC1;cases hN1;exact tJ ⟨⟨[5],[]⟩,by rfl⟩
  ·rintro _ rfl;dsimp only at hC0⊢;refine tE (pI ?_);refine p8 B9 ?_;refine pG ?_;cases hC0;exact⟨[],by rfl,by rfl,by rfl⟩
attribute [irreducible] xI
def SZ (O:(List (List UInt8))) (Z:(List (List UInt8))):Int→Option (Int⊕(Unit⊕Bool)):=fun aA=>if (decide (aA<(O.length:Int)))=true then if 0≤aA∧aA<(O.length:Int) then if 0≤aA∧aA<(Z.length:Int) then if (!decide ((pQ .str O aA)=(pQ .str Z aA)))=true then some (.inr (.inr (false))) else if pA (aA+(1:Int)) then some (.inl (aA+(1:Int))) else none else none else none else some (.inr (.inl ()))
def vK (O:(List (List UInt8))) (Z:(List (List UInt8))):Option Bool:=if (!decide ((O.length:Int)=(Z.length:Int)))=true then some (false) else s3 (pY (SZ O Z) (0:Int)) fun _=>some (true)
section
variable (O:(List (List UInt8))) (Z:(List (List UInt8)))
abbrev ZG:List pB:=[(.val (.list .str) O,none),(.val (.list .str) Z,none)]
abbrev ZH:List p9:=[]
@[go_sem] def ZI:pH:=⟨[((vK O Z)).isSome=true],[(.val .bool (val (vK O Z)),none)],[]⟩
def aAx:List pB→List p9→Option pH:=qO (V:=((List (List UInt8))×(List (List UInt8)))) (fun x=>ZG x.1 x.2) (fun x=>ZH) fun x=>ZI x.1 x.2
@[go_sem] theorem aOh:aAx (no_index (ZG O Z)) (no_index ZH)=some (ZI O Z):=qQ (fun⟨a0,a1⟩ ⟨b0,b1⟩ h1 h2=>by cases h1;cases h2;rfl) (O,Z)
end
@[go_sem] abbrev ZJ:Nat×pX:=(87,⟨[.v,.v],aAx,[],[],none⟩)
theorem D1:qG Tryz.prog [rN,vJ] (qD []):=⟨⟨rP,⟨vT,trivial⟩⟩,qP,qI⟩
theorem aAy:qE Tryz.prog ZJ:=by
 refine qR D1 Tryz.func87 (c:=_) rfl (N:=26) (by kernel_rfl) (ts:=[(4,none)]) rfl (fun _ _=>rfl) ?_;intro⟨O,Z⟩ hs hrow;dsimp only[ZG,ZH,ZI,qJ,pN,pV,qC,qM,Nat.reduceAdd] at hs hrow⊢;have hz:=hs;obtain⟨z0,hC0⟩:=aPO.1 hz
 try rw[qZ hC0]
 clear hz hs;unfold vK at hC0;refine p8 D1 ?_;refine pL ?_;refine p8 D1 ?_;refine pJ hC0 (fun hC0 hc1=> ?_) (fun hC0 hc1=> ?_)
 ·refine p8 D1 ?_;refine pG (pT ?_);cases hC0;exact⟨[],by rfl,by rfl,by rfl⟩
 ·refine pU (pI (pL ?_));refine p8 D1 ?_;refine qT ?_;obtain⟨y1,hy1,hC0⟩:=u6 hC0;refine tI 0 (fun s=> ∃v,y1= .inl v∧s=(fun _=>⟨[],[],0,26,0⟩) v) ?_ ?_
  ·refine tH hy1 (fun x=>⟨[(0,(.val (.list .str) O,none)),(1,(.val (.list .str) Z,none)),(5,(.val (.int .i64) x,none))],[],0,26,0⟩) ⟨[0,1,5],[]⟩ (by rfl) ?_;intro aA w1 n1 hC1 hN1;unfold SZ at hC1;dsimp only at hC1⊢;refine pL ?_;refine p8 D1 ?_;refine pJ hC1 (fun hC1 hc2=> ?_) (fun hC1 hc2=> ?_)
   ·refine pU (pI (pL (qT ?_)));obtain⟨hg1,hC1⟩:=pF hC1;obtain⟨hg2,hC1⟩:=pF hC1;refine uO D1 ?_ (hp:=by exact⟨hg1,hg2⟩);refine pJ hC1 (fun hC1 hc3=> ?_) (fun hC1 hc3=> ?_)
    ·refine p8 D1 ?_;refine pG (q9 (pT (uX (uW (q9 (pT ?_))))));cases hC1;cases hN1;dsimp only at hC0;cases hC0;exact⟨[],by rfl,by rfl,by rfl⟩
    ·refine pU (qW (pI ?_));obtain⟨hg3,hC1⟩:=pF hC1;refine qY D1 ?_ (hp:=by exact hg3);cases hC1;exact sG ⟨⟨[0,1,5],[]⟩,_,by rfl,hN1⟩
   ·refine tG (tD (tK ?_));cases hC1;cases hN1;exact tJ ⟨⟨[],[]⟩,_,rfl,by rfl⟩
  ·rintro _ ⟨v,rfl,rfl⟩;dsimp only at hC0⊢;refine tE (pI ?_);refine p8 D1 ?_;refine pG ?_;cases hC0;exact⟨[],by rfl,by rfl,by rfl⟩
attribute [irreducible] vK
end
noncomputable section
def T0 (O:(List pP)) (Z:(List pP)):Int→Option (Int⊕(Unit⊕Bool)):=fun aA=>if (decide (aA<(O.length:Int)))=true then if 0≤aA∧aA<(O.length:Int) then if 0≤aA∧aA<(Z.length:Int) then if (!((decide ((pQ (.pair .str (.pair .str .unit)) O aA).1=(pQ (.pair .str (.pair .str .unit)) Z aA).1))&&(decide ((pQ (.pair .str (.pair .str .unit)) O aA).2.1=(pQ (.pair .str (.pair .str .unit)) Z aA).2.1))))=true then some (.inr (.inr (false))) else if pA (aA+(1:Int)) then some (.inl (aA+(1:Int))) else none else none else none else some (.inr (.inl ()))
def xJ (O:(List pP)) (Z:(List pP)):Option Bool:=if (!decide ((O.length:Int)=(Z.length:Int)))=true then some (false) else s3 (pY (T0 O Z) (0:Int)) fun _=>some (true)
section
variable (O:(List pP)) (Z:(List pP))
abbrev ZK:List pB:=[(.val (.list (.pair .str (.pair .str .unit))) O,none),(.val (.list (.pair .str (.pair .str .unit))) Z,none)]
abbrev ZL:List p9:=[]
@[go_sem] def ZM:pH:=⟨[((xJ O Z)).isSome=true],[(.val .bool (val (xJ O Z)),none)],[]⟩
def aAz:List pB→List p9→Option pH:=qO (V:=((List pP)×(List pP))) (fun x=>ZK x.1 x.2) (fun x=>ZL) fun x=>ZM x.1 x.2
@[go_sem] theorem aOi:aAz (no_index (ZK O Z)) (no_index ZL)=some (ZM O Z):=qQ (fun⟨a0,a1⟩ ⟨b0,b1⟩ h1 h2=>by cases h1;cases h2;rfl) (O,Z)
end
@[go_sem] abbrev ZN:Nat×pX:=(88,⟨[.v,.v],aAz,[],[],none⟩)
theorem D2:qG Tryz.prog [wN,B8] (qD []):=⟨⟨xA,⟨CY,trivial⟩⟩,qP,qI⟩
theorem aAA:qE Tryz.prog ZN:=by
 refine qR D2 Tryz.func88 (c:=_) rfl (N:=26) (by kernel_rfl) (ts:=[(4,none)]) rfl (fun _ _=>rfl) ?_;intro⟨O,Z⟩ hs hrow;dsimp only[ZK,ZL,ZM,qJ,pN,pV,qC,qM,Nat.reduceAdd] at hs hrow⊢;have hz:=hs;obtain⟨z0,hC0⟩:=aPO.1 hz
 try rw[qZ hC0]
 clear hz hs;unfold xJ at hC0;refine p8 D2 ?_;refine pL ?_;refine p8 D2 ?_;refine pJ hC0 (fun hC0 hc1=> ?_) (fun hC0 hc1=> ?_)
 ·refine p8 D2 ?_;refine pG (pT ?_);cases hC0;exact⟨[],by rfl,by rfl,by rfl⟩
 ·refine pU (pI (pL ?_));refine p8 D2 ?_;refine qT ?_;obtain⟨y1,hy1,hC0⟩:=u6 hC0;refine tI 0 (fun s=> ∃v,y1= .inl v∧s=(fun _=>⟨[],[],0,26,0⟩) v) ?_ ?_
  ·refine tH hy1 (fun x=>⟨[(0,(.val (.list (.pair .str (.pair .str .unit))) O,none)),(1,(.val (.list (.pair .str (.pair .str .unit))) Z,none)),(5,(.val (.int .i64) x,none))],[],0,26,0⟩) ⟨[0,1,5],[]⟩ (by rfl) ?_;intro aA w1 n1 hC1 hN1;unfold T0 at hC1;dsimp only at hC1⊢;refine pL ?_;refine p8 D2 ?_;refine pJ hC1 (fun hC1 hc2=> ?_) (fun hC1 hc2=> ?_)
   ·refine pU (pI (pL (qT ?_)));obtain⟨hg1,hC1⟩:=pF hC1;obtain⟨hg2,hC1⟩:=pF hC1;refine uO D2 ?_ (hp:=by exact⟨hg1,hg2⟩);refine pJ hC1 (fun hC1 hc3=> ?_) (fun hC1 hc3=> ?_)
    ·refine p8 D2 ?_;refine pG (q9 (pT (uX (uW (q9 (pT ?_))))));cases hC1;cases hN1;dsimp only at hC0;cases hC0;exact⟨[],by rfl,by rfl,by rfl⟩
    ·refine pU (qW (pI ?_));obtain⟨hg3,hC1⟩:=pF hC1;refine qY D2 ?_ (hp:=by exact hg3);cases hC1;exact sG ⟨⟨[0,1,5],[]⟩,_,by rfl,hN1⟩
   ·refine tG (tD (tK ?_));cases hC1;cases hN1;exact tJ ⟨⟨[],[]⟩,_,rfl,by rfl⟩
  ·rintro _ ⟨v,rfl,rfl⟩;dsimp only at hC0⊢;refine tE (pI ?_);refine p8 D2 ?_;refine pG ?_;cases hC0;exact⟨[],by rfl,by rfl,by rfl⟩
attribute [irreducible] xJ
def KW (O:qS) (Z:qS):Option Unit:=if ((((((decide (O.1=Z.1))&&(decide (O.2.1=Z.2.1)))&&(decide (O.2.2.1=Z.2.2.1)))&&(decide (O.2.2.2.2.2.1=Z.2.2.2.2.2.1)))==true)=true→((vK O.2.2.2.1 Z.2.2.2.1)).isSome=true) then if (((((((decide (O.1=Z.1))&&(decide (O.2.1=Z.2.1)))&&(decide (O.2.2.1=Z.2.2.1)))&&(decide (O.2.2.2.2.2.1=Z.2.2.2.2.2.1)))&&(val (vK O.2.2.2.1 Z.2.2.2.1)))==true)=true→((vK O.2.2.2.2.1 Z.2.2.2.2.1)).isSome=true) then if ((((((((decide (O.1=Z.1))&&(decide (O.2.1=Z.2.1)))&&(decide (O.2.2.1=Z.2.2.1)))&&(decide (O.2.2.2.2.2.1=Z.2.2.2.2.2.1)))&&(val (vK O.2.2.2.1 Z.2.2.2.1)))&&(val (vK O.2.2.2.2.1 Z.2.2.2.2.1)))==true)=true→((xJ O.2.2.2.2.2.2.1 Z.2.2.2.2.2.2.1)).isSome=true) then some (()) else none else none else none
section
variable (O:qS) (Z:qS)
abbrev ZO:List pB:=[(.val rI O,none),(.val rI Z,none)]
abbrev ZP:List p9:=[]
@[go_sem] def ZQ:pH:=⟨[((KW O Z)).isSome=true],[(.val .bool (((((((decide (O.1=Z.1))&&(decide (O.2.1=Z.2.1)))&&(decide (O.2.2.1=Z.2.2.1)))&&(decide (O.2.2.2.2.2.1=Z.2.2.2.2.2.1)))&&(val (vK O.2.2.2.1 Z.2.2.2.1)))&&(val (vK O.2.2.2.2.1 Z.2.2.2.2.1)))&&(val (xJ O.2.2.2.2.2.2.1 Z.2.2.2.2.2.2.1))),none)],[]⟩
def aAB:List pB→List p9→Option pH:=qO (V:=(qS×qS)) (fun x=>ZO x.1 x.2) (fun x=>ZP) fun x=>ZQ x.1 x.2
@[go_sem] theorem aOj:aAB (no_index (ZO O Z)) (no_index ZP)=some (ZQ O Z):=qQ (fun⟨a0,a1⟩ ⟨b0,b1⟩ h1 h2=>by cases h1;cases h2;rfl) (O,Z)
end
@[go_sem] abbrev aAC:Nat×pX:=(89,⟨[.v,.v],aAB,[],[],none⟩)
theorem ZR:qG Tryz.prog [wT,rN,vJ,wN,z6] (qD [ZJ,ZN]):=⟨⟨xG,⟨rP,⟨vT,⟨xA,⟨AL,trivial⟩⟩⟩⟩⟩,pO aAy (pO aAA qP),qI⟩
theorem aJi:qE Tryz.prog aAC:=by
 refine qR ZR Tryz.func89 (c:=_) rfl (N:=52) (by kernel_rfl) (ts:=[(4,none)]) rfl (fun _ _=>rfl) ?_;intro⟨O,Z⟩ hs hrow;dsimp only[ZO,ZP,ZQ,qJ,pN,pV,qC,qM,Nat.reduceAdd] at hs hrow⊢;have hz:=hs;obtain⟨z0,hC0⟩:=aPO.1 hz
 try rw[qZ hC0]
 clear hz hs;unfold KW at hC0;refine p8 ZR ?_;obtain⟨hg1,hC0⟩:=pF hC0;obtain⟨hg2,hC0⟩:=pF hC0;obtain⟨hg3,hC0⟩:=pF hC0;refine p8 ZR ?_ (hp:=by exact⟨fun hh=>hh,fun hh=>hh,fun hh=>hh,fun hh=>hh,fun hh=>rH hh,fun hh=>hh,fun hh=>hh,fun hh=>hh,fun hh=>hh,fun hh=>rH hh,fun hh=>hh,fun hh=>hh,fun hh=>hh,fun hh=>hh,fun hh=>rH hh,fun hh=>hh,fun hh=>hh,fun hh=>hh,fun hh=>hh,hg1,fun hh=>rH hh,fun hh=>hh,fun hh=>hh,fun hh=>hh,fun hh=>hh,hg2,fun hh=>rH hh,fun hh=>hh,fun hh=>hh,fun hh=>hh,fun hh=>hh,hg3,(fun hh=>rH hh)⟩);refine pG ?_;cases hC0;exact⟨[],by rfl,by rfl,by rfl⟩
attribute [irreducible] KW
def aAD:Unit:=()
section
abbrev ZS:List pB:=[]
abbrev ZT:List p9:=[]
@[go_sem] def ZU:pH:=⟨[],[(.val .ref (some (0,0)),none)],[.cells wM (([]:List (List UInt8)),((some 1),((some 2),((some 3),((([]:List UInt8),(([]:List UInt8),(([]:List UInt8),(([]:List (List UInt8)),((some (4,0)),((0:Int),(([]:List pP),()))))))),((-1:Int),())))))) [(0,5),(7,6),(10,7)],.map (.int .i64) .bool ([]:List (Int×Bool)),.map .str .bool ([]:List ((List UInt8)×Bool)),.map .str .bool ([]:List ((List UInt8)×Bool)),.row 9 .str ([]:List (List UInt8)) 0,.grow 9 1 (([]:List (List UInt8)).length),.grow 9 1 (([]:List (List UInt8)).length),.grow 149 2 (([]:List pP).length)]⟩
def aAE:List pB→List p9→Option pH:=qO (V:=Unit) (fun x=>ZS) (fun x=>ZT) fun x=>ZU
@[go_sem] theorem aOk:aAE (no_index ZS) (no_index ZT)=some ZU:=qQ (fun _ _ h1 h2=>by cases h1;cases h2;rfl) ()
end
@[go_sem] abbrev EG:Nat×pX:=(94,⟨[],aAE,[],[],none⟩)
theorem ZV:qG Tryz.prog [] (qD []):=⟨trivial,qP,qI⟩
theorem aJj:qG Tryz.prog [wT,C0,rN,G6,NW,G7] (qD []):=⟨⟨xG,⟨ED,⟨rP,⟨KO,⟨YV,⟨KP,trivial⟩⟩⟩⟩⟩⟩,ZV.Γ,qI⟩
theorem T1:qE Tryz.prog EG:=by
 refine qR ZV Tryz.func94 (c:=_) rfl (N:=6) (by kernel_rfl) (ts:=[(0,none)]) rfl (fun _ _=>rfl) ?_;intro⟨⟩ hs hrow;dsimp only[ZS,ZT,ZU,qJ,pN,pV,qC,qM,Nat.reduceAdd] at hs hrow⊢;obtain⟨z0,hC0⟩: ∃z,aAD=z:=⟨_,rfl⟩
 try rw[hC0]
 unfold aAD at hC0;refine p8 ZV ?_;refine p8 aJj ?_;refine pG ?_;cases hC0;exact⟨[(0,160),(1,32),(2,64),(3,96),(4,164),(5,161),(6,162),(7,163)],by rfl,by rfl,by rfl⟩
def aAF (O:(List UInt8)):Unit:=()
section
variable (O:(List UInt8))
abbrev ZW:List pB:=[(.val .str O,none)]
abbrev ZX:List p9:=[]
@[go_sem] def ZY:pH:=⟨[],[(.val .clo (some (134,[(0,0)])),none)],[.cells .str O []]⟩
def aAG:List pB→List p9→Option pH:=qO (V:=(List UInt8)) (fun x=>ZW x) (fun x=>ZX) fun x=>ZY x
@[go_sem] theorem aOl:aAG (no_index (ZW O)) (no_index ZX)=some (ZY O):=qQ (fun a0 b0 h1 h2=>by cases h1;cases h2;rfl) O
end
@[go_sem] abbrev O3:Nat×pX:=(95,⟨[.v],aAG,[],[],none⟩)
theorem ZZ:qG Tryz.prog [rN] (qD []):=⟨⟨rP,trivial⟩,qP,qI⟩
theorem aAH:qE Tryz.prog O3:=by
 refine qR ZZ Tryz.func95 (c:=_) rfl (N:=4) (by kernel_rfl) (ts:=[(2,none)]) rfl (fun _ _=>rfl) ?_;intro O hs hrow;dsimp only[ZW,ZX,ZY,qJ,pN,pV,qC,qM,Nat.reduceAdd] at hs hrow⊢;obtain⟨z0,hC0⟩: ∃z,(aAF O)=z:=⟨_,rfl⟩
 try rw[hC0]
 unfold aAF at hC0;refine p8 ZZ ?_;refine p8 ZZ ?_;refine pG ?_;cases hC0;exact⟨[(0,0)],by rfl,by rfl,by rfl⟩
def IG (O:(List UInt8)):((List (List UInt8))×Int×Int)→Option (((List (List UInt8))×Int×Int)⊕((List (List UInt8))×Int)):=fun(Z,aA,aB)=>if (decide (aB<(O.length:Int)))=true then if 0≤aB∧aB<(O.length:Int) then if (decide ((pZ O aB)=(10:Int)))=true then if pA (aB+(1:Int)) then if 0≤aA∧aA≤(aB+(1:Int))∧(aB+(1:Int))≤(O.length:Int) then if (Z.length+([(pR O aA (aB+(1:Int)))]:List (List UInt8)).length)*16≤140737488355328 then if pA (aB+(1:Int)) then if pA (aB+(1:Int)) then some (.inl ((Z++([(pR O aA (aB+(1:Int)))]:List (List UInt8))),(aB+(1:Int)),(aB+(1:Int)))) else none else none else none else none else none else if pA (aB+(1:Int)) then some (.inl (Z,aA,(aB+(1:Int)))) else none else none else some (.inr (Z,aA))
def T2 (O:(List UInt8)):Option (List (List UInt8)):=rC (pY (IG O) (([]:List (List UInt8)),(0:Int),(0:Int))) fun(Z,aA)=>if (decide (aA<(O.length:Int)))=true then if 0≤aA∧aA≤(O.length:Int)∧(O.length:Int)≤(O.length:Int) then if (Z.length+([(pR O aA (O.length:Int))]:List (List UInt8)).length)*16≤140737488355328 then some ((Z++([(pR O aA (O.length:Int))]:List (List UInt8)))) else none else none else some (Z)
attribute [irreducible] T2
def a0a (O:Int):Option Unit:=if 0≤O∧O<(([([110,101,119]:List UInt8),([102,117,122,122,121]:List UInt8),([116,114,97,110,115,108,97,116,101,100]:List UInt8),([114,101,118,105,101,119,101,100]:List UInt8),([111,98,115,111,108,101,116,101]:List UInt8)]:List (List UInt8)).length:Int) then some (()) else none
attribute [irreducible] a0a
end
noncomputable section
def EH (O:rZ) (Z:IB) (aA:KM):Option ((List qS)×Int):=if ((aA.2.2.2.1||(decide (aA.2.1=([]:List UInt8))))||(decide ((200:Int)<(aA.2.1.length:Int))))=true then some ((O.2.2.2.1,(3:Int))) else (EF O aA.2.1).bind fun aB=>if aB.2=true then some ((O.2.2.2.1,(9:Int))) else if (decide ((1000:Int)≤(O.2.2.2.1.length:Int)))=true then some ((O.2.2.2.1,(6:Int))) else if (([]:List qS).length+O.2.2.2.1.length)*128≤140737488355328 then if ((([]:List qS)++O.2.2.2.1).length+([(aA.2.1,(Z.1.2.1,(aA.2.2.1,Z.1.2.2.2)))]:List qS).length)*128≤140737488355328 then some ((((([]:List qS)++O.2.2.2.1)++([(aA.2.1,(Z.1.2.1,(aA.2.2.1,Z.1.2.2.2)))]:List qS)),(0:Int))) else none else none
attribute [irreducible] EH
def O4 (O:(List UInt8)):Nat→Option (Nat⊕(Unit⊕Bool)):=fun Z=>if (decide (Z<O.length))=true then if (decide (Z<O.length))=true then if (((((decide ((w6 O Z)<(97:Int)))||(decide ((122:Int)<(w6 O Z))))&&((decide ((w6 O Z)<(65:Int)))||(decide ((90:Int)<(w6 O Z)))))&&((decide ((w6 O Z)<(48:Int)))||(decide ((57:Int)<(w6 O Z)))))&&(!decide ((w6 O Z)=(45:Int))))=true then some (.inr (.inr (false))) else some (.inl (yW O Z)) else none else some (.inr (.inl ()))
def EI (O:(List UInt8)):Option Bool:=s3 (pY (O4 O) 0) fun _=>some (((decide ((1:Int)≤(O.length:Int)))&&(decide ((O.length:Int)≤(40:Int)))))
section
variable (O:(List UInt8))
abbrev a0b:List pB:=[(.val .str O,none)]
abbrev a0c:List p9:=[]
@[go_sem] def a0d:pH:=⟨[((EI O)).isSome=true],[(.val .bool (val (EI O)),none)],[]⟩
def aAI:List pB→List p9→Option pH:=qO (V:=(List UInt8)) (fun x=>a0b x) (fun x=>a0c) fun x=>a0d x
@[go_sem] theorem aOm:aAI (no_index (a0b O)) (no_index a0c)=some (a0d O):=qQ (fun a0 b0 h1 h2=>by cases h1;cases h2;rfl) O
end
@[go_sem] abbrev a0e:Nat×pX:=(106,⟨[.v],aAI,[],[],none⟩)
theorem GF:qG Tryz.prog [rN] (qD []):=⟨⟨rP,trivial⟩,qP,qI⟩
theorem aAJ:qE Tryz.prog a0e:=by
 refine qR GF Tryz.func106 (c:=_) rfl (N:=44) (by kernel_rfl) (ts:=[(2,none)]) rfl (fun _ _=>rfl) ?_;intro O hs hrow;dsimp only[a0b,a0c,a0d,qJ,pN,pV,qC,qM,Nat.reduceAdd] at hs hrow⊢;have hz:=hs;obtain⟨z0,hC0⟩:=aPO.1 hz
 try rw[qZ hC0]
 clear hz hs;unfold EI at hC0;refine p8 GF ?_;refine pL ?_;refine p8 GF ?_;refine qT ?_;obtain⟨y1,hy1,hC0⟩:=u6 hC0;refine tI 0 (fun s=> ∃v,y1= .inl v∧s=(fun _=>⟨[(0,(.val .str O,none))],[],0,44,0⟩) v) ?_ ?_
 ·refine tH hy1 (fun x=>⟨[(0,(.val .str O,none)),(6,(.val .ref (some (0,0)),none))],[(0,.iter O x)],1,44,0⟩) ⟨[0,6],[(0,64)]⟩ (by rfl) ?_;intro Z w1 n1 hC1 hN1;unfold O4 at hC1;dsimp only at hC1⊢;refine p8 GF ?_;refine pL ?_;refine pJ hC1 (fun hC1 hc1=> ?_) (fun hC1 hc1=> ?_)
  ·refine pU (pI (qT ?_));obtain⟨hg1,hC1⟩:=pF hC1;refine p8 GF ?_ (hp:=by exact hg1);refine p8 GF ?_ (hp:=by exact⟨fun hh=>hh,fun hh=>tP hh,fun hh=>hh,fun hh=>hh,fun hh=>hh,fun hh=>hh,fun hG hh=>E9 hG hh,fun hh=>rH hh,fun hh=>hh,fun hh=>hh,fun hh=>hh,fun hh=>hh,fun hG hh=>E9 hG hh,fun hh=>rH hh,fun hh=>hh,(fun hh=>rH hh)⟩);refine pJ hC1 (fun hC1 hc2=> ?_) (fun hC1 hc2=> ?_)
   ·refine p8 GF ?_;refine pG (q9 (uX (uW (q9 (pT ?_)))));cases hC1;cases hN1;dsimp only at hC0;cases hC0;exact⟨[],by rfl,by rfl,by rfl⟩
   ·refine pU (qW ?_);cases hC1;exact sG ⟨⟨[0,6],[(0,0)]⟩,_,by rfl,hN1⟩
  ·refine tG (tD (tK ?_));cases hC1;cases hN1;exact tJ ⟨⟨[0],[]⟩,_,rfl,by rfl⟩
 ·rintro _ ⟨v,rfl,rfl⟩;dsimp only at hC0⊢;refine tE (pI ?_);refine p8 GF ?_ (hp:=by exact⟨fun hh=>hh,fun hh=>hh,(fun hh=>rH hh)⟩);refine pG ?_;cases hC0;exact⟨[],by rfl,by rfl,by rfl⟩
attribute [irreducible] EI
def aAK (O:Int):Unit:=()
section
variable (O:Int)
abbrev a0f:List pB:=[(.val (.int .i64) O,none)]
abbrev a0g:List p9:=[]
@[go_sem] def a0h:pH:=⟨[],[(.val .bool ((decide ((1:Int)≤O))&&(decide (O≤(4:Int)))),none)],[]⟩
def aAL:List pB→List p9→Option pH:=qO (V:=Int) (fun x=>a0f x) (fun x=>a0g) fun x=>a0h x
@[go_sem] theorem aOn:aAL (no_index (a0f O)) (no_index a0g)=some (a0h O):=qQ (fun a0 b0 h1 h2=>by cases h1;cases h2;rfl) O
end
@[go_sem] abbrev T3:Nat×pX:=(164,⟨[.v],aAL,[],[],none⟩)
theorem a0i:qG Tryz.prog [] (qD []):=⟨trivial,qP,qI⟩
theorem a0j:qE Tryz.prog T3:=by
 refine qR a0i Tryz.func164 (c:=_) rfl (N:=9) (by kernel_rfl) (ts:=[(2,none)]) rfl (fun _ _=>rfl) ?_;intro O hs hrow;dsimp only[a0f,a0g,a0h,qJ,pN,pV,qC,qM,Nat.reduceAdd] at hs hrow⊢;obtain⟨z0,hC0⟩: ∃z,(aAK O)=z:=⟨_,rfl⟩
 try rw[hC0]
 unfold aAK at hC0;refine p8 a0i ?_;refine p8 a0i ?_ (hp:=by exact⟨fun hh=>hh,(fun hh=>rH hh)⟩);refine pG ?_;cases hC0;exact⟨[],by rfl,by rfl,by rfl⟩
end
noncomputable section
def O5 (O:(List UInt8)):Int→Option (Int⊕Int):=fun Z=>if (((decide (Z<(O.length:Int)))==true)=true→0≤Z∧Z<(O.length:Int)) then if ((((decide (Z<(O.length:Int)))==true)&&((decide ((pZ O Z)=(32:Int)))==false))=true→0≤Z∧Z<(O.length:Int)) then if ((decide (Z<(O.length:Int)))&&((decide ((pZ O Z)=(32:Int)))||(decide ((pZ O Z)=(9:Int)))))=true then if pA (Z+(1:Int)) then some (.inl (Z+(1:Int))) else none else some (.inr Z) else none else none
def T4 (O:(List UInt8)):Option (List UInt8):=if (((decide ((0:Int)<(O.length:Int)))==true)=true→pA ((O.length:Int)- (1:Int))) then if (((decide ((0:Int)<(O.length:Int)))==true)=true→0≤((O.length:Int)- (1:Int))∧((O.length:Int)- (1:Int))<(O.length:Int)) then rC (σ:=(List UInt8)) (if ((decide ((0:Int)<(O.length:Int)))&&(decide ((pZ O ((O.length:Int)- (1:Int)))=(10:Int))))=true then if pA ((O.length:Int)- (1:Int)) then if 0≤(0:Int)∧(0:Int)≤((O.length:Int)- (1:Int))∧((O.length:Int)- (1:Int))≤(O.length:Int) then some ((pR O (0:Int) ((O.length:Int)- (1:Int)))) else none else none else some (O) ) fun Z=>rC (pY (O5 Z) (0:Int)) fun aA=>if 0≤aA∧aA≤(Z.length:Int)∧(Z.length:Int)≤(Z.length:Int) then some ((pR Z aA (Z.length:Int))) else none else none else none
attribute [irreducible] T4
def D3 (O:(List UInt8)) (Z:(List UInt8)):Option Unit:=if (((decide ((Z.length:Int)≤(O.length:Int)))==true)=true→0≤(0:Int)∧(0:Int)≤(Z.length:Int)∧(Z.length:Int)≤(O.length:Int)) then some (()) else none
attribute [irreducible] D3
def T5 (O:(List UInt8)):Int→Option (Int⊕(Unit⊕Int)):=fun Z=>if (decide (Z≤(4:Int)))=true then (a0a Z).bind fun aA=>if (decide ((pQ .str ([([110,101,119]:List UInt8),([102,117,122,122,121]:List UInt8),([116,114,97,110,115,108,97,116,101,100]:List UInt8),([114,101,118,105,101,119,101,100]:List UInt8),([111,98,115,111,108,101,116,101]:List UInt8)]:List (List UInt8)) Z)=O))=true then some (.inr (.inr (Z))) else if pA (Z+(1:Int)) then some (.inl (Z+(1:Int))) else none else some (.inr (.inl ()))
def KX (O:(List UInt8)):Option Int:=s3 (pY (T5 O) (0:Int)) fun _=>some ((-1:Int))
attribute [irreducible] KX
def T6 (O:(List (List UInt8))) (Z:(List UInt8)):Int→Option (Int⊕(Unit⊕Bool)):=fun aA=>if (decide (aA<(O.length:Int)))=true then if 0≤aA∧aA<(O.length:Int) then if (decide ((pQ .str O aA)=Z))=true then some (.inr (.inr (true))) else if pA (aA+(1:Int)) then some (.inl (aA+(1:Int))) else none else none else some (.inr (.inl ()))
def T7 (O:(List (List UInt8))) (Z:(List UInt8)):Option Bool:=s3 (pY (T6 O Z) (0:Int)) fun _=>some (false)
attribute [irreducible] T7
def KY (O:(List (List UInt8))) (Z:(List UInt8)):Int→Option (Int⊕Int):=fun aA=>if (((decide (aA<(O.length:Int)))==true)=true→0≤aA∧aA<(O.length:Int)) then if ((decide (aA<(O.length:Int)))&&(Op.bytesLess (pQ .str O aA) Z))=true then if pA (aA+(1:Int)) then some (.inl (aA+(1:Int))) else none else some (.inr aA) else none
def T8 (O:(List (List UInt8))) (Z:(List UInt8)):Option (List (List UInt8)):=rC (pY (KY O Z) (0:Int)) fun aA=>if 0≤(0:Int)∧(0:Int)≤aA∧aA≤(O.length:Int) then if (([]:List (List UInt8)).length+(pR O (0:Int) aA).length)*16≤140737488355328 then if ((([]:List (List UInt8))++(pR O (0:Int) aA)).length+([Z]:List (List UInt8)).length)*16≤140737488355328 then if 0≤aA∧aA≤(O.length:Int)∧(O.length:Int)≤(O.length:Int) then if (((([]:List (List UInt8))++(pR O (0:Int) aA))++([Z]:List (List UInt8))).length+(pR O aA (O.length:Int)).length)*16≤140737488355328 then some ((((([]:List (List UInt8))++(pR O (0:Int) aA))++([Z]:List (List UInt8)))++(pR O aA (O.length:Int)))) else none else none else none else none else none
attribute [irreducible] T8
end
noncomputable section
def T9 (O:(List pP)) (Z:(List UInt8)):Int→Option (Int⊕(Unit⊕((List UInt8)×Bool))):=fun aA=>if (decide (aA<(O.length:Int)))=true then if 0≤aA∧aA<(O.length:Int) then if (decide ((pQ (.pair .str (.pair .str .unit)) O aA).1=Z))=true then if 0≤aA∧aA<(O.length:Int) then some (.inr (.inr (((pQ (.pair .str (.pair .str .unit)) O aA).2.1,true)))) else none else if pA (aA+(1:Int)) then some (.inl (aA+(1:Int))) else none else none else some (.inr (.inl ()))
def TA (O:(List pP)) (Z:(List UInt8)):Option ((List UInt8)×Bool):=s3 (pY (T9 O Z) (0:Int)) fun _=>some ((([]:List UInt8),false))
attribute [irreducible] TA
def TB (O:(List pP)) (Z:(List UInt8)) (aA:(List UInt8)):Int→Option (Int⊕(Unit⊕(List pP))):=fun aB=>if (decide (aB<((((([]:List pP)++O).length):Nat):Int)))=true then if 0≤aB∧aB<((((([]:List pP)++O).length):Nat):Int) then if (decide ((pQ (.pair .str (.pair .str .unit)) (([]:List pP)++O) aB).1=Z))=true then if 0≤aB∧aB<((((([]:List pP)++O).length):Nat):Int) then some (.inr (.inr ((List.set (([]:List pP)++O) (Int.toNat aB) ((pQ (.pair .str (.pair .str .unit)) (([]:List pP)++O) aB).1,(aA,(pQ (.pair .str (.pair .str .unit)) (([]:List pP)++O) aB).2.2)))))) else none else if pA (aB+(1:Int)) then some (.inl (aB+(1:Int))) else none else none else some (.inr (.inl ()))
def KZ (O:(List pP)) (Z:(List UInt8)):Int→Option (Int⊕Int):=fun aA=>if (((decide (aA<(O.length:Int)))==true)=true→0≤aA∧aA<(O.length:Int)) then if ((decide (aA<(O.length:Int)))&&(Op.bytesLess (pQ (.pair .str (.pair .str .unit)) O aA).1 Z||decide ((pQ (.pair .str (.pair .str .unit)) O aA).1=Z)))=true then if pA (aA+(1:Int)) then some (.inl (aA+(1:Int))) else none else some (.inr aA) else none
def TC (O:(List pP)) (Z:(List UInt8)) (aA:(List UInt8)):Option (List pP):=if (0+O.length)*32≤140737488355328 then s3 (pY (TB O Z aA) (0:Int)) fun _=>rC (pY (KZ O Z) (0:Int)) fun aB=>if 0≤(0:Int)∧(0:Int)≤aB∧aB≤(O.length:Int) then if (0+(pR O (0:Int) aB).length)*32≤140737488355328 then if (((([]:List pP)++(pR O (0:Int) aB)).length)+([(Z,(aA,()))]:List pP).length)*32≤140737488355328 then if 0≤aB∧aB≤(O.length:Int)∧(O.length:Int)≤(O.length:Int) then if ((((([]:List pP)++(pR O (0:Int) aB))++([(Z,(aA,()))]:List pP)).length)+(pR O aB (O.length:Int)).length)*32≤140737488355328 then some ((((([]:List pP)++(pR O (0:Int) aB))++([(Z,(aA,()))]:List pP))++(pR O aB (O.length:Int)))) else none else none else none else none else none else none
attribute [irreducible] TC
def L1 (O:(List UInt8)):Nat→Option (Nat⊕(Unit⊕Bool)):=fun Z=>if (decide (Z<O.length))=true then if (decide (Z<O.length))=true then if (decide (Z<O.length))=true then if ((decide ((97:Int)≤(w6 O Z)))&&(decide ((w6 O Z)≤(122:Int))))=true then some (.inl (yW O Z)) else if ((decide ((0:Int)<((Z:Nat):Int)))&&(((((decide ((48:Int)≤(w6 O Z)))&&(decide ((w6 O Z)≤(57:Int))))||(decide ((w6 O Z)=(45:Int))))||(decide ((w6 O Z)=(95:Int))))||(decide ((w6 O Z)=(46:Int)))))=true then some (.inl (yW O Z)) else some (.inr (.inr (false))) else none else none else some (.inr (.inl ()))
def BA (O:(List UInt8)):Option Bool:=s3 (pY (L1 O) 0) fun _=>some (((decide ((1:Int)≤(O.length:Int)))&&(decide ((O.length:Int)≤(40:Int)))))
section
variable (O:(List UInt8))
abbrev a0k:List pB:=[(.val .str O,none)]
abbrev a0l:List p9:=[]
@[go_sem] def a0m:pH:=⟨[((BA O)).isSome=true],[(.val .bool (val (BA O)),none)],[]⟩
def aAM:List pB→List p9→Option pH:=qO (V:=(List UInt8)) (fun x=>a0k x) (fun x=>a0l) fun x=>a0m x
@[go_sem] theorem aOo:aAM (no_index (a0k O)) (no_index a0l)=some (a0m O):=qQ (fun a0 b0 h1 h2=>by cases h1;cases h2;rfl) O
end
@[go_sem] abbrev TD:Nat×pX:=(162,⟨[.v],aAM,[],[],none⟩)
theorem D4:qG Tryz.prog [rN] (qD []):=⟨⟨rP,trivial⟩,qP,qI⟩
theorem a0n:qE Tryz.prog TD:=by
 refine qR D4 Tryz.func162 (c:=_) rfl (N:=51) (by kernel_rfl) (ts:=[(2,none)]) rfl (fun _ _=>rfl) ?_;intro O hs hrow;dsimp only[a0k,a0l,a0m,qJ,pN,pV,qC,qM,Nat.reduceAdd] at hs hrow⊢;have hz:=hs;obtain⟨z0,hC0⟩:=aPO.1 hz
 try rw[qZ hC0]
 clear hz hs;unfold BA at hC0;refine p8 D4 ?_;refine pL ?_;refine p8 D4 ?_;refine qT ?_;obtain⟨y1,hy1,hC0⟩:=u6 hC0;refine tI 0 (fun s=> ∃v,y1= .inl v∧s=(fun _=>⟨[(0,(.val .str O,none))],[],0,51,0⟩) v) ?_ ?_
 ·refine tH hy1 (fun x=>⟨[(0,(.val .str O,none)),(7,(.val .ref (some (0,0)),none))],[(0,.iter O x)],1,51,0⟩) ⟨[0,7],[(0,64)]⟩ (by rfl) ?_;intro Z w1 n1 hC1 hN1;unfold L1 at hC1;dsimp only at hC1⊢;refine p8 D4 ?_;refine pL ?_;refine pJ hC1 (fun hC1 hc1=> ?_) (fun hC1 hc1=> ?_)
  ·refine pU (pI (qT ?_));obtain⟨hg1,hC1⟩:=pF hC1;obtain⟨hg2,hC1⟩:=pF hC1;refine p8 D4 ?_ (hp:=by exact⟨hg1,hg2⟩);refine p8 D4 ?_ (hp:=by exact⟨fun hh=>hh,(fun hh=>rH hh)⟩);refine qT ?_;refine p8 D4 ?_;refine pJ hC1 (fun hC1 hc2=> ?_) (fun hC1 hc2=> ?_)
   ·refine pU (qW (qW ?_));cases hC1;exact sG ⟨⟨[0,7],[(0,0)]⟩,_,by rfl,hN1⟩
   ·refine p8 D4 ?_ (hp:=by exact⟨fun hh=>hh,fun hh=>hh,fun hh=>hh,fun hh=>hh,fun hG hh=>KI hG hh,fun hh=>hh,fun hh=>hh,fun hh=>hh,fun hG hh=>E9 hG hh,fun hh=>hh,fun hh=>hh,fun hh=>hh,fun hG hh=>E9 hG hh,fun hh=>hh,fun hh=>hh,fun hh=>hh,fun hG hh=>E9 hG hh,(fun hh=>rH hh)⟩);refine pJ hC1 (fun hC1 hc3=> ?_) (fun hC1 hc3=> ?_)
    ·refine pU (qW (qW ?_));cases hC1;exact sG ⟨⟨[0,7],[(0,0)]⟩,_,by rfl,hN1⟩
    ·refine p8 D4 ?_;refine pG (q9 (q9 (uX (uW (q9 (pT ?_))))));cases hC1;cases hN1;dsimp only at hC0;cases hC0;exact⟨[],by rfl,by rfl,by rfl⟩
  ·refine tG (tD (tK ?_));cases hC1;cases hN1;exact tJ ⟨⟨[0],[]⟩,_,rfl,by rfl⟩
 ·rintro _ ⟨v,rfl,rfl⟩;dsimp only at hC0⊢;refine tE (pI ?_);refine p8 D4 ?_ (hp:=by exact⟨fun hh=>hh,fun hh=>hh,(fun hh=>rH hh)⟩);refine pG ?_;cases hC0;exact⟨[],by rfl,by rfl,by rfl⟩
attribute [irreducible] BA
def O6 (O:(List (List UInt8))):Int→Option (Int⊕(Unit⊕Bool)):=fun Z=>if (decide (Z<(O.length:Int)))=true then if 0≤Z∧Z<(O.length:Int) then (BA (pQ .str O Z)).bind fun aA=>if ((((!aA)==false)&&((decide ((0:Int)<Z))==true))=true→pA (Z- (1:Int))) then if ((((!aA)==false)&&((decide ((0:Int)<Z))==true))=true→0≤(Z- (1:Int))∧(Z- (1:Int))<(O.length:Int)) then if ((!aA)||((decide ((0:Int)<Z))&&(!Op.bytesLess (pQ .str O (Z- (1:Int))) (pQ .str O Z))))=true then some (.inr (.inr (false))) else if pA (Z+(1:Int)) then some (.inl (Z+(1:Int))) else none else none else none else none else some (.inr (.inl ()))
def EJ (O:(List (List UInt8))):Option Bool:=s3 (pY (O6 O) (0:Int)) fun _=>some ((decide ((O.length:Int)≤(20:Int))))
section
variable (O:(List (List UInt8)))
abbrev a0o:List pB:=[(.val (.list .str) O,none)]
abbrev a0p:List p9:=[]
@[go_sem] def a0q:pH:=⟨[((EJ O)).isSome=true],[(.val .bool (val (EJ O)),none)],[]⟩
def aAN:List pB→List p9→Option pH:=qO (V:=(List (List UInt8))) (fun x=>a0o x) (fun x=>a0p) fun x=>a0q x
@[go_sem] theorem aOp:aAN (no_index (a0o O)) (no_index a0p)=some (a0q O):=qQ (fun a0 b0 h1 h2=>by cases h1;cases h2;rfl) O
end
@[go_sem] abbrev aAO:Nat×pX:=(163,⟨[.v],aAN,[],[],none⟩)
theorem EK:qG Tryz.prog [rN,vJ] (qD [TD]):=⟨⟨rP,⟨vT,trivial⟩⟩,pO a0n qP,qI⟩
theorem aJk:qE Tryz.prog aAO:=by
 refine qR EK Tryz.func163 (c:=_) rfl (N:=32) (by kernel_rfl) (ts:=[(2,none)]) rfl (fun _ _=>rfl) ?_;intro O hs hrow;dsimp only[a0o,a0p,a0q,qJ,pN,pV,qC,qM,Nat.reduceAdd] at hs hrow⊢;have hz:=hs;obtain⟨z0,hC0⟩:=aPO.1 hz
 try rw[qZ hC0]
 clear hz hs;unfold EJ at hC0;refine p8 EK ?_;refine pL ?_;refine p8 EK ?_;refine qT ?_;obtain⟨y1,hy1,hC0⟩:=u6 hC0;refine tI 0 (fun s=> ∃v,y1= .inl v∧s=(fun _=>⟨[(0,(.val (.list .str) O,none))],[],0,32,0⟩) v) ?_ ?_
 ·refine tH hy1 (fun x=>⟨[(0,(.val (.list .str) O,none)),(5,(.val (.list .str) O,none)),(6,(.val (.int .i64) (O.length:Int),none)),(7,(.val (.int .i64) x,none))],[],0,32,0⟩) ⟨[0,5,6,7],[]⟩ (by rfl) ?_;intro Z w1 n1 hC1 hN1;unfold O6 at hC1;dsimp only at hC1⊢;refine p8 EK ?_;refine pL ?_;refine pJ hC1 (fun hC1 hc1=> ?_) (fun hC1 hc1=> ?_)
  ·refine pU (pI (pL (qT ?_)));obtain⟨hg1,hC1⟩:=pF hC1;refine p8 EK ?_ (hp:=by exact hg1);obtain⟨aA,hv2,hw2,hC1⟩:=q8 hC1
   try simp only[go_sem] at hw2
   obtain⟨hg3,hC1⟩:=pF hC1;obtain⟨hg4,hC1⟩:=pF hC1;refine p8 EK ?_ (hp:=by exact⟨q7 hv2,fun hh=>hh,fun hh=>hh,fun hh=>hh,hg3,fun hh=>hh,fun hh=>hh,hg4,fun hh=>hh,fun hh=>hh,fun hh=>hh,fun hh=>hh,fun hG hh=>KI hG hh,(fun hh=>tP hh)⟩) (h:=by simp only[go_sem,hw2];rfl);refine pJ hC1 (fun hC1 hc2=> ?_) (fun hC1 hc2=> ?_)
   ·refine p8 EK ?_;refine pG (q9 (pT (uX (uW (q9 (pT ?_))))));cases hC1;cases hN1;dsimp only at hC0;cases hC0;exact⟨[],by rfl,by rfl,by rfl⟩
   ·refine pU (qW (pI ?_));obtain⟨hg5,hC1⟩:=pF hC1;refine qY EK ?_ (hp:=by exact hg5);cases hC1;exact sG ⟨⟨[0,5,6,7],[]⟩,_,by rfl,hN1⟩
  ·refine tG (tD (tK ?_));cases hC1;cases hN1;exact tJ ⟨⟨[0],[]⟩,_,rfl,by rfl⟩
 ·rintro _ ⟨v,rfl,rfl⟩;dsimp only at hC0⊢;refine tE (pI ?_);refine p8 EK ?_;refine pG ?_;cases hC0;exact⟨[],by rfl,by rfl,by rfl⟩
attribute [irreducible] EJ
def aAP (O:Int):Unit:=()
section
variable (O:Int)
abbrev a0r:List pB:=[(.val (.int .u8) O,none)]
abbrev a0s:List p9:=[]
@[go_sem] def a0t:pH:=⟨[],[(.val .bool ((decide ((97:Int)≤O))&&(decide (O≤(122:Int)))),none)],[]⟩
def aAQ:List pB→List p9→Option pH:=qO (V:=Int) (fun x=>a0r x) (fun x=>a0s) fun x=>a0t x
@[go_sem] theorem aOq:aAQ (no_index (a0r O)) (no_index a0s)=some (a0t O):=qQ (fun a0 b0 h1 h2=>by cases h1;cases h2;rfl) O
end
@[go_sem] abbrev a0u:Nat×pX:=(169,⟨[.v],aAQ,[],[],none⟩)
theorem a0v:qG Tryz.prog [] (qD []):=⟨trivial,qP,qI⟩
theorem aAR:qE Tryz.prog a0u:=by
 refine qR a0v Tryz.func169 (c:=_) rfl (N:=9) (by kernel_rfl) (ts:=[(2,none)]) rfl (fun _ _=>rfl) ?_;intro O hs hrow;dsimp only[a0r,a0s,a0t,qJ,pN,pV,qC,qM,Nat.reduceAdd] at hs hrow⊢;obtain⟨z0,hC0⟩: ∃z,(aAP O)=z:=⟨_,rfl⟩
 try rw[hC0]
 unfold aAP at hC0;refine p8 a0v ?_;refine p8 a0v ?_ (hp:=by exact⟨fun hh=>hh,(fun hh=>rH hh)⟩);refine pG ?_;cases hC0;exact⟨[],by rfl,by rfl,by rfl⟩
end
noncomputable section
def aAS (O:Int):Unit:=()
section
variable (O:Int)
abbrev a0w:List pB:=[(.val (.int .u8) O,none)]
abbrev a0x:List p9:=[]
@[go_sem] def a0y:pH:=⟨[],[(.val .bool ((decide ((48:Int)≤O))&&(decide (O≤(57:Int)))),none)],[]⟩
def aAT:List pB→List p9→Option pH:=qO (V:=Int) (fun x=>a0w x) (fun x=>a0x) fun x=>a0y x
@[go_sem] theorem aOr:aAT (no_index (a0w O)) (no_index a0x)=some (a0y O):=qQ (fun a0 b0 h1 h2=>by cases h1;cases h2;rfl) O
end
@[go_sem] abbrev a0z:Nat×pX:=(170,⟨[.v],aAT,[],[],none⟩)
theorem a0A:qG Tryz.prog [] (qD []):=⟨trivial,qP,qI⟩
theorem aAU:qE Tryz.prog a0z:=by
 refine qR a0A Tryz.func170 (c:=_) rfl (N:=9) (by kernel_rfl) (ts:=[(2,none)]) rfl (fun _ _=>rfl) ?_;intro O hs hrow;dsimp only[a0w,a0x,a0y,qJ,pN,pV,qC,qM,Nat.reduceAdd] at hs hrow⊢;obtain⟨z0,hC0⟩: ∃z,(aAS O)=z:=⟨_,rfl⟩
 try rw[hC0]
 unfold aAS at hC0;refine p8 a0A ?_;refine p8 a0A ?_ (hp:=by exact⟨fun hh=>hh,(fun hh=>rH hh)⟩);refine pG ?_;cases hC0;exact⟨[],by rfl,by rfl,by rfl⟩
def EL (O:(List UInt8)) (Z:(List UInt8)):Option Unit:=if (((decide ((Z.length:Int)≤(O.length:Int)))==true)=true→0≤(0:Int)∧(0:Int)≤(Z.length:Int)∧(Z.length:Int)≤(O.length:Int)) then some (()) else none
section
variable (O:(List UInt8)) (Z:(List UInt8))
abbrev a0B:List pB:=[(.val .str O,none),(.val .str Z,none)]
abbrev a0C:List p9:=[]
@[go_sem] def a0D:pH:=⟨[((EL O Z)).isSome=true],[(.val .bool ((decide ((Z.length:Int)≤(O.length:Int)))&&(decide ((pR O (0:Int) (Z.length:Int))=Z))),none)],[]⟩
def aAV:List pB→List p9→Option pH:=qO (V:=((List UInt8)×(List UInt8))) (fun x=>a0B x.1 x.2) (fun x=>a0C) fun x=>a0D x.1 x.2
@[go_sem] theorem aOs:aAV (no_index (a0B O Z)) (no_index a0C)=some (a0D O Z):=qQ (fun⟨a0,a1⟩ ⟨b0,b1⟩ h1 h2=>by cases h1;cases h2;rfl) (O,Z)
end
@[go_sem] abbrev TE:Nat×pX:=(183,⟨[.v,.v],aAV,[],[],none⟩)
theorem a0E:qG Tryz.prog [rN] (qD []):=⟨⟨rP,trivial⟩,qP,qI⟩
theorem a0F:qE Tryz.prog TE:=by
 refine qR a0E Tryz.func183 (c:=_) rfl (N:=18) (by kernel_rfl) (ts:=[(4,none)]) rfl (fun _ _=>rfl) ?_;intro⟨O,Z⟩ hs hrow;dsimp only[a0B,a0C,a0D,qJ,pN,pV,qC,qM,Nat.reduceAdd] at hs hrow⊢;have hz:=hs;obtain⟨z0,hC0⟩:=aPO.1 hz
 try rw[qZ hC0]
 clear hz hs;unfold EL at hC0;refine p8 a0E ?_;obtain⟨hg1,hC0⟩:=pF hC0;refine p8 a0E ?_ (hp:=by exact⟨fun hh=>hh,fun hh=>hh,fun hh=>hh,hg1,fun hh=>hh,fun hh=>hh,(fun hh=>rH hh)⟩);refine pG ?_;cases hC0;exact⟨[],by rfl,by rfl,by rfl⟩
attribute [irreducible] EL
def IH (O:(List UInt8)) (Z:(List UInt8)):Option ((List UInt8)×Bool):=(EL O Z).bind fun aA=>if (!((decide ((Z.length:Int)≤(O.length:Int)))&&(decide ((pR O (0:Int) (Z.length:Int))=Z))))=true then some ((O,false)) else if 0≤(Z.length:Int)∧(Z.length:Int)≤(O.length:Int)∧(O.length:Int)≤(O.length:Int) then some (((pR O (Z.length:Int) (O.length:Int)),true)) else none
section
variable (O:(List UInt8)) (Z:(List UInt8))
abbrev a0G:List pB:=[(.val .str O,none),(.val .str Z,none)]
abbrev a0H:List p9:=[]
@[go_sem] def a0I:pH:=⟨[((IH O Z)).isSome=true],[(.val .str ((val (IH O Z)).1),none),(.val .bool ((val (IH O Z)).2),none)],[]⟩
def aAW:List pB→List p9→Option pH:=qO (V:=((List UInt8)×(List UInt8))) (fun x=>a0G x.1 x.2) (fun x=>a0H) fun x=>a0I x.1 x.2
@[go_sem] theorem aOt:aAW (no_index (a0G O Z)) (no_index a0H)=some (a0I O Z):=qQ (fun⟨a0,a1⟩ ⟨b0,b1⟩ h1 h2=>by cases h1;cases h2;rfl) (O,Z)
end
@[go_sem] abbrev aAX:Nat×pX:=(184,⟨[.v,.v],aAW,[],[],none⟩)
theorem O7:qG Tryz.prog [rN] (qD [TE]):=⟨⟨rP,trivial⟩,pO a0F qP,qI⟩
theorem aJl:qE Tryz.prog aAX:=by
 refine qR O7 Tryz.func184 (c:=_) rfl (N:=15) (by kernel_rfl) (ts:=[(4,none),(5,none)]) rfl (fun _ _=>rfl) ?_;intro⟨O,Z⟩ hs hrow;dsimp only[a0G,a0H,a0I,qJ,pN,pV,qC,qM,Nat.reduceAdd] at hs hrow⊢;have hz:=hs;obtain⟨z0,hC0⟩:=aPO.1 hz
 try rw[qZ hC0]
 clear hz hs;unfold IH at hC0;refine p8 O7 ?_;refine pL ?_;obtain⟨aA,hv1,hw1,hC0⟩:=q8 hC0
 try simp only[go_sem] at hw1
 refine p8 O7 ?_ (hp:=by exact(q7 hv1)) (h:=by simp only[go_sem,hw1];rfl);refine pJ hC0 (fun hC0 hc1=> ?_) (fun hC0 hc1=> ?_)
 ·refine p8 O7 ?_;refine pG (pT ?_);cases hC0;exact⟨[],by rfl,by rfl,by rfl⟩
 ·refine pU (pI ?_);obtain⟨hg2,hC0⟩:=pF hC0;refine p8 O7 ?_ (hp:=by exact hg2);refine pG ?_;cases hC0;exact⟨[],by rfl,by rfl,by rfl⟩
attribute [irreducible] IH
def L2 (O:(List UInt8)) (Z:(List UInt8)):Option (List UInt8):=(EL O Z).bind fun aA=>if ((decide ((Z.length:Int)≤(O.length:Int)))&&(decide ((pR O (0:Int) (Z.length:Int))=Z)))=true then if 0≤(Z.length:Int)∧(Z.length:Int)≤(O.length:Int)∧(O.length:Int)≤(O.length:Int) then some ((pR O (Z.length:Int) (O.length:Int))) else none else some (O)
section
variable (O:(List UInt8)) (Z:(List UInt8))
abbrev a0J:List pB:=[(.val .str O,none),(.val .str Z,none)]
abbrev a0K:List p9:=[]
@[go_sem] def a0L:pH:=⟨[((L2 O Z)).isSome=true],[(.val .str (val (L2 O Z)),none)],[]⟩
def aAY:List pB→List p9→Option pH:=qO (V:=((List UInt8)×(List UInt8))) (fun x=>a0J x.1 x.2) (fun x=>a0K) fun x=>a0L x.1 x.2
@[go_sem] theorem aOu:aAY (no_index (a0J O Z)) (no_index a0K)=some (a0L O Z):=qQ (fun⟨a0,a1⟩ ⟨b0,b1⟩ h1 h2=>by cases h1;cases h2;rfl) (O,Z)
end
@[go_sem] abbrev aAZ:Nat×pX:=(185,⟨[.v,.v],aAY,[],[],none⟩)
theorem O8:qG Tryz.prog [rN] (qD [TE]):=⟨⟨rP,trivial⟩,pO a0F qP,qI⟩
theorem aJm:qE Tryz.prog aAZ:=by
 refine qR O8 Tryz.func185 (c:=_) rfl (N:=13) (by kernel_rfl) (ts:=[(4,none)]) rfl (fun _ _=>rfl) ?_;intro⟨O,Z⟩ hs hrow;dsimp only[a0J,a0K,a0L,qJ,pN,pV,qC,qM,Nat.reduceAdd] at hs hrow⊢;have hz:=hs;obtain⟨z0,hC0⟩:=aPO.1 hz
 try rw[qZ hC0]
 clear hz hs;unfold L2 at hC0;refine p8 O8 ?_;refine pL ?_;obtain⟨aA,hv1,hw1,hC0⟩:=q8 hC0
 try simp only[go_sem] at hw1
 refine p8 O8 ?_ (hp:=by exact(q7 hv1)) (h:=by simp only[go_sem,hw1];rfl);refine pJ hC0 (fun hC0 hc1=> ?_) (fun hC0 hc1=> ?_)
 ·obtain⟨hg2,hC0⟩:=pF hC0;refine p8 O8 ?_ (hp:=by exact hg2);refine pG (pT ?_);cases hC0;exact⟨[],by rfl,by rfl,by rfl⟩
 ·refine pU (pI ?_);refine p8 O8 ?_;refine pG ?_;cases hC0;exact⟨[],by rfl,by rfl,by rfl⟩
attribute [irreducible] L2
end
noncomputable section
def O9 (O:(List UInt8)) (Z:(List UInt8)):Option Unit:=if (((decide ((Z.length:Int)≤(O.length:Int)))==true)=true→pA ((O.length:Int)- (Z.length:Int))) then if (((decide ((Z.length:Int)≤(O.length:Int)))==true)=true→0≤((O.length:Int)- (Z.length:Int))∧((O.length:Int)- (Z.length:Int))≤(O.length:Int)∧(O.length:Int)≤(O.length:Int)) then some (()) else none else none
section
variable (O:(List UInt8)) (Z:(List UInt8))
abbrev a0M:List pB:=[(.val .str O,none),(.val .str Z,none)]
abbrev a0N:List p9:=[]
@[go_sem] def a0O:pH:=⟨[((O9 O Z)).isSome=true],[(.val .bool ((decide ((Z.length:Int)≤(O.length:Int)))&&(decide ((pR O ((O.length:Int)- (Z.length:Int)) (O.length:Int))=Z))),none)],[]⟩
def aA0:List pB→List p9→Option pH:=qO (V:=((List UInt8)×(List UInt8))) (fun x=>a0M x.1 x.2) (fun x=>a0N) fun x=>a0O x.1 x.2
@[go_sem] theorem aOv:aA0 (no_index (a0M O Z)) (no_index a0N)=some (a0O O Z):=qQ (fun⟨a0,a1⟩ ⟨b0,b1⟩ h1 h2=>by cases h1;cases h2;rfl) (O,Z)
end
@[go_sem] abbrev aA1:Nat×pX:=(190,⟨[.v,.v],aA0,[],[],none⟩)
theorem a0P:qG Tryz.prog [rN] (qD []):=⟨⟨rP,trivial⟩,qP,qI⟩
theorem aJn:qE Tryz.prog aA1:=by
 refine qR a0P Tryz.func190 (c:=_) rfl (N:=21) (by kernel_rfl) (ts:=[(4,none)]) rfl (fun _ _=>rfl) ?_;intro⟨O,Z⟩ hs hrow;dsimp only[a0M,a0N,a0O,qJ,pN,pV,qC,qM,Nat.reduceAdd] at hs hrow⊢;have hz:=hs;obtain⟨z0,hC0⟩:=aPO.1 hz
 try rw[qZ hC0]
 clear hz hs;unfold O9 at hC0;refine p8 a0P ?_;obtain⟨hg1,hC0⟩:=pF hC0;obtain⟨hg2,hC0⟩:=pF hC0;refine p8 a0P ?_ (hp:=by exact⟨fun hh=>hh,fun hh=>hh,fun hh=>hh,fun hh=>hh,hg1,fun hh=>hh,fun hh=>hh,hg2,fun hh=>hh,fun hh=>hh,(fun hh=>rH hh)⟩);refine pG ?_;cases hC0;exact⟨[],by rfl,by rfl,by rfl⟩
attribute [irreducible] O9
def OA (O:(List (List UInt8))) (Z:(List UInt8)):Int→Option (Int⊕(Unit⊕Int)):=fun aA=>if (decide (aA<(O.length:Int)))=true then if 0≤aA∧aA<(O.length:Int) then if (decide (Z=(pQ .str O aA)))=true then some (.inr (.inr (aA))) else if pA (aA+(1:Int)) then some (.inl (aA+(1:Int))) else none else none else some (.inr (.inl ()))
def BB (O:(List (List UInt8))) (Z:(List UInt8)):Option Int:=s3 (pY (OA O Z) (0:Int)) fun _=>some ((-1:Int))
section
variable (O:(List (List UInt8))) (Z:(List UInt8))
abbrev a0Q:List pB:=[(.val (.list .str) O,none),(.val .str Z,none)]
abbrev a0R:List p9:=[]
@[go_sem] def a0S:pH:=⟨[((BB O Z)).isSome=true],[(.val (.int .i64) (val (BB O Z)),none)],[]⟩
def aA2:List pB→List p9→Option pH:=qO (V:=((List (List UInt8))×(List UInt8))) (fun x=>a0Q x.1 x.2) (fun x=>a0R) fun x=>a0S x.1 x.2
@[go_sem] theorem aOw:aA2 (no_index (a0Q O Z)) (no_index a0R)=some (a0S O Z):=qQ (fun⟨a0,a1⟩ ⟨b0,b1⟩ h1 h2=>by cases h1;cases h2;rfl) (O,Z)
end
@[go_sem] abbrev TF:Nat×pX:=(193,⟨[.v,.v],aA2,[],[],none⟩)
theorem EM:qG Tryz.prog [rN,vJ] (qD []):=⟨⟨rP,⟨vT,trivial⟩⟩,qP,qI⟩
theorem aA3:qE Tryz.prog TF:=by
 refine qR EM Tryz.func193 (c:=_) rfl (N:=19) (by kernel_rfl) (ts:=[(4,none)]) rfl (fun _ _=>rfl) ?_;intro⟨O,Z⟩ hs hrow;dsimp only[a0Q,a0R,a0S,qJ,pN,pV,qC,qM,Nat.reduceAdd] at hs hrow⊢;have hz:=hs;obtain⟨z0,hC0⟩:=aPO.1 hz
 try rw[qZ hC0]
 clear hz hs;unfold BB at hC0;refine p8 EM ?_;refine pL ?_;refine p8 EM ?_;refine qT ?_;obtain⟨y1,hy1,hC0⟩:=u6 hC0;refine tI 0 (fun s=> ∃v,y1= .inl v∧s=(fun _=>⟨[],[],0,19,0⟩) v) ?_ ?_
 ·refine tH hy1 (fun x=>⟨[(0,(.val (.list .str) O,none)),(1,(.val .str Z,none)),(7,(.val (.int .i64) (O.length:Int),none)),(8,(.val (.int .i64) x,none))],[],0,19,0⟩) ⟨[0,1,7,8],[]⟩ (by rfl) ?_;intro aA w1 n1 hC1 hN1;unfold OA at hC1;dsimp only at hC1⊢;refine p8 EM ?_;refine pL ?_;refine pJ hC1 (fun hC1 hc1=> ?_) (fun hC1 hc1=> ?_)
  ·refine pU (pI (pL (qT ?_)));refine p8 EM ?_;obtain⟨hg1,hC1⟩:=pF hC1;refine p8 EM ?_ (hp:=by exact hg1);refine pJ hC1 (fun hC1 hc2=> ?_) (fun hC1 hc2=> ?_)
   ·refine p8 EM ?_;refine pG (q9 (pT (uX (uW (q9 (pT ?_))))));cases hC1;cases hN1;dsimp only at hC0;cases hC0;exact⟨[],by rfl,by rfl,by rfl⟩
   ·refine pU (qW (pI ?_));obtain⟨hg2,hC1⟩:=pF hC1;refine qY EM ?_ (hp:=by exact hg2);cases hC1;exact sG ⟨⟨[0,1,7,8],[]⟩,_,by rfl,hN1⟩
  ·refine tG (tD (tK ?_));cases hC1;cases hN1;exact tJ ⟨⟨[],[]⟩,_,rfl,by rfl⟩
 ·rintro _ ⟨v,rfl,rfl⟩;dsimp only at hC0⊢;refine tE (pI ?_);refine p8 EM ?_;refine pG ?_;cases hC0;exact⟨[],by rfl,by rfl,by rfl⟩
attribute [irreducible] BB
def L3 (O:Int) (Z:(List UInt8)) (aA:Int):Int→Option (Int⊕(Unit⊕Int)):=fun aB=>if (decide (aB<(Z.length:Int)))=true then if 0≤aB∧aB<(Z.length:Int) then if (decide ((pZ Z aB)=aA))=true then some (.inr (.inr (aB))) else if (((!decide (O=(4:Int)))==true)=true→0≤aB∧aB<(Z.length:Int)) then if ((!decide (O=(4:Int)))&&(decide ((pZ Z aB)=(92:Int))))=true then if pA (aB+(1:Int)) then if pA ((aB+(1:Int))+(1:Int)) then some (.inl ((aB+(1:Int))+(1:Int))) else none else none else if pA (aB+(1:Int)) then some (.inl (aB+(1:Int))) else none else none else none else some (.inr (.inl ()))
def II (O:Int) (Z:(List UInt8)) (aA:Int):Option Int:=if (!((decide ((1:Int)≤O))&&(decide (O≤(4:Int)))))=true then some ((-1:Int)) else s3 (pY (L3 O Z aA) (0:Int)) fun _=>some ((-1:Int))
attribute [irreducible] II
def OB (O:(List UInt8)):Option Unit:=if List.length O≤9223372036854775807 then some (()) else none
section
variable (O:(List UInt8))
abbrev a0T:List pB:=[(.val .str O,none)]
abbrev a0U:List p9:=[]
@[go_sem] def a0V:pH:=⟨[((OB O)).isSome=true],[(.val .bool (Lib.validD O),none)],[]⟩
def aA4:List pB→List p9→Option pH:=qO (V:=(List UInt8)) (fun x=>a0T x) (fun x=>a0U) fun x=>a0V x
@[go_sem] theorem aOx:aA4 (no_index (a0T O)) (no_index a0U)=some (a0V O):=qQ (fun a0 b0 h1 h2=>by cases h1;cases h2;rfl) O
end
@[go_sem] abbrev aA5:Nat×pX:=(198,⟨[.v],aA4,[],[],none⟩)
theorem a0W:qG Tryz.prog [] (qD [aAh]):=⟨trivial,pO aI8 qP,qI⟩
theorem aJo:qE Tryz.prog aA5:=by
 refine qR a0W Tryz.func198 (c:=_) rfl (N:=5) (by kernel_rfl) (ts:=[(2,none)]) rfl (fun _ _=>rfl) ?_;intro O hs hrow;dsimp only[a0T,a0U,a0V,qJ,pN,pV,qC,qM,Nat.reduceAdd] at hs hrow⊢;have hz:=hs;obtain⟨z0,hC0⟩:=aPO.1 hz
 try rw[qZ hC0]
 clear hz hs;unfold OB at hC0;refine p8 a0W ?_;obtain⟨hg1,hC0⟩:=pF hC0;refine p8 a0W ?_ (hp:=by exact hg1);refine pG ?_;cases hC0;exact⟨[],by rfl,by rfl,by rfl⟩
attribute [irreducible] OB
def aA6 (O:Int):Unit:=()
section
variable (O:Int)
abbrev a0X:List pB:=[(.val (.int .u8) O,none)]
abbrev a0Y:List p9:=[]
@[go_sem] def a0Z:pH:=⟨[],[(.val .bool ((decide (O<(32:Int)))||(decide (O=(127:Int)))),none)],[]⟩
def aA7:List pB→List p9→Option pH:=qO (V:=Int) (fun x=>a0X x) (fun x=>a0Y) fun x=>a0Z x
@[go_sem] theorem aOy:aA7 (no_index (a0X O)) (no_index a0Y)=some (a0Z O):=qQ (fun a0 b0 h1 h2=>by cases h1;cases h2;rfl) O
end
@[go_sem] abbrev aA8:Nat×pX:=(199,⟨[.v],aA7,[],[],none⟩)
theorem a00:qG Tryz.prog [] (qD []):=⟨trivial,qP,qI⟩
theorem aJp:qE Tryz.prog aA8:=by
 refine qR a00 Tryz.func199 (c:=_) rfl (N:=9) (by kernel_rfl) (ts:=[(2,none)]) rfl (fun _ _=>rfl) ?_;intro O hs hrow;dsimp only[a0X,a0Y,a0Z,qJ,pN,pV,qC,qM,Nat.reduceAdd] at hs hrow⊢;obtain⟨z0,hC0⟩: ∃z,(aA6 O)=z:=⟨_,rfl⟩
 try rw[hC0]
 unfold aA6 at hC0;refine p8 a00 ?_;refine p8 a00 ?_ (hp:=by exact⟨fun hh=>hh,(fun hh=>tP hh)⟩);refine pG ?_;cases hC0;exact⟨[],by rfl,by rfl,by rfl⟩
def OC (O:Int) (Z:Int):Option Unit:=if 0≤(IntKind.wrap .i64 O)∧(IntKind.wrap .i64 O)<256∧YR (16:Int) then if pA (Z- ((vS (IntKind.wrap .i64 O) (16:Int)).length:Int)) then if 0≤(Z- ((vS (IntKind.wrap .i64 O) (16:Int)).length:Int))∧(Z- ((vS (IntKind.wrap .i64 O) (16:Int)).length:Int))≤140737488355328∧(([48]:List UInt8).length:Int)*(Z- ((vS (IntKind.wrap .i64 O) (16:Int)).length:Int))≤140737488355328 then if (((IA ([48]:List UInt8) (Z- ((vS (IntKind.wrap .i64 O) (16:Int)).length:Int)))++(vS (IntKind.wrap .i64 O) (16:Int))).length:Int)≤9223372036854775807 then some (()) else none else none else none else none
section
variable (O:Int) (Z:Int)
abbrev a01:List pB:=[(.val (.int .u8) O,none),(.val (.int .i64) Z,none)]
abbrev a02:List p9:=[]
@[go_sem] def a03:pH:=⟨[((OC O Z)).isSome=true],[(.val .str ((IA ([48]:List UInt8) (Z- ((vS (IntKind.wrap .i64 O) (16:Int)).length:Int)))++(vS (IntKind.wrap .i64 O) (16:Int))),none)],[]⟩
def aA9:List pB→List p9→Option pH:=qO (V:=(Int×Int)) (fun x=>a01 x.1 x.2) (fun x=>a02) fun x=>a03 x.1 x.2
@[go_sem] theorem aOz:aA9 (no_index (a01 O Z)) (no_index a02)=some (a03 O Z):=qQ (fun⟨a0,a1⟩ ⟨b0,b1⟩ h1 h2=>by cases h1;cases h2;rfl) (O,Z)
end
@[go_sem] abbrev aBa:Nat×pX:=(201,⟨[.v,.v],aA9,[],[],none⟩)
theorem TG:qG Tryz.prog [YX,CZ,rN] (qD [aAj,aAk]):=⟨⟨aI7,⟨G8,⟨rP,trivial⟩⟩⟩,pO aJa (pO aJb qP),qI⟩
theorem aJq:qE Tryz.prog aBa:=by
 refine qR TG Tryz.func201 (c:=_) rfl (N:=16) (by kernel_rfl) (ts:=[(4,none)]) rfl (fun _ _=>rfl) ?_;intro⟨O,Z⟩ hs hrow;dsimp only[a01,a02,a03,qJ,pN,pV,qC,qM,Nat.reduceAdd] at hs hrow⊢;have hz:=hs;obtain⟨z0,hC0⟩:=aPO.1 hz
 try rw[qZ hC0]
 clear hz hs;unfold OC at hC0;refine p8 TG ?_;obtain⟨hg1,hC0⟩:=pF hC0;refine p8 TG ?_ (hp:=by exact hg1);obtain⟨hg2,hC0⟩:=pF hC0;obtain⟨hg3,hC0⟩:=pF hC0;obtain⟨hg4,hC0⟩:=pF hC0;refine p8 TG ?_ (hp:=by exact⟨hg2,hg3,hg4⟩);refine pG ?_;cases hC0;exact⟨[],by rfl,by rfl,by rfl⟩
attribute [irreducible] OC
def TH (O:Int) (Z:(List UInt8)):Int→Option (Int⊕(Unit⊕Bool)):=fun aA=>if (decide (aA<(Z.length:Int)))=true then if 0≤aA∧aA<(Z.length:Int) then if (decide ((pZ Z aA)=O))=true then some (.inr (.inr (true))) else if pA (aA+(1:Int)) then some (.inl (aA+(1:Int))) else none else none else some (.inr (.inl ()))
def C1 (O:Int) (Z:(List UInt8)):Option Bool:=s3 (pY (TH O Z) (0:Int)) fun _=>some (false)
attribute [irreducible] C1
def a04 (O:Int):Option Unit:=if 0≤(IntKind.wrap .i64 (Int.tdiv O (16:Int)))∧(IntKind.wrap .i64 (Int.tdiv O (16:Int)))<(([48,49,50,51,52,53,54,55,56,57,97,98,99,100,101,102]:List UInt8).length:Int) then if 0≤(Int.tmod O (16:Int))∧(Int.tmod O (16:Int))<(([48,49,50,51,52,53,54,55,56,57,97,98,99,100,101,102]:List UInt8).length:Int) then some (()) else none else none
attribute [irreducible] a04
end
noncomputable section
def aBb (O:Int):Unit:=()
section
variable (O:Int)
abbrev a05:List pB:=[(.val (.int .i64) O,none)]
abbrev a06:List p9:=[]
@[go_sem] def a07:pH:=⟨[],[(.val .bool (((decide ((0:Int)≤O))&&(decide (O≤(1114111:Int))))&&((decide (O<(55296:Int)))||(decide ((57343:Int)<O)))),none)],[]⟩
def aBc:List pB→List p9→Option pH:=qO (V:=Int) (fun x=>a05 x) (fun x=>a06) fun x=>a07 x
@[go_sem] theorem aOA:aBc (no_index (a05 O)) (no_index a06)=some (a07 O):=qQ (fun a0 b0 h1 h2=>by cases h1;cases h2;rfl) O
end
@[go_sem] abbrev a08:Nat×pX:=(205,⟨[.v],aBc,[],[],none⟩)
theorem a09:qG Tryz.prog [] (qD []):=⟨trivial,qP,qI⟩
theorem aBd:qE Tryz.prog a08:=by
 refine qR a09 Tryz.func205 (c:=_) rfl (N:=17) (by kernel_rfl) (ts:=[(2,none)]) rfl (fun _ _=>rfl) ?_;intro O hs hrow;dsimp only[a05,a06,a07,qJ,pN,pV,qC,qM,Nat.reduceAdd] at hs hrow⊢;obtain⟨z0,hC0⟩: ∃z,(aBb O)=z:=⟨_,rfl⟩
 try rw[hC0]
 unfold aBb at hC0;refine p8 a09 ?_;refine p8 a09 ?_ (hp:=by exact⟨fun hh=>hh,fun hh=>rH hh,fun hh=>hh,fun hh=>hh,fun hh=>hh,fun hh=>hh,fun hG hh=>E9 hG hh,(fun hh=>rH hh)⟩);refine pG ?_;cases hC0;exact⟨[],by rfl,by rfl,by rfl⟩
def zW (O:Int):Option (List UInt8):=if (decide (O<(128:Int)))=true then some ((rV ([(IntKind.wrap .u8 O)]:List Int))) else if (decide (O<(2048:Int)))=true then if pA ((192:Int)+(IntKind.wrap .i64 (Int.tdiv O (64:Int)))) then if pA ((128:Int)+(Int.tmod O (64:Int))) then some ((rV ([(IntKind.wrap .u8 ((192:Int)+(IntKind.wrap .i64 (Int.tdiv O (64:Int))))),(IntKind.wrap .u8 ((128:Int)+(Int.tmod O (64:Int))))]:List Int))) else none else none else if (decide (O<(65536:Int)))=true then if pA ((224:Int)+(IntKind.wrap .i64 (Int.tdiv O (4096:Int)))) then if pA ((128:Int)+(Int.tmod (IntKind.wrap .i64 (Int.tdiv O (64:Int))) (64:Int))) then if pA ((128:Int)+(Int.tmod O (64:Int))) then some ((rV ([(IntKind.wrap .u8 ((224:Int)+(IntKind.wrap .i64 (Int.tdiv O (4096:Int))))),(IntKind.wrap .u8 ((128:Int)+(Int.tmod (IntKind.wrap .i64 (Int.tdiv O (64:Int))) (64:Int)))),(IntKind.wrap .u8 ((128:Int)+(Int.tmod O (64:Int))))]:List Int))) else none else none else none else if pA ((240:Int)+(IntKind.wrap .i64 (Int.tdiv O (262144:Int)))) then if pA ((128:Int)+(Int.tmod (IntKind.wrap .i64 (Int.tdiv O (4096:Int))) (64:Int))) then if pA ((128:Int)+(Int.tmod (IntKind.wrap .i64 (Int.tdiv O (64:Int))) (64:Int))) then if pA ((128:Int)+(Int.tmod O (64:Int))) then some ((rV ([(IntKind.wrap .u8 ((240:Int)+(IntKind.wrap .i64 (Int.tdiv O (262144:Int))))),(IntKind.wrap .u8 ((128:Int)+(Int.tmod (IntKind.wrap .i64 (Int.tdiv O (4096:Int))) (64:Int)))),(IntKind.wrap .u8 ((128:Int)+(Int.tmod (IntKind.wrap .i64 (Int.tdiv O (64:Int))) (64:Int)))),(IntKind.wrap .u8 ((128:Int)+(Int.tmod O (64:Int))))]:List Int))) else none else none else none else none
section
variable (O:Int)
abbrev a1a:List pB:=[(.val (.int .i64) O,none)]
abbrev a1b:List p9:=[]
@[go_sem] def a1c:pH:=⟨[((zW O)).isSome=true],[(.val .str (val (zW O)),none)],[]⟩
def aBe:List pB→List p9→Option pH:=qO (V:=Int) (fun x=>a1a x) (fun x=>a1b) fun x=>a1c x
@[go_sem] theorem aOB:aBe (no_index (a1a O)) (no_index a1b)=some (a1c O):=qQ (fun a0 b0 h1 h2=>by cases h1;cases h2;rfl) O
end
@[go_sem] abbrev a1d:Nat×pX:=(206,⟨[.v],aBe,[],[],none⟩)
theorem EN:qG Tryz.prog [wT,CZ,rN,CX] (qD []):=⟨⟨xG,⟨G8,⟨rP,⟨G5,trivial⟩⟩⟩⟩,qP,qI⟩
theorem aBf:qE Tryz.prog a1d:=by
 refine qR EN Tryz.func206 (c:=_) rfl (N:=61) (by kernel_rfl) (ts:=[(2,none)]) rfl (fun _ _=>rfl) ?_;intro O hs hrow;dsimp only[a1a,a1b,a1c,qJ,pN,pV,qC,qM,Nat.reduceAdd] at hs hrow⊢;have hz:=hs;obtain⟨z0,hC0⟩:=aPO.1 hz
 try rw[qZ hC0]
 clear hz hs;unfold zW at hC0;refine p8 EN ?_;refine pL (qT ?_);refine p8 EN ?_;refine pJ hC0 (fun hC0 hc1=> ?_) (fun hC0 hc1=> ?_)
 ·refine p8 EN ?_;refine pG (q9 (pT ?_));cases hC0;exact⟨[],by rfl,by rfl,by rfl⟩
 ·refine p8 EN ?_;refine pJ hC0 (fun hC0 hc2=> ?_) (fun hC0 hc2=> ?_)
  ·obtain⟨hg1,hC0⟩:=pF hC0;obtain⟨hg2,hC0⟩:=pF hC0;refine p8 EN ?_ (hp:=by exact⟨show (64:Int)≠0 from by decide,hg1,show (64:Int)≠0 from by decide,hg2⟩);refine pG (q9 (pT ?_));cases hC0;exact⟨[],by rfl,by rfl,by rfl⟩
  ·refine p8 EN ?_;refine pJ hC0 (fun hC0 hc3=> ?_) (fun hC0 hc3=> ?_)
   ·obtain⟨hg3,hC0⟩:=pF hC0;obtain⟨hg4,hC0⟩:=pF hC0;obtain⟨hg5,hC0⟩:=pF hC0;refine p8 EN ?_ (hp:=by exact⟨show (4096:Int)≠0 from by decide,hg3,show (64:Int)≠0 from by decide,show (64:Int)≠0 from by decide,hg4,show (64:Int)≠0 from by decide,hg5⟩);refine pG (q9 (pT ?_));cases hC0;exact⟨[],by rfl,by rfl,by rfl⟩
   ·refine pU (qW (pI ?_));obtain⟨hg6,hC0⟩:=pF hC0;obtain⟨hg7,hC0⟩:=pF hC0;obtain⟨hg8,hC0⟩:=pF hC0;obtain⟨hg9,hC0⟩:=pF hC0;refine p8 EN ?_ (hp:=by exact⟨show (262144:Int)≠0 from by decide,hg6,show (4096:Int)≠0 from by decide,show (64:Int)≠0 from by decide,hg7,show (64:Int)≠0 from by decide,show (64:Int)≠0 from by decide,hg8,show (64:Int)≠0 from by decide,hg9⟩);refine pG ?_;cases hC0;exact⟨[],by rfl,by rfl,by rfl⟩
attribute [irreducible] zW
def C2 (O:(List UInt8)) (Z:Int):(Int×Int)→Option ((Int×Int)⊕(Int⊕(Int×Int))):=fun(aA,aB)=>if (decide (aB<Z))=true then if 0≤aB∧aB<(O.length:Int) then if (((decide ((pZ O aB)<(128:Int)))==false)=true→0≤aB∧aB<(O.length:Int)) then if ((decide ((pZ O aB)<(128:Int)))||(decide ((191:Int)<(pZ O aB))))=true then some (.inr (.inr (((65533:Int),(1:Int))))) else if pA ((64:Int)*aA) then if 0≤aB∧aB<(O.length:Int) then if pA (((64:Int)*aA)+(IntKind.wrap .i64 (pZ O aB))) then if pA ((((64:Int)*aA)+(IntKind.wrap .i64 (pZ O aB)))- (128:Int)) then if pA (aB+(1:Int)) then some (.inl (((((64:Int)*aA)+(IntKind.wrap .i64 (pZ O aB)))- (128:Int)),(aB+(1:Int)))) else none else none else none else none else none else none else none else some (.inr (.inl aA))
def GG (O:(List UInt8)):Option (Int×Int):=if 0≤(0:Int)∧(0:Int)<(O.length:Int) then s3 (σ:=(Int×Int)) (if (decide ((IntKind.wrap .i64 (pZ O (0:Int)))<(128:Int)))=true then some (.inr (((IntKind.wrap .i64 (pZ O (0:Int))),(1:Int)))) else if ((decide ((192:Int)≤(IntKind.wrap .i64 (pZ O (0:Int)))))&&(decide ((IntKind.wrap .i64 (pZ O (0:Int)))<(224:Int))))=true then if pA ((IntKind.wrap .i64 (pZ O (0:Int)))- (192:Int)) then some (.inl (((IntKind.wrap .i64 (pZ O (0:Int)))- (192:Int)),(2:Int))) else none else if ((decide ((224:Int)≤(IntKind.wrap .i64 (pZ O (0:Int)))))&&(decide ((IntKind.wrap .i64 (pZ O (0:Int)))<(240:Int))))=true then if pA ((IntKind.wrap .i64 (pZ O (0:Int)))- (224:Int)) then some (.inl (((IntKind.wrap .i64 (pZ O (0:Int)))- (224:Int)),(3:Int))) else none else if ((decide ((240:Int)≤(IntKind.wrap .i64 (pZ O (0:Int)))))&&(decide ((IntKind.wrap .i64 (pZ O (0:Int)))<(248:Int))))=true then if pA ((IntKind.wrap .i64 (pZ O (0:Int)))- (240:Int)) then some (.inl (((IntKind.wrap .i64 (pZ O (0:Int)))- (240:Int)),(4:Int))) else none else some (.inr (((65533:Int),(1:Int)))) ) fun(Z,aA)=>if (decide ((O.length:Int)<aA))=true then some (((65533:Int),(1:Int))) else s3 (pY (C2 O aA) (Z,(1:Int))) fun aB=>if (((!(((decide ((0:Int)≤aB))&&(decide (aB≤(1114111:Int))))&&((decide (aB<(55296:Int)))||(decide ((57343:Int)<aB)))))==false)=true→((zW aB)).isSome=true) then if (((!(((decide ((0:Int)≤aB))&&(decide (aB≤(1114111:Int))))&&((decide (aB<(55296:Int)))||(decide ((57343:Int)<aB)))))==false)=true→0≤(0:Int)∧(0:Int)≤aA∧aA≤(O.length:Int)) then if ((!(((decide ((0:Int)≤aB))&&(decide (aB≤(1114111:Int))))&&((decide (aB<(55296:Int)))||(decide ((57343:Int)<aB)))))||(!decide ((val (zW aB))=(pR O (0:Int) aA))))=true then some (((65533:Int),(1:Int))) else some ((aB,aA)) else none else none else none
section
variable (O:(List UInt8))
abbrev a1e:List pB:=[(.val .str O,none)]
abbrev a1f:List p9:=[]
@[go_sem] def a1g:pH:=⟨[((GG O)).isSome=true],[(.val (.int .i64) ((val (GG O)).1),none),(.val (.int .i64) ((val (GG O)).2),none)],[]⟩
def aBg:List pB→List p9→Option pH:=qO (V:=(List UInt8)) (fun x=>a1e x) (fun x=>a1f) fun x=>a1g x
@[go_sem] theorem aOC:aBg (no_index (a1e O)) (no_index a1f)=some (a1g O):=qQ (fun a0 b0 h1 h2=>by cases h1;cases h2;rfl) O
end
@[go_sem] abbrev aBh:Nat×pX:=(207,⟨[.v],aBg,[],[],none⟩)
theorem vU:qG Tryz.prog [wT,CZ,rN] (qD [a08,a1d]):=⟨⟨xG,⟨G8,⟨rP,trivial⟩⟩⟩,pO aBd (pO aBf qP),qI⟩
theorem aJr:qE Tryz.prog aBh:=by
 refine qR vU Tryz.func207 (c:=_) rfl (N:=81) (by kernel_rfl) (ts:=[(2,none),(3,none)]) rfl (fun _ _=>rfl) ?_;intro O hs hrow;dsimp only[a1e,a1f,a1g,qJ,pN,pV,qC,qM,Nat.reduceAdd] at hs hrow⊢;have hz:=hs;obtain⟨z0,hC0⟩:=aPO.1 hz
 try rw[qZ hC0]
 clear hz hs;unfold GG at hC0;refine p8 vU ?_;obtain⟨hg1,hC0⟩:=pF hC0;refine p8 vU ?_ (hp:=by exact hg1);refine pL ?_;obtain⟨y1,hC1,hC0⟩:=u6 hC0;refine yK (fun s=> ∃v,y1= .inl v∧s=(fun x=>⟨[(0,(.val .str O,none)),(4,(.val (.int .i64) x.1,none)),(5,(.val (.int .i64) x.2,none))],[],0,81,0⟩) v) ?_ ?_
 ·refine qT ?_;refine p8 vU ?_;refine pJ hC1 (fun hC1 hc1=> ?_) (fun hC1 hc1=> ?_)
  ·refine p8 vU ?_;refine pG (q9 (Y7 (pT ?_)));cases hC1;dsimp only at hC0;cases hC0;exact⟨[],by rfl,by rfl,by rfl⟩
  ·refine p8 vU ?_ (hp:=by exact⟨fun hh=>hh,(fun hh=>rH hh)⟩);refine pJ hC1 (fun hC1 hc2=> ?_) (fun hC1 hc2=> ?_)
   ·obtain⟨hg2,hC1⟩:=pF hC1;refine qY vU ?_ (hp:=by exact hg2);refine qW ?_;cases hC1;exact sN ⟨⟨[0,4,5],[]⟩,_,rfl,by rfl⟩
   ·refine p8 vU ?_ (hp:=by exact⟨fun hh=>hh,(fun hh=>rH hh)⟩);refine pJ hC1 (fun hC1 hc3=> ?_) (fun hC1 hc3=> ?_)
    ·obtain⟨hg3,hC1⟩:=pF hC1;refine qY vU ?_ (hp:=by exact hg3);refine qW ?_;cases hC1;exact sN ⟨⟨[0,4,5],[]⟩,_,rfl,by rfl⟩
    ·refine p8 vU ?_ (hp:=by exact⟨fun hh=>hh,(fun hh=>rH hh)⟩);refine pJ hC1 (fun hC1 hc4=> ?_) (fun hC1 hc4=> ?_)
     ·obtain⟨hg4,hC1⟩:=pF hC1;refine qY vU ?_ (hp:=by exact hg4);refine qW ?_;cases hC1;exact sN ⟨⟨[0,4,5],[]⟩,_,rfl,by rfl⟩
     ·refine p8 vU ?_;refine pG (q9 (Y7 (pT ?_)));cases hC1;dsimp only at hC0;cases hC0;exact⟨[],by rfl,by rfl,by rfl⟩
 ·rintro _ ⟨v,rfl,rfl⟩;obtain⟨Z,aA⟩:=v;dsimp only at hC0⊢;refine pI (pL ?_);refine p8 vU ?_;refine pJ hC0 (fun hC0 hc5=> ?_) (fun hC0 hc5=> ?_)
  ·refine p8 vU ?_;refine pG (pT ?_);cases hC0;exact⟨[],by rfl,by rfl,by rfl⟩
  ·refine pU (pI (pL ?_));refine p8 vU ?_;refine qT ?_;obtain⟨y1,hy1,hC0⟩:=u6 hC0;refine tI 1 (fun s=> ∃v,y1= .inl v∧s=(fun x=>⟨[(0,(.val .str O,none)),(4,(.val (.int .i64) x,none)),(5,(.val (.int .i64) aA,none))],[],0,81,0⟩) v) ?_ ?_
   ·refine tH hy1 (fun x=>⟨[(0,(.val .str O,none)),(4,(.val (.int .i64) x.1,none)),(5,(.val (.int .i64) aA,none)),(6,(.val (.int .i64) x.2,none))],[],0,81,0⟩) ⟨[0,4,5,6],[]⟩ (by rfl) ?_;intro x1 w1 n1 hC1 hN1;obtain⟨aB,aC⟩:=x1;unfold C2 at hC1;dsimp only at hC1⊢;refine pL ?_;refine p8 vU ?_;refine pJ hC1 (fun hC1 hc6=> ?_) (fun hC1 hc6=> ?_)
    ·refine pU (pI (pL (qT (pL ?_))));obtain⟨hg5,hC1⟩:=pF hC1;obtain⟨hg6,hC1⟩:=pF hC1;refine p8 vU ?_ (hp:=by exact⟨hg5,fun hh=>hh,fun hh=>hh,hg6,fun hh=>hh,(fun hh=>tP hh)⟩);refine pJ hC1 (fun hC1 hc7=> ?_) (fun hC1 hc7=> ?_)
     ·refine p8 vU ?_;refine pG (pT (q9 (pT (uX (uW (q9 (pT ?_)))))));cases hC1;cases hN1;dsimp only at hC0;cases hC0;exact⟨[],by rfl,by rfl,by rfl⟩
     ·refine pU (pI ?_);obtain⟨hg7,hC1⟩:=pF hC1;obtain⟨hg8,hC1⟩:=pF hC1;obtain⟨hg9,hC1⟩:=pF hC1;obtain⟨hg10,hC1⟩:=pF hC1;refine qY vU ?_ (hp:=by exact⟨hg7,hg8,hg9,hg10⟩);refine qW (pI ?_);obtain⟨hg11,hC1⟩:=pF hC1;refine qY vU ?_ (hp:=by exact hg11);cases hC1;exact sG ⟨⟨[0,4,5,6],[]⟩,_,by rfl,hN1⟩
    ·refine tG (tD (tK ?_));cases hC1;cases hN1;exact tJ ⟨⟨[0,4,5],[]⟩,_,rfl,by rfl⟩
   ·rintro _ ⟨aD,rfl,rfl⟩;dsimp only at hC0⊢;refine tE (pI (pL ?_));obtain⟨hg12,hC0⟩:=pF hC0;obtain⟨hg13,hC0⟩:=pF hC0;refine uO vU ?_ (hp:=by exact⟨fun hh=>hh,hg12,fun hh=>hh,fun hh=>hh,hg13,fun hh=>hh,fun hh=>hh,(fun hh=>tP hh)⟩);refine pJ hC0 (fun hC0 hc8=> ?_) (fun hC0 hc8=> ?_)
    ·refine p8 vU ?_;refine pG (pT ?_);cases hC0;exact⟨[],by rfl,by rfl,by rfl⟩
    ·refine pU (pI ?_);refine p8 vU ?_;refine pG ?_;cases hC0;exact⟨[],by rfl,by rfl,by rfl⟩
attribute [irreducible] GG
def IJ (O:Int) (Z:Int):Bool:=if (decide (O=(1:Int)))=true then (decide (Z=(10:Int))) else Y8 (σ:=Bool) (if (decide (O=(2:Int)))=true then (decide (O=(2:Int))) else (decide (O=(3:Int))) ) fun aA=>if aA=true then ((decide (Z=(10:Int)))||(decide (Z=(34:Int)))) else ((decide (Z=(60:Int)))||(decide (Z=(34:Int))))
section
variable (O:Int) (Z:Int)
abbrev a1h:List pB:=[(.val (.int .i64) O,none),(.val (.int .u8) Z,none)]
abbrev a1i:List p9:=[]
@[go_sem] def a1j:pH:=⟨[],[(.val .bool (IJ O Z),none)],[]⟩
def aBi:List pB→List p9→Option pH:=qO (V:=(Int×Int)) (fun x=>a1h x.1 x.2) (fun x=>a1i) fun x=>a1j x.1 x.2
@[go_sem] theorem aOD:aBi (no_index (a1h O Z)) (no_index a1i)=some (a1j O Z):=qQ (fun⟨a0,a1⟩ ⟨b0,b1⟩ h1 h2=>by cases h1;cases h2;rfl) (O,Z)
end
@[go_sem] abbrev aBj:Nat×pX:=(211,⟨[.v,.v],aBi,[],[],none⟩)
theorem EO:qG Tryz.prog [] (qD []):=⟨trivial,qP,qI⟩
theorem aJs:qE Tryz.prog aBj:=by
 refine qR EO Tryz.func211 (c:=_) rfl (N:=25) (by kernel_rfl) (ts:=[(4,none)]) rfl (fun _ _=>rfl) ?_;intro⟨O,Z⟩ hs hrow;dsimp only[a1h,a1i,a1j,qJ,pN,pV,qC,qM,Nat.reduceAdd] at hs hrow⊢;obtain⟨z0,hC0⟩: ∃z,(IJ O Z)=z:=⟨_,rfl⟩
 try rw[hC0]
 unfold IJ at hC0;refine p8 EO ?_;refine pL ?_;refine p8 EO ?_;refine qT ?_;refine p8 EO ?_;refine pJ hC0 (fun hC0 hc1=> ?_) (fun hC0 hc1=> ?_)
 ·refine p8 EO ?_;refine pG (q9 (pT ?_));cases hC0;exact⟨[],by rfl,by rfl,by rfl⟩
 ·refine pL ?_;refine p8 EO ?_;obtain⟨aA,hC1,hC0⟩:=aIh hC0;refine yK (fun s=>s=(fun x=>⟨[(1,(.val (.int .u8) Z,none)),(10,(.val .bool x,none))],[],0,25,0⟩) aA) ?_ ?_
  ·refine pJ hC1 (fun hC1 hc2=> ?_) (fun hC1 hc2=> ?_)
   ·refine pU ?_;cases hC1;exact sN ⟨⟨[1,10],[]⟩,by rfl⟩
   ·refine qY EO ?_;cases hC1;exact sN ⟨⟨[1,10],[]⟩,by rfl⟩
  ·rintro _ rfl;dsimp only at hC0⊢;refine pI ?_;refine pJ hC0 (fun hC0 hc3=> ?_) (fun hC0 hc3=> ?_)
   ·refine p8 EO ?_ (hp:=by exact⟨fun hh=>hh,(fun hh=>tP hh)⟩);refine pG (q9 (pT ?_));cases hC0;exact⟨[],by rfl,by rfl,by rfl⟩
   ·refine pU (qW (pI ?_));refine p8 EO ?_ (hp:=by exact⟨fun hh=>hh,(fun hh=>tP hh)⟩);refine pG ?_;cases hC0;exact⟨[],by rfl,by rfl,by rfl⟩
def IK (O:((List Int)×Unit)) (Z:Int):Option Unit:=if (O.1.length+([Z]:List Int).length)*1≤140737488355328 then some (()) else none
section
variable (O:Int) (Z:((List Int)×Unit)) (aA:Nat)
abbrev a1k:List pB:=[(.val .ref (some (0,0)),none),(.val (.int .u8) O,none)]
abbrev a1l:List p9:=[.cells sP ((some (0,0)),Z) [(1,1)],.grow 5 1 aA]
@[go_sem] def a1m:pH:=⟨[aA=(Z.1.length),((IK Z O)).isSome=true],[(.any,none)],[.cells sP ((some (0,0)),((Z.1++([O]:List Int)),())) [(1,1)],.grow 5 1 ((Z.1++([O]:List Int)).length)]⟩
def aBk:List pB→List p9→Option pH:=qO (V:=(Int×((List Int)×Unit)×Nat)) (fun x=>a1k x.1) (fun x=>a1l x.2.1 x.2.2) fun x=>a1m x.1 x.2.1 x.2.2
@[go_sem] theorem aOE:aBk (no_index (a1k O)) (no_index (a1l Z aA))=some (a1m O Z aA):=qQ (fun⟨a0,a1,a2⟩ ⟨b0,b1,b2⟩ h1 h2=>by cases h1;cases h2;rfl) (O,Z,aA)
end
@[go_sem] abbrev aBl:Nat×pX:=(212,⟨[.p sP [1],.v],aBk,[],[],none⟩)
theorem OD:qG Tryz.prog [CX,EC] (qD [SY]):=⟨⟨G5,⟨IC,trivial⟩⟩,pO YZ qP,qI⟩
theorem aJt:qE Tryz.prog aBl:=by
 refine qR OD Tryz.func212 (c:=_) rfl (N:=17) (by kernel_rfl) (ts:=[(4,none)]) rfl (fun _ _=>rfl) ?_;intro⟨O,Z,aA⟩ hs hrow;dsimp only[a1k,a1l,a1m,qJ,pN,pV,qC,qM,Nat.reduceAdd] at hs hrow⊢;obtain⟨rfl,hz⟩:=hs;obtain⟨z0,hC0⟩:=aPO.1 hz
 try rw[qZ hC0]
 clear hz;unfold IK at hC0;refine p8 OD ?_;refine p8 OD ?_ (hp:=by first|rfl|trivial)
 obtain⟨hg1,hC0⟩:=pF hC0;refine p8 OD ?_ (hp:=by exact⟨by first|rfl|trivial,hg1⟩)
 refine p8 OD ?_;refine pG ?_;cases hC0;exact⟨[(0,0),(1,1)],by rfl,by rfl,by rfl⟩
attribute [irreducible] IK
end
noncomputable section
def aBm (O:pP) (Z:(List UInt8)):Unit:=()
section
variable (O:pP) (Z:(List UInt8))
abbrev a1n:List pB:=[(.val (.pair .str (.pair .str .unit)) O,none),(.val .ref (some (0,0)),none)]
abbrev a1o:List p9:=[.cells .str Z []]
@[go_sem] def a1p:pH:=⟨[],[(.val .bool (!(Op.bytesLess O.1 Z||decide (O.1=Z))),none)],[.cells .str Z []]⟩
def aBn:List pB→List p9→Option pH:=qO (V:=(pP×(List UInt8))) (fun x=>a1n x.1) (fun x=>a1o x.2) fun x=>a1p x.1 x.2
@[go_sem] theorem aOF:aBn (no_index (a1n O)) (no_index (a1o Z))=some (a1p O Z):=qQ (fun⟨a0,a1⟩ ⟨b0,b1⟩ h1 h2=>by cases h1;cases h2;rfl) (O,Z)
end
@[go_sem] abbrev aBo:Nat×pX:=(239,⟨[.v,.p .str []],aBn,[],[0],none⟩)
theorem a1q:qG Tryz.prog [rN,B8] (qD []):=⟨⟨rP,⟨CY,trivial⟩⟩,qP,qI⟩
theorem aJu:qE Tryz.prog aBo:=by
 refine qR a1q Tryz.func239 (c:=_) rfl (N:=8) (by kernel_rfl) (ts:=[(3,none)]) rfl (fun _ _=>rfl) ?_;intro⟨O,Z⟩ hs hrow;dsimp only[a1n,a1o,a1p,qJ,pN,pV,qC,qM,Nat.reduceAdd] at hs hrow⊢;obtain⟨z0,hC0⟩: ∃z,(aBm O Z)=z:=⟨_,rfl⟩
 try rw[hC0]
 unfold aBm at hC0;refine p8 a1q ?_;refine p8 a1q ?_;refine pG ?_;cases hC0;exact⟨[(0,0)],by rfl,by rfl,by rfl⟩
def L4 (O:(List UInt8)) (Z:Int):(Int×Int)→Option ((Int×Int)⊕(Int⊕(Int×Bool))):=fun(aA,aB)=>if (decide (aB<(O.length:Int)))=true then if 0≤aB∧aB<(O.length:Int) then if 0≤aB∧aB<(O.length:Int) then if (((decide ((65:Int)≤(pZ O aB)))==true)=true→0≤aB∧aB<(O.length:Int)) then rC (σ:=Int) (if ((decide ((65:Int)≤(pZ O aB)))&&(decide ((pZ O aB)≤(70:Int))))=true then if 0≤aB∧aB<(O.length:Int) then if pA ((IntKind.wrap .i64 (IntKind.wrap .u8 ((pZ O aB)- (65:Int))))+(10:Int)) then some (((IntKind.wrap .i64 (IntKind.wrap .u8 ((pZ O aB)- (65:Int))))+(10:Int))) else none else none else some ((uF ([48,49,50,51,52,53,54,55,56,57,97,98,99,100,101,102]:List UInt8) (pZ O aB))) ) fun aC=>if ((decide (aC<(0:Int)))||(decide (Z≤aC)))=true then some (.inr (.inr (((0:Int),false)))) else if pA (aA*Z) then if pA ((aA*Z)+aC) then if pA (aB+(1:Int)) then some (.inl (((aA*Z)+aC),(aB+(1:Int)))) else none else none else none else none else none else none else some (.inr (.inl aA))
def D5 (O:(List UInt8)) (Z:Int):Option (Int×Bool):=s3 (pY (L4 O Z) ((0:Int),(0:Int))) fun aA=>some ((aA,(!decide (O=([]:List UInt8)))))
section
variable (O:(List UInt8)) (Z:Int)
abbrev a1r:List pB:=[(.val .str O,none),(.val (.int .i64) Z,none)]
abbrev a1s:List p9:=[]
@[go_sem] def a1t:pH:=⟨[((D5 O Z)).isSome=true],[(.val (.int .i64) ((val (D5 O Z)).1),none),(.val .bool ((val (D5 O Z)).2),none)],[]⟩
def aBp:List pB→List p9→Option pH:=qO (V:=((List UInt8)×Int)) (fun x=>a1r x.1 x.2) (fun x=>a1s) fun x=>a1t x.1 x.2
@[go_sem] theorem aOG:aBp (no_index (a1r O Z)) (no_index a1s)=some (a1t O Z):=qQ (fun⟨a0,a1⟩ ⟨b0,b1⟩ h1 h2=>by cases h1;cases h2;rfl) (O,Z)
end
@[go_sem] abbrev a1u:Nat×pX:=(251,⟨[.v,.v],aBp,[],[],none⟩)
theorem zX:qG Tryz.prog [wT,CZ,rN] (qD [NZ]):=⟨⟨xG,⟨G8,⟨rP,trivial⟩⟩⟩,pO SX qP,qI⟩
theorem aBq:qE Tryz.prog a1u:=by
 refine qR zX Tryz.func251 (c:=_) rfl (N:=50) (by kernel_rfl) (ts:=[(4,none),(5,none)]) rfl (fun _ _=>rfl) ?_;intro⟨O,Z⟩ hs hrow;dsimp only[a1r,a1s,a1t,qJ,pN,pV,qC,qM,Nat.reduceAdd] at hs hrow⊢;have hz:=hs;obtain⟨z0,hC0⟩:=aPO.1 hz
 try rw[qZ hC0]
 clear hz hs;unfold D5 at hC0;refine p8 zX ?_;refine p8 zX ?_;refine pL ?_;refine p8 zX ?_;refine qT ?_;obtain⟨y1,hy1,hC0⟩:=u6 hC0;refine tI 0 (fun s=> ∃v,y1= .inl v∧s=(fun x=>⟨[(0,(.val .str O,none)),(6,(.val (.int .i64) x,none))],[],0,50,0⟩) v) ?_ ?_
 ·refine tH hy1 (fun x=>⟨[(0,(.val .str O,none)),(1,(.val (.int .i64) Z,none)),(6,(.val (.int .i64) x.1,none)),(10,(.val (.int .i64) (O.length:Int),none)),(11,(.val (.int .i64) x.2,none))],[],0,50,0⟩) ⟨[0,1,6,10,11],[]⟩ (by rfl) ?_;intro x1 w1 n1 hC1 hN1;obtain⟨aA,aB⟩:=x1;unfold L4 at hC1;dsimp only at hC1⊢;refine p8 zX ?_;refine pL ?_;refine pJ hC1 (fun hC1 hc1=> ?_) (fun hC1 hc1=> ?_)
  ·refine pU (pI (pL (qT ?_)));refine p8 zX ?_;obtain⟨hg1,hC1⟩:=pF hC1;refine p8 zX ?_ (hp:=by exact hg1);refine pL ?_;obtain⟨hg2,hC1⟩:=pF hC1;obtain⟨hg3,hC1⟩:=pF hC1;refine p8 zX ?_ (hp:=by exact⟨hg2,fun hh=>hh,fun hh=>hh,hg3,fun hh=>hh,(fun hh=>rH hh)⟩);obtain⟨aC,hC2,hC1⟩:=pC hC1;refine yK (fun s=>s=(fun x=>⟨[(0,(.val .str O,none)),(1,(.val (.int .i64) Z,none)),(6,(.val (.int .i64) aA,none)),(8,(.val (.int .i64) x,none)),(10,(.val (.int .i64) (O.length:Int),none)),(11,(.val (.int .i64) aB,none))],[],0,50,0⟩) aC) ?_ ?_
   ·refine pJ hC2 (fun hC2 hc2=> ?_) (fun hC2 hc2=> ?_)
    ·obtain⟨hg4,hC2⟩:=pF hC2;obtain⟨hg5,hC2⟩:=pF hC2;refine qY zX ?_ (hp:=by exact⟨hg4,hg5⟩);cases hC2;exact sN ⟨⟨[0,1,6,8,10,11],[]⟩,by rfl⟩
    ·refine pU ?_;cases hC2;exact sN ⟨⟨[0,1,6,8,10,11],[]⟩,by rfl⟩
   ·rintro _ rfl;dsimp only at hC1⊢;refine pI (pL ?_);refine p8 zX ?_ (hp:=by exact⟨fun hh=>hh,fun hh=>hh,(fun hh=>tP hh)⟩);refine pJ hC1 (fun hC1 hc3=> ?_) (fun hC1 hc3=> ?_)
    ·refine p8 zX ?_;refine pG (pT (q9 (pT (uX (uW (q9 (pT ?_)))))));cases hC1;cases hN1;dsimp only at hC0;cases hC0;exact⟨[],by rfl,by rfl,by rfl⟩
    ·refine pU (pI ?_);obtain⟨hg6,hC1⟩:=pF hC1;obtain⟨hg7,hC1⟩:=pF hC1;refine qY zX ?_ (hp:=by exact⟨hg6,hg7⟩);refine qW (pI ?_);obtain⟨hg8,hC1⟩:=pF hC1;refine qY zX ?_ (hp:=by exact hg8);cases hC1;exact sG ⟨⟨[0,1,6,10,11],[]⟩,_,by rfl,hN1⟩
  ·refine tG (tD (tK ?_));cases hC1;cases hN1;exact tJ ⟨⟨[0,6],[]⟩,_,rfl,by rfl⟩
 ·rintro _ ⟨aD,rfl,rfl⟩;dsimp only at hC0⊢;refine tE (pI ?_);refine p8 zX ?_;refine pG ?_;cases hC0;exact⟨[],by rfl,by rfl,by rfl⟩
attribute [irreducible] D5
def aBr (O:pP) (Z:(List UInt8)):Unit:=()
section
variable (O:pP) (Z:(List UInt8))
abbrev a1v:List pB:=[(.val (.pair .str (.pair .str .unit)) O,none),(.val .ref (some (0,0)),none)]
abbrev a1w:List p9:=[.cells .str Z []]
@[go_sem] def a1x:pH:=⟨[],[(.val .bool (decide (O.1=Z)),none)],[.cells .str Z []]⟩
def aBs:List pB→List p9→Option pH:=qO (V:=(pP×(List UInt8))) (fun x=>a1v x.1) (fun x=>a1w x.2) fun x=>a1x x.1 x.2
@[go_sem] theorem aOH:aBs (no_index (a1v O)) (no_index (a1w Z))=some (a1x O Z):=qQ (fun⟨a0,a1⟩ ⟨b0,b1⟩ h1 h2=>by cases h1;cases h2;rfl) (O,Z)
end
@[go_sem] abbrev aBt:Nat×pX:=(267,⟨[.v,.p .str []],aBs,[],[0],none⟩)
theorem a1y:qG Tryz.prog [rN,B8] (qD []):=⟨⟨rP,⟨CY,trivial⟩⟩,qP,qI⟩
theorem aJv:qE Tryz.prog aBt:=by
 refine qR a1y Tryz.func267 (c:=_) rfl (N:=8) (by kernel_rfl) (ts:=[(3,none)]) rfl (fun _ _=>rfl) ?_;intro⟨O,Z⟩ hs hrow;dsimp only[a1v,a1w,a1x,qJ,pN,pV,qC,qM,Nat.reduceAdd] at hs hrow⊢;obtain⟨z0,hC0⟩: ∃z,(aBr O Z)=z:=⟨_,rfl⟩
 try rw[hC0]
 unfold aBr at hC0;refine p8 a1y ?_;refine p8 a1y ?_;refine pG ?_;cases hC0;exact⟨[(0,0)],by rfl,by rfl,by rfl⟩
def TJ (O:Int) (Z:Int):Option Int:=rC (σ:=Int) (if ((decide ((48:Int)≤O))&&(decide (O≤(57:Int))))=true then some ((IntKind.wrap .i64 (IntKind.wrap .u8 (O- (48:Int))))) else if ((decide ((97:Int)≤O))&&(decide (O≤(102:Int))))=true then if pA ((IntKind.wrap .i64 (IntKind.wrap .u8 (O- (97:Int))))+(10:Int)) then some (((IntKind.wrap .i64 (IntKind.wrap .u8 (O- (97:Int))))+(10:Int))) else none else if ((decide ((65:Int)≤O))&&(decide (O≤(70:Int))))=true then if pA ((IntKind.wrap .i64 (IntKind.wrap .u8 (O- (65:Int))))+(10:Int)) then some (((IntKind.wrap .i64 (IntKind.wrap .u8 (O- (65:Int))))+(10:Int))) else none else some ((-1:Int)) ) fun aA=>if (decide (Z≤aA))=true then some ((-1:Int)) else some (aA)
attribute [irreducible] TJ
def aBu (O:Int):Unit:=()
section
variable (O:Int)
abbrev a1z:List pB:=[(.val (.int .i64) O,none)]
abbrev a1A:List p9:=[]
@[go_sem] def a1B:pH:=⟨[],[(.val .bool (((decide ((0:Int)≤O))&&(decide (O≤(1114111:Int))))&&((decide (O<(55296:Int)))||(decide ((57343:Int)<O)))),none)],[]⟩
def aBv:List pB→List p9→Option pH:=qO (V:=Int) (fun x=>a1z x) (fun x=>a1A) fun x=>a1B x
@[go_sem] theorem aOI:aBv (no_index (a1z O)) (no_index a1A)=some (a1B O):=qQ (fun a0 b0 h1 h2=>by cases h1;cases h2;rfl) O
end
@[go_sem] abbrev aBw:Nat×pX:=(289,⟨[.v],aBv,[],[],none⟩)
theorem a1C:qG Tryz.prog [] (qD []):=⟨trivial,qP,qI⟩
theorem aJw:qE Tryz.prog aBw:=by
 refine qR a1C Tryz.func289 (c:=_) rfl (N:=17) (by kernel_rfl) (ts:=[(2,none)]) rfl (fun _ _=>rfl) ?_;intro O hs hrow;dsimp only[a1z,a1A,a1B,qJ,pN,pV,qC,qM,Nat.reduceAdd] at hs hrow⊢;obtain⟨z0,hC0⟩: ∃z,(aBu O)=z:=⟨_,rfl⟩
 try rw[hC0]
 unfold aBu at hC0;refine p8 a1C ?_;refine p8 a1C ?_ (hp:=by exact⟨fun hh=>hh,fun hh=>rH hh,fun hh=>hh,fun hh=>hh,fun hh=>hh,fun hh=>hh,fun hG hh=>E9 hG hh,(fun hh=>rH hh)⟩);refine pG ?_;cases hC0;exact⟨[],by rfl,by rfl,by rfl⟩
def GH (O:(List pP)):Option (List pP):=if (0+O.length)*32≤140737488355328 then some ((([]:List pP)++O)) else none
section
variable (O:(List pP))
abbrev a1D:List pB:=[(.val (.list (.pair .str (.pair .str .unit))) O,none)]
abbrev a1E:List p9:=[]
@[go_sem] def a1F:pH:=⟨[((GH O)).isSome=true],[(.own 0 ((val (GH O)).length),none)],[.row 149 (.pair .str (.pair .str .unit)) (val (GH O)) ((val (GH O)).length)]⟩
def aBx:List pB→List p9→Option pH:=qO (V:=(List pP)) (fun x=>a1D x) (fun x=>a1E) fun x=>a1F x
@[go_sem] theorem aOJ:aBx (no_index (a1D O)) (no_index a1E)=some (a1F O):=qQ (fun a0 b0 h1 h2=>by cases h1;cases h2;rfl) O
end
@[go_sem] abbrev aBy:Nat×pX:=(236,⟨[.v],aBx,[],[],none⟩)
theorem OE:qG Tryz.prog [SS] (qD []):=⟨⟨aAe,trivial⟩,qP,qI⟩
theorem aJx:qE Tryz.prog aBy:=by
 refine qR OE Tryz.func236 (c:=_) rfl (N:=8) (by kernel_rfl) (ts:=[(2,none)]) rfl (fun _ _=>rfl) ?_;intro O hs hrow;dsimp only[a1D,a1E,a1F,qJ,pN,pV,qC,qM,Nat.reduceAdd] at hs hrow⊢;have hz:=hs;obtain⟨z0,hC0⟩:=aPO.1 hz
 try rw[qZ hC0]
 clear hz hs;unfold GH at hC0;refine p8 OE ?_;refine pL ?_;refine p8 OE ?_;refine aH6 (by simp only[go_sem];rfl) (fun hnil=> ?_) (fun hnil=> ?_)
 ·subst hnil;obtain⟨_,hC0⟩:=pF hC0;refine p8 OE ?_;refine pG (pT ?_);cases hC0;exact⟨[(0,96)],by rfl,by rfl,by rfl⟩
 ·refine pU (pI ?_);obtain⟨hg1,hC0⟩:=pF hC0;refine p8 OE ?_ (hp:=by exact⟨by first|rfl|trivial,hg1⟩)
  refine pG ?_;cases hC0;exact⟨[(0,96)],by rfl,by rfl,by rfl⟩
attribute [irreducible] GH
end
noncomputable section
def IL (O:(List Int)) (Z:Int):Option (List Int):=if (decide ((IntKind.wrap .u32 Z)≤(2047:Int)))=true then if (O.length+([(bits .or .u8 (192:Int) (IntKind.wrap .u8 (wP .i32 Z (6:Int)))),(bits .or .u8 (128:Int) (bits .and .u8 (IntKind.wrap .u8 Z) (63:Int)))]:List Int).length)*1≤140737488355328 then some ((O++([(bits .or .u8 (192:Int) (IntKind.wrap .u8 (wP .i32 Z (6:Int)))),(bits .or .u8 (128:Int) (bits .and .u8 (IntKind.wrap .u8 Z) (63:Int)))]:List Int))) else none else rC (σ:=Bool) (if (decide ((IntKind.wrap .u32 Z)<(55296:Int)))=true then some ((decide ((IntKind.wrap .u32 Z)<(55296:Int)))) else some (((decide ((57343:Int)<(IntKind.wrap .u32 Z)))&&(decide ((IntKind.wrap .u32 Z)≤(65535:Int))))) ) fun aA=>if aA=true then if (O.length+([(bits .or .u8 (224:Int) (IntKind.wrap .u8 (wP .i32 Z (12:Int)))),(bits .or .u8 (128:Int) (bits .and .u8 (IntKind.wrap .u8 (wP .i32 Z (6:Int))) (63:Int))),(bits .or .u8 (128:Int) (bits .and .u8 (IntKind.wrap .u8 Z) (63:Int)))]:List Int).length)*1≤140737488355328 then some ((O++([(bits .or .u8 (224:Int) (IntKind.wrap .u8 (wP .i32 Z (12:Int)))),(bits .or .u8 (128:Int) (bits .and .u8 (IntKind.wrap .u8 (wP .i32 Z (6:Int))) (63:Int))),(bits .or .u8 (128:Int) (bits .and .u8 (IntKind.wrap .u8 Z) (63:Int)))]:List Int))) else none else if ((decide ((65535:Int)<(IntKind.wrap .u32 Z)))&&(decide ((IntKind.wrap .u32 Z)≤(1114111:Int))))=true then if (O.length+([(bits .or .u8 (240:Int) (IntKind.wrap .u8 (wP .i32 Z (18:Int)))),(bits .or .u8 (128:Int) (bits .and .u8 (IntKind.wrap .u8 (wP .i32 Z (12:Int))) (63:Int))),(bits .or .u8 (128:Int) (bits .and .u8 (IntKind.wrap .u8 (wP .i32 Z (6:Int))) (63:Int))),(bits .or .u8 (128:Int) (bits .and .u8 (IntKind.wrap .u8 Z) (63:Int)))]:List Int).length)*1≤140737488355328 then some ((O++([(bits .or .u8 (240:Int) (IntKind.wrap .u8 (wP .i32 Z (18:Int)))),(bits .or .u8 (128:Int) (bits .and .u8 (IntKind.wrap .u8 (wP .i32 Z (12:Int))) (63:Int))),(bits .or .u8 (128:Int) (bits .and .u8 (IntKind.wrap .u8 (wP .i32 Z (6:Int))) (63:Int))),(bits .or .u8 (128:Int) (bits .and .u8 (IntKind.wrap .u8 Z) (63:Int)))]:List Int))) else none else if (O.length+([(239:Int),(191:Int),(189:Int)]:List Int).length)*1≤140737488355328 then some ((O++([(239:Int),(191:Int),(189:Int)]:List Int))) else none
section
variable (O:(List Int)) (Z:Int) (aA:Nat)
abbrev a1G:List pB:=[(.val (.list (.int .u8)) O,some 0),(.val (.int .i32) Z,none)]
abbrev a1H:List p9:=[.grow 5 1 aA]
@[go_sem] def a1I:pH:=⟨[aA=(O.length),((IL O Z)).isSome=true],[(.val (.list (.int .u8)) (val (IL O Z)),some 0)],[.grow 5 1 ((val (IL O Z)).length)]⟩
def aBz:List pB→List p9→Option pH:=qO (V:=((List Int)×Int×Nat)) (fun x=>a1G x.1 x.2.1) (fun x=>a1H x.2.2) fun x=>a1I x.1 x.2.1 x.2.2
@[go_sem] theorem aOK:aBz (no_index (a1G O Z)) (no_index (a1H aA))=some (a1I O Z aA):=qQ (fun⟨a0,a1,a2⟩ ⟨b0,b1,b2⟩ h1 h2=>by cases h1;cases h2;rfl) (O,Z,aA)
end
@[go_sem] abbrev aBA:Nat×pX:=(300,⟨[.own,.v],aBz,[],[],none⟩)
theorem C3:qG Tryz.prog [CZ,NX,CX,ST] (qD []):=⟨⟨G8,⟨YW,⟨G5,⟨aAf,trivial⟩⟩⟩⟩,qP,qI⟩
theorem aJy:qE Tryz.prog aBA:=by
 refine qR C3 Tryz.func300 (c:=_) rfl (N:=78) (by kernel_rfl) (ts:=[(4,none)]) rfl (fun _ _=>rfl) ?_;intro⟨O,Z,aA⟩ hs hrow;dsimp only[a1G,a1H,a1I,qJ,pN,pV,qC,qM,Nat.reduceAdd] at hs hrow⊢;obtain⟨rfl,hz⟩:=hs;obtain⟨z0,hC0⟩:=aPO.1 hz
 try rw[qZ hC0]
 clear hz;unfold IL at hC0;refine p8 C3 ?_;refine p8 C3 ?_;refine qT ?_;refine p8 C3 ?_;refine pJ hC0 (fun hC0 hc1=> ?_) (fun hC0 hc1=> ?_)
 ·obtain⟨hg1,hC0⟩:=pF hC0;refine p8 C3 ?_ (hp:=by exact⟨show (0:Int)≤(6:Int) from by decide,by first|rfl|trivial,hg1⟩)
  refine pG (q9 ?_);cases hC0;exact⟨[(0,0)],by rfl,by rfl,by rfl⟩
 ·refine pL ?_;refine p8 C3 ?_;obtain⟨aB,hC1,hC0⟩:=pC hC0;refine yK (fun s=>s=(fun x=>⟨[(0,(.val (.list (.int .u8)) O,some 0)),(1,(.val (.int .i32) Z,none)),(5,(.val (.int .u32) (IntKind.wrap .u32 Z),none)),(25,(.val .bool x,none))],[(0,.grow 5 1 (O.length))],1,78,1⟩) aB) ?_ ?_
  ·refine pJ hC1 (fun hC1 hc2=> ?_) (fun hC1 hc2=> ?_)
   ·refine pU ?_;cases hC1;exact sN ⟨⟨[0,1,5,25],[(0,0)]⟩,by rfl⟩
   ·refine qY C3 ?_ (hp:=by exact⟨fun hh=>hh,(fun hh=>rH hh)⟩);cases hC1;exact sN ⟨⟨[0,1,5,25],[(0,0)]⟩,by rfl⟩
  ·rintro _ rfl;dsimp only at hC0⊢;refine pI ?_;refine pJ hC0 (fun hC0 hc3=> ?_) (fun hC0 hc3=> ?_)
   ·obtain⟨hg2,hC0⟩:=pF hC0;refine p8 C3 ?_ (hp:=by exact⟨show (0:Int)≤(12:Int) from by decide,show (0:Int)≤(6:Int) from by decide,by first|rfl|trivial,hg2⟩)
    refine pG (q9 ?_);cases hC0;exact⟨[(0,0)],by rfl,by rfl,by rfl⟩
   ·refine p8 C3 ?_ (hp:=by exact⟨fun hh=>hh,(fun hh=>rH hh)⟩);refine pJ hC0 (fun hC0 hc4=> ?_) (fun hC0 hc4=> ?_)
    ·obtain⟨hg3,hC0⟩:=pF hC0;refine p8 C3 ?_ (hp:=by exact⟨show (0:Int)≤(18:Int) from by decide,show (0:Int)≤(12:Int) from by decide,show (0:Int)≤(6:Int) from by decide,by first|rfl|trivial,hg3⟩)
     refine pG (q9 ?_);cases hC0;exact⟨[(0,0)],by rfl,by rfl,by rfl⟩
    ·obtain⟨hg4,hC0⟩:=pF hC0;refine p8 C3 ?_ (hp:=by exact⟨by first|rfl|trivial,hg4⟩)
     refine pG (q9 ?_);cases hC0;exact⟨[(0,0)],by rfl,by rfl,by rfl⟩
attribute [irreducible] IL
def OF (O:(List pP)) (Z:(List UInt8)):Int→Option (Int⊕(Unit⊕Int)):=fun aA=>if (decide (aA<(O.length:Int)))=true then if 0≤aA∧aA<(O.length:Int) then if (decide (((pQ (.pair .str (.pair .str .unit)) O aA).1)=Z))=true then some (.inr (.inr (aA))) else if pA (aA+(1:Int)) then some (.inl (aA+(1:Int))) else none else none else some (.inr (.inl ()))
def L5 (O:(List pP)) (Z:(List UInt8)):Option Int:=s3 (pY (OF O Z) (0:Int)) fun _=>some ((-1:Int))
section
variable (O:(List pP)) (Z:(List UInt8))
abbrev a1J:List pB:=[(.val (.list (.pair .str (.pair .str .unit))) O,none),(.val .clo (some (267,[(0,0)])),none)]
abbrev a1K:List p9:=[.cells .str Z []]
@[go_sem] def a1L:pH:=⟨[((L5 O Z)).isSome=true],[(.val (.int .i64) (val (L5 O Z)),none)],[.cells .str Z []]⟩
def aBB:List pB→List p9→Option pH:=qO (V:=((List pP)×(List UInt8))) (fun x=>a1J x.1) (fun x=>a1K x.2) fun x=>a1L x.1 x.2
@[go_sem] theorem aOL:aBB (no_index (a1J O)) (no_index (a1K Z))=some (a1L O Z):=qQ (fun⟨a0,a1⟩ ⟨b0,b1⟩ h1 h2=>by cases h1;cases h2;rfl) (O,Z)
end
@[go_sem] abbrev aBC:Nat×pX:=(238,⟨[.v,.f [(.str,[])]],aBB,[],[0],none⟩)
theorem EQ:qG Tryz.prog [wN,B8] (qD [aBt]):=⟨⟨xA,⟨CY,trivial⟩⟩,pO aJv qP,qI⟩
theorem aJz:qE Tryz.prog aBC:=by
 refine qR EQ Tryz.func238 (c:=_) rfl (N:=19) (by kernel_rfl) (ts:=[(4,none)]) rfl (fun _ _=>rfl) ?_;intro⟨O,Z⟩ hs hrow;dsimp only[a1J,a1K,a1L,qJ,pN,pV,qC,qM,Nat.reduceAdd] at hs hrow⊢;have hz:=hs;obtain⟨z0,hC0⟩:=aPO.1 hz
 try rw[qZ hC0]
 clear hz hs;unfold L5 at hC0;refine p8 EQ ?_;refine pL ?_;refine p8 EQ ?_;refine qT ?_;obtain⟨y1,hy1,hC0⟩:=u6 hC0;refine tI 0 (fun s=> ∃v,y1= .inl v∧s=(fun _=>⟨[],[(0,.cells .str Z [])],1,19,1⟩) v) ?_ ?_
 ·refine tH hy1 (fun x=>⟨[(0,(.val (.list (.pair .str (.pair .str .unit))) O,none)),(1,(.val .clo (some (267,[(0,0)])),none)),(7,(.val (.int .i64) (O.length:Int),none)),(8,(.val (.int .i64) x,none))],[(0,.cells .str Z [])],1,19,1⟩) ⟨[0,1,7,8],[(0,0)]⟩ (by rfl) ?_;intro aA w1 n1 hC1 hN1;unfold OF at hC1;dsimp only at hC1⊢;refine p8 EQ ?_;refine pL ?_;refine pJ hC1 (fun hC1 hc1=> ?_) (fun hC1 hc1=> ?_)
  ·refine pU (pI (pL (qT ?_)));refine p8 EQ ?_;obtain⟨hg1,hC1⟩:=pF hC1;refine p8 EQ ?_ (hp:=by exact⟨hg1,(by first|rfl|trivial)⟩)
   refine pJ hC1 (fun hC1 hc2=> ?_) (fun hC1 hc2=> ?_)
   ·refine p8 EQ ?_;refine pG (q9 (pT (uX (uW (q9 (pT ?_))))));cases hC1;cases hN1;dsimp only at hC0;cases hC0;exact⟨[(0,0)],by rfl,by rfl,by rfl⟩
   ·refine pU (qW (pI ?_));obtain⟨hg2,hC1⟩:=pF hC1;refine qY EQ ?_ (hp:=by exact hg2);cases hC1;exact sG ⟨⟨[0,1,7,8],[(0,0)]⟩,_,by rfl,hN1⟩
  ·refine tG (tD (tK ?_));cases hC1;cases hN1;exact tJ ⟨⟨[],[(0,0)]⟩,_,rfl,by rfl⟩
 ·rintro _ ⟨v,rfl,rfl⟩;dsimp only at hC0⊢;refine tE (pI ?_);refine p8 EQ ?_;refine pG ?_;cases hC0;exact⟨[(0,0)],by rfl,by rfl,by rfl⟩
attribute [irreducible] L5
def OG (O:(List pP)) (Z:(List UInt8)):Int→Option (Int⊕(Unit⊕Int)):=fun aA=>if (decide (aA<(O.length:Int)))=true then if 0≤aA∧aA<(O.length:Int) then if (!(Op.bytesLess ((pQ (.pair .str (.pair .str .unit)) O aA).1) Z||decide (((pQ (.pair .str (.pair .str .unit)) O aA).1)=Z)))=true then some (.inr (.inr (aA))) else if pA (aA+(1:Int)) then some (.inl (aA+(1:Int))) else none else none else some (.inr (.inl ()))
def L6 (O:(List pP)) (Z:(List UInt8)):Option Int:=s3 (pY (OG O Z) (0:Int)) fun _=>some ((-1:Int))
section
variable (O:(List pP)) (Z:(List UInt8))
abbrev a1M:List pB:=[(.val (.list (.pair .str (.pair .str .unit))) O,none),(.val .clo (some (239,[(0,0)])),none)]
abbrev a1N:List p9:=[.cells .str Z []]
@[go_sem] def a1O:pH:=⟨[((L6 O Z)).isSome=true],[(.val (.int .i64) (val (L6 O Z)),none)],[.cells .str Z []]⟩
def aBD:List pB→List p9→Option pH:=qO (V:=((List pP)×(List UInt8))) (fun x=>a1M x.1) (fun x=>a1N x.2) fun x=>a1O x.1 x.2
@[go_sem] theorem aOM:aBD (no_index (a1M O)) (no_index (a1N Z))=some (a1O O Z):=qQ (fun⟨a0,a1⟩ ⟨b0,b1⟩ h1 h2=>by cases h1;cases h2;rfl) (O,Z)
end
@[go_sem] abbrev aBE:Nat×pX:=(238,⟨[.v,.f [(.str,[])]],aBD,[],[0],none⟩)
theorem ES:qG Tryz.prog [wN,B8] (qD [aBo]):=⟨⟨xA,⟨CY,trivial⟩⟩,pO aJu qP,qI⟩
theorem aJA:qE Tryz.prog aBE:=by
 refine qR ES Tryz.func238 (c:=_) rfl (N:=19) (by kernel_rfl) (ts:=[(4,none)]) rfl (fun _ _=>rfl) ?_;intro⟨O,Z⟩ hs hrow;dsimp only[a1M,a1N,a1O,qJ,pN,pV,qC,qM,Nat.reduceAdd] at hs hrow⊢;have hz:=hs;obtain⟨z0,hC0⟩:=aPO.1 hz
 try rw[qZ hC0]
 clear hz hs;unfold L6 at hC0;refine p8 ES ?_;refine pL ?_;refine p8 ES ?_;refine qT ?_;obtain⟨y1,hy1,hC0⟩:=u6 hC0;refine tI 0 (fun s=> ∃v,y1= .inl v∧s=(fun _=>⟨[],[(0,.cells .str Z [])],1,19,1⟩) v) ?_ ?_
 ·refine tH hy1 (fun x=>⟨[(0,(.val (.list (.pair .str (.pair .str .unit))) O,none)),(1,(.val .clo (some (239,[(0,0)])),none)),(7,(.val (.int .i64) (O.length:Int),none)),(8,(.val (.int .i64) x,none))],[(0,.cells .str Z [])],1,19,1⟩) ⟨[0,1,7,8],[(0,0)]⟩ (by rfl) ?_;intro aA w1 n1 hC1 hN1;unfold OG at hC1;dsimp only at hC1⊢;refine p8 ES ?_;refine pL ?_;refine pJ hC1 (fun hC1 hc1=> ?_) (fun hC1 hc1=> ?_)
  ·refine pU (pI (pL (qT ?_)));refine p8 ES ?_;obtain⟨hg1,hC1⟩:=pF hC1;refine p8 ES ?_ (hp:=by exact⟨hg1,(by first|rfl|trivial)⟩)
   refine pJ hC1 (fun hC1 hc2=> ?_) (fun hC1 hc2=> ?_)
   ·refine p8 ES ?_;refine pG (q9 (pT (uX (uW (q9 (pT ?_))))));cases hC1;cases hN1;dsimp only at hC0;cases hC0;exact⟨[(0,0)],by rfl,by rfl,by rfl⟩
   ·refine pU (qW (pI ?_));obtain⟨hg2,hC1⟩:=pF hC1;refine qY ES ?_ (hp:=by exact hg2);cases hC1;exact sG ⟨⟨[0,1,7,8],[(0,0)]⟩,_,by rfl,hN1⟩
  ·refine tG (tD (tK ?_));cases hC1;cases hN1;exact tJ ⟨⟨[],[(0,0)]⟩,_,rfl,by rfl⟩
 ·rintro _ ⟨v,rfl,rfl⟩;dsimp only at hC0⊢;refine tE (pI ?_);refine p8 ES ?_;refine pG ?_;cases hC0;exact⟨[(0,0)],by rfl,by rfl,by rfl⟩
attribute [irreducible] L6
end
noncomputable section
def aBF:Unit:=()
section
abbrev a1P:List pB:=[]
abbrev a1Q:List p9:=[]
@[go_sem] def a1R:pH:=⟨[],[(.val (.list .str) ([([110,101,119]:List UInt8),([102,117,122,122,121]:List UInt8),([116,114,97,110,115,108,97,116,101,100]:List UInt8),([114,101,118,105,101,119,101,100]:List UInt8),([111,98,115,111,108,101,116,101]:List UInt8)]:List (List UInt8)),none)],[]⟩
def aBG:List pB→List p9→Option pH:=qO (V:=Unit) (fun x=>a1P) (fun x=>a1Q) fun x=>a1R
@[go_sem] theorem aON:aBG (no_index a1P) (no_index a1Q)=some a1R:=qQ (fun _ _ h1 h2=>by cases h1;cases h2;rfl) ()
end
@[go_sem] abbrev OH:Nat×pX:=(117,⟨[],aBG,[],[],none⟩)
theorem a1S:qG Tryz.prog [vJ] (qD []):=⟨⟨vT,trivial⟩,qP,qI⟩
theorem a1T:qE Tryz.prog OH:=by
 refine qR a1S Tryz.func117 (c:=_) rfl (N:=2) (by kernel_rfl) (ts:=[(0,none)]) rfl (fun _ _=>rfl) ?_;intro⟨⟩ hs hrow;dsimp only[a1P,a1Q,a1R,qJ,pN,pV,qC,qM,Nat.reduceAdd] at hs hrow⊢;obtain⟨z0,hC0⟩: ∃z,aBF=z:=⟨_,rfl⟩
 try rw[hC0]
 unfold aBF at hC0;refine p8 a1S ?_;refine p8 a1S ?_;refine pG ?_;cases hC0;exact⟨[],by rfl,by rfl,by rfl⟩
def TK:(Int×List UInt8)→(List Int)→Option ((List Int)⊕(List UInt8)):=fun O Z=>(xH (Z,()) O.2).bind fun aA=>some (.inl (Z++rK O.2))
def IM (O:G4):Option (List UInt8):=if List.length O.2.1≤4611686018427387904 then s3 (vI (TK) (AK O) ([]:List Int)) fun Z=>some ((rV Z)) else none
section
variable (O:G4)
abbrev a1U:List pB:=[(.val EA O,none)]
abbrev a1V:List p9:=[]
@[go_sem] def a1W:pH:=⟨[((IM O)).isSome=true],[(.val .str (val (IM O)),none)],[]⟩
def aBH:List pB→List p9→Option pH:=qO (V:=G4) (fun x=>a1U x) (fun x=>a1V) fun x=>a1W x
@[go_sem] theorem aOO:aBH (no_index (a1U O)) (no_index a1V)=some (a1W O):=qQ (fun a0 b0 h1 h2=>by cases h1;cases h2;rfl) O
end
@[go_sem] abbrev aBI:Nat×pX:=(25,⟨[.v],aBH,[],[],none⟩)
theorem IN:qG Tryz.prog [KN,EC] (qD [aAt,GC,IE]):=⟨⟨SQ,⟨IC,trivial⟩⟩,pO aJh (pO IF (pO KV qP)),qI⟩
theorem aJB:qE Tryz.prog aBI:=by
 refine qR IN Tryz.func25 (c:=_) rfl (N:=13) (by kernel_rfl) (ts:=[(2,none)]) rfl (fun _ _=>rfl) ?_;intro O hs hrow;dsimp only[a1U,a1V,a1W,qJ,pN,pV,qC,qM,Nat.reduceAdd] at hs hrow⊢;have hz:=hs;obtain⟨z0,hC0⟩:=aPO.1 hz
 try rw[qZ hC0]
 clear hz hs;unfold IM at hC0;refine p8 IN ?_;refine p8 IN ?_;refine pL ?_;refine p8 IN ?_;refine qT ?_;obtain⟨hgF2,hC0⟩:=pF hC0;obtain⟨y1,hy1,hC0⟩:=u6 hC0;refine YJ aIW YM (by rfl) (by rfl) hgF2 hy1 [(3,(.val .ref (some (0,0)),none))] (fun Z=>[(3,(.val .ref (some (0,0)),none)),(5,(.val .str Z.2,none))]) (fun x=>[.cells sP ((some (0,0)),(x,())) [(1,1)],.grow 5 1 (x.length)]) 1 ⟨[3],[(0,64),(1,65)]⟩ (by rfl) (by rfl) (by rfl) (by rfl) (aQ0 (by rfl)) (fun _=>aQ0 rfl) (fun _=>by rfl) (fun _=>rfl) (by rfl) ?_ ?_
 ·intro Z aA w1 hC1 hN1;refine⟨?_,?_⟩
  ·dsimp only[I7,SO,sF,pN,pV,Nat.reduceAdd,List.toList_toArray];refine qY IN ?_;exact YK ⟨[3,5],[(0,0),(1,1)]⟩ (by rfl)
  ·unfold TK at hC1;dsimp only[pN,pV,Nat.reduceAdd] at hC1⊢;refine qT ?_;obtain⟨aB,hv1,hw1,hC1⟩:=q8 hC1
   try simp only[go_sem] at hw1
   refine qY IN ?_ (hp:=by exact⟨by first|rfl|trivial,(q7 hv1)⟩) (h:=by simp only[go_sem,hw1];rfl)
   refine qW ?_;cases hC1;exact YL ⟨[],[(0,0),(1,1)]⟩ _ rfl (by rfl)
 ·rintro aA rfl;dsimp only[pN,pV,Nat.reduceAdd] at hC0⊢;refine qW (pI ?_);refine p8 IN ?_ (hp:=by first|rfl|trivial)
  refine pG ?_;cases hC0;exact⟨[],by rfl,by rfl,by rfl⟩
attribute [irreducible] IM
def L7 (O:qS):Option Unit:=if pA ((O.1.length:Int)+(O.2.1.length:Int)) then if pA (((O.1.length:Int)+(O.2.1.length:Int))+(O.2.2.1.length:Int)) then if (((decide ((((O.1.length:Int)+(O.2.1.length:Int))+(O.2.2.1.length:Int))≤(6000:Int)))==true)=true→((xI O.2.2.2.1 O.2.2.2.2.2.2.1)).isSome=true) then if (((decide ((((O.1.length:Int)+(O.2.1.length:Int))+(O.2.2.1.length:Int))≤(6000:Int)))==true)=true→((xI O.2.2.2.2.1 ([]:List pP))).isSome=true) then if (((decide ((((O.1.length:Int)+(O.2.1.length:Int))+(O.2.2.1.length:Int))≤(6000:Int)))==true)=true→pA ((val (xI O.2.2.2.1 O.2.2.2.2.2.2.1))+(val (xI O.2.2.2.2.1 ([]:List pP))))) then some (()) else none else none else none else none else none
section
variable (O:qS)
abbrev a1X:List pB:=[(.val rI O,none)]
abbrev a1Y:List p9:=[]
@[go_sem] def a1Z:pH:=⟨[((L7 O)).isSome=true],[(.val .bool ((decide ((((O.1.length:Int)+(O.2.1.length:Int))+(O.2.2.1.length:Int))≤(6000:Int)))&&(decide (((val (xI O.2.2.2.1 O.2.2.2.2.2.2.1))+(val (xI O.2.2.2.2.1 ([]:List pP))))≤(6000:Int)))),none)],[]⟩
def aBJ:List pB→List p9→Option pH:=qO (V:=qS) (fun x=>a1X x) (fun x=>a1Y) fun x=>a1Z x
@[go_sem] theorem aOP:aBJ (no_index (a1X O)) (no_index a1Y)=some (a1Z O):=qQ (fun a0 b0 h1 h2=>by cases h1;cases h2;rfl) O
end
@[go_sem] abbrev aBK:Nat×pX:=(35,⟨[.v],aBJ,[],[],none⟩)
theorem a2a:qG Tryz.prog [rN,vJ,wN,z6] (qD [ZF]):=⟨⟨rP,⟨vT,⟨xA,⟨AL,trivial⟩⟩⟩⟩,pO aAw qP,qI⟩
theorem aJC:qE Tryz.prog aBK:=by
 refine qR a2a Tryz.func35 (c:=_) rfl (N:=27) (by kernel_rfl) (ts:=[(2,none)]) rfl (fun _ _=>rfl) ?_;intro O hs hrow;dsimp only[a1X,a1Y,a1Z,qJ,pN,pV,qC,qM,Nat.reduceAdd] at hs hrow⊢;have hz:=hs;obtain⟨z0,hC0⟩:=aPO.1 hz
 try rw[qZ hC0]
 clear hz hs;unfold L7 at hC0;refine p8 a2a ?_;obtain⟨hg1,hC0⟩:=pF hC0;obtain⟨hg2,hC0⟩:=pF hC0;obtain⟨hg3,hC0⟩:=pF hC0;obtain⟨hg4,hC0⟩:=pF hC0;obtain⟨hg5,hC0⟩:=pF hC0;refine uO a2a ?_ (hp:=by exact⟨hg1,hg2,fun hh=>hh,fun hh=>hh,fun hh=>hh,fun hh=>hh,hg3,fun hh=>hh,fun hh=>hh,hg4,fun hh=>hh,fun hh=>hh,hg5,fun hh=>hh,(fun hh=>rH hh)⟩);refine pG ?_;cases hC0;exact⟨[],by rfl,by rfl,by rfl⟩
attribute [irreducible] L7
def L8 (O:rZ) (Z:rZ):Option Unit:=if (((decide (O.1=Z.1))==true)=true→((vK O.2.1 Z.2.1)).isSome=true) then if ((((decide (O.1=Z.1))&&(val (vK O.2.1 Z.2.1)))==true)=true→((xJ O.2.2.1 Z.2.2.1)).isSome=true) then some (()) else none else none
section
variable (O:rZ) (Z:rZ)
abbrev a2b:List pB:=[(.val wA O,none),(.val wA Z,none)]
abbrev a2c:List p9:=[]
@[go_sem] def a2d:pH:=⟨[((L8 O Z)).isSome=true],[(.val .bool (((decide (O.1=Z.1))&&(val (vK O.2.1 Z.2.1)))&&(val (xJ O.2.2.1 Z.2.2.1))),none)],[]⟩
def aBL:List pB→List p9→Option pH:=qO (V:=(rZ×rZ)) (fun x=>a2b x.1 x.2) (fun x=>a2c) fun x=>a2d x.1 x.2
@[go_sem] theorem aOQ:aBL (no_index (a2b O Z)) (no_index a2c)=some (a2d O Z):=qQ (fun⟨a0,a1⟩ ⟨b0,b1⟩ h1 h2=>by cases h1;cases h2;rfl) (O,Z)
end
@[go_sem] abbrev aBM:Nat×pX:=(46,⟨[.v,.v],aBL,[],[],none⟩)
theorem a2e:qG Tryz.prog [rN,vJ,wN,x9] (qD [ZJ,ZN]):=⟨⟨rP,⟨vT,⟨xA,⟨y5,trivial⟩⟩⟩⟩,pO aAy (pO aAA qP),qI⟩
theorem aJD:qE Tryz.prog aBM:=by
 refine qR a2e Tryz.func46 (c:=_) rfl (N:=24) (by kernel_rfl) (ts:=[(4,none)]) rfl (fun _ _=>rfl) ?_;intro⟨O,Z⟩ hs hrow;dsimp only[a2b,a2c,a2d,qJ,pN,pV,qC,qM,Nat.reduceAdd] at hs hrow⊢;have hz:=hs;obtain⟨z0,hC0⟩:=aPO.1 hz
 try rw[qZ hC0]
 clear hz hs;unfold L8 at hC0;refine p8 a2e ?_;obtain⟨hg1,hC0⟩:=pF hC0;obtain⟨hg2,hC0⟩:=pF hC0;refine p8 a2e ?_ (hp:=by exact⟨fun hh=>hh,fun hh=>hh,fun hh=>hh,fun hh=>hh,hg1,fun hh=>rH hh,fun hh=>hh,fun hh=>hh,fun hh=>hh,fun hh=>hh,hg2,(fun hh=>rH hh)⟩);refine pG ?_;cases hC0;exact⟨[],by rfl,by rfl,by rfl⟩
attribute [irreducible] L8
def TL (O:(List qS)) (Z:(List qS)):Int→Option (Int⊕(Unit⊕Bool)):=fun aA=>if (decide (aA<(O.length:Int)))=true then if 0≤aA∧aA<(O.length:Int) then if 0≤aA∧aA<(Z.length:Int) then (KW (pQ rI O aA) (pQ rI Z aA)).bind fun aB=>if (!(((((((decide (((pQ rI O aA).1)=((pQ rI Z aA).1)))&&(decide (((pQ rI O aA).2.1)=((pQ rI Z aA).2.1))))&&(decide (((pQ rI O aA).2.2.1)=((pQ rI Z aA).2.2.1))))&&(decide (((pQ rI O aA).2.2.2.2.2.1)=((pQ rI Z aA).2.2.2.2.2.1))))&&(val (vK ((pQ rI O aA).2.2.2.1) ((pQ rI Z aA).2.2.2.1))))&&(val (vK ((pQ rI O aA).2.2.2.2.1) ((pQ rI Z aA).2.2.2.2.1))))&&(val (xJ ((pQ rI O aA).2.2.2.2.2.2.1) ((pQ rI Z aA).2.2.2.2.2.2.1)))))=true then some (.inr (.inr (false))) else if pA (aA+(1:Int)) then some (.inl (aA+(1:Int))) else none else none else none else some (.inr (.inl ()))
def AM (O:(List qS)) (Z:(List qS)):Option Bool:=if (!decide ((O.length:Int)=(Z.length:Int)))=true then some (false) else s3 (pY (TL O Z) (0:Int)) fun _=>some (true)
section
variable (O:(List qS)) (Z:(List qS))
abbrev a2f:List pB:=[(.val (.list rI) O,none),(.val (.list rI) Z,none)]
abbrev a2g:List p9:=[]
@[go_sem] def a2h:pH:=⟨[((AM O Z)).isSome=true],[(.val .bool (val (AM O Z)),none)],[]⟩
def aBN:List pB→List p9→Option pH:=qO (V:=((List qS)×(List qS))) (fun x=>a2f x.1 x.2) (fun x=>a2g) fun x=>a2h x.1 x.2
@[go_sem] theorem aOR:aBN (no_index (a2f O Z)) (no_index a2g)=some (a2h O Z):=qQ (fun⟨a0,a1⟩ ⟨b0,b1⟩ h1 h2=>by cases h1;cases h2;rfl) (O,Z)
end
@[go_sem] abbrev aBO:Nat×pX:=(47,⟨[.v,.v],aBN,[],[],none⟩)
theorem D6:qG Tryz.prog [B7,z6] (qD [aAC]):=⟨⟨CW,⟨AL,trivial⟩⟩,pO aJi qP,qI⟩
theorem aJE:qE Tryz.prog aBO:=by
 refine qR D6 Tryz.func47 (c:=_) rfl (N:=27) (by kernel_rfl) (ts:=[(4,none)]) rfl (fun _ _=>rfl) ?_;intro⟨O,Z⟩ hs hrow;dsimp only[a2f,a2g,a2h,qJ,pN,pV,qC,qM,Nat.reduceAdd] at hs hrow⊢;have hz:=hs;obtain⟨z0,hC0⟩:=aPO.1 hz
 try rw[qZ hC0]
 clear hz hs;unfold AM at hC0;refine p8 D6 ?_;refine pL ?_;refine p8 D6 ?_;refine pJ hC0 (fun hC0 hc1=> ?_) (fun hC0 hc1=> ?_)
 ·refine p8 D6 ?_;refine pG (pT ?_);cases hC0;exact⟨[],by rfl,by rfl,by rfl⟩
 ·refine pU (pI (pL ?_));refine p8 D6 ?_;refine qT ?_;obtain⟨y1,hy1,hC0⟩:=u6 hC0;refine tI 0 (fun s=> ∃v,y1= .inl v∧s=(fun _=>⟨[],[],0,27,0⟩) v) ?_ ?_
  ·refine tH hy1 (fun x=>⟨[(0,(.val (.list rI) O,none)),(1,(.val (.list rI) Z,none)),(5,(.val (.int .i64) x,none))],[],0,27,0⟩) ⟨[0,1,5],[]⟩ (by rfl) ?_;intro aA w1 n1 hC1 hN1;unfold TL at hC1;dsimp only at hC1⊢;refine pL ?_;refine p8 D6 ?_;refine pJ hC1 (fun hC1 hc2=> ?_) (fun hC1 hc2=> ?_)
   ·refine pU (pI (pL (qT ?_)));obtain⟨hg1,hC1⟩:=pF hC1;obtain⟨hg2,hC1⟩:=pF hC1;obtain⟨aB,hv3,hw3,hC1⟩:=q8 hC1
    try simp only[go_sem] at hw3
    refine uO D6 ?_ (hp:=by exact⟨hg1,hg2,(q7 hv3)⟩) (h:=by simp only[go_sem,hw3];rfl);refine pJ hC1 (fun hC1 hc3=> ?_) (fun hC1 hc3=> ?_)
    ·refine p8 D6 ?_;refine pG (q9 (pT (uX (uW (q9 (pT ?_))))));cases hC1;cases hN1;dsimp only at hC0;cases hC0;exact⟨[],by rfl,by rfl,by rfl⟩
    ·refine pU (qW (pI ?_));obtain⟨hg4,hC1⟩:=pF hC1;refine qY D6 ?_ (hp:=by exact hg4);cases hC1;exact sG ⟨⟨[0,1,5],[]⟩,_,by rfl,hN1⟩
   ·refine tG (tD (tK ?_));cases hC1;cases hN1;exact tJ ⟨⟨[],[]⟩,_,rfl,by rfl⟩
  ·rintro _ ⟨v,rfl,rfl⟩;dsimp only at hC0⊢;refine tE (pI ?_);refine p8 D6 ?_;refine pG ?_;cases hC0;exact⟨[],by rfl,by rfl,by rfl⟩
attribute [irreducible] AM
end
noncomputable section
def OI (O:(List UInt8)):Int→Option (Int⊕(Unit⊕Bool)):=fun Z=>if (decide (Z<(O.length:Int)))=true then if 0≤Z∧Z<(O.length:Int) then if ((((!((decide ((97:Int)≤(pZ O Z)))&&(decide ((pZ O Z)≤(122:Int)))))&&(!((decide ((48:Int)≤(pZ O Z)))&&(decide ((pZ O Z)≤(57:Int))))))&&(!decide ((pZ O Z)=(45:Int))))&&((decide ((pZ O Z)<(65:Int)))||(decide ((90:Int)<(pZ O Z)))))=true then some (.inr (.inr (false))) else if pA (Z+(1:Int)) then some (.inl (Z+(1:Int))) else none else none else some (.inr (.inl ()))
def D7 (O:(List UInt8)):Option Bool:=s3 (pY (OI O) (0:Int)) fun _=>some (((decide ((1:Int)≤(O.length:Int)))&&(decide ((O.length:Int)≤(40:Int)))))
section
variable (O:(List UInt8))
abbrev a2i:List pB:=[(.val .str O,none)]
abbrev a2j:List p9:=[]
@[go_sem] def a2k:pH:=⟨[((D7 O)).isSome=true],[(.val .bool (val (D7 O)),none)],[]⟩
def aBP:List pB→List p9→Option pH:=qO (V:=(List UInt8)) (fun x=>a2i x) (fun x=>a2j) fun x=>a2k x
@[go_sem] theorem aOS:aBP (no_index (a2i O)) (no_index a2j)=some (a2k O):=qQ (fun a0 b0 h1 h2=>by cases h1;cases h2;rfl) O
end
@[go_sem] abbrev aBQ:Nat×pX:=(114,⟨[.v],aBP,[],[],none⟩)
theorem ET:qG Tryz.prog [rN] (qD [a0u,a0z]):=⟨⟨rP,trivial⟩,pO aAR (pO aAU qP),qI⟩
theorem aJF:qE Tryz.prog aBQ:=by
 refine qR ET Tryz.func114 (c:=_) rfl (N:=42) (by kernel_rfl) (ts:=[(2,none)]) rfl (fun _ _=>rfl) ?_;intro O hs hrow;dsimp only[a2i,a2j,a2k,qJ,pN,pV,qC,qM,Nat.reduceAdd] at hs hrow⊢;have hz:=hs;obtain⟨z0,hC0⟩:=aPO.1 hz
 try rw[qZ hC0]
 clear hz hs;unfold D7 at hC0;refine p8 ET ?_;refine pL ?_;refine p8 ET ?_;refine qT ?_;obtain⟨y1,hy1,hC0⟩:=u6 hC0;refine tI 0 (fun s=> ∃v,y1= .inl v∧s=(fun _=>⟨[(0,(.val .str O,none))],[],0,42,0⟩) v) ?_ ?_
 ·refine tH hy1 (fun x=>⟨[(0,(.val .str O,none)),(3,(.val (.int .i64) x,none))],[],0,42,0⟩) ⟨[0,3],[]⟩ (by rfl) ?_;intro Z w1 n1 hC1 hN1;unfold OI at hC1;dsimp only at hC1⊢;refine pL ?_;refine p8 ET ?_;refine pJ hC1 (fun hC1 hc1=> ?_) (fun hC1 hc1=> ?_)
  ·refine pU (pI (pL (qT ?_)));obtain⟨hg1,hC1⟩:=pF hC1;refine p8 ET ?_ (hp:=by exact hg1);refine p8 ET ?_ (hp:=by exact⟨fun hh=>hh,fun hh=>hh,fun hh=>rH hh,fun hh=>hh,fun hh=>rH hh,fun hh=>hh,fun hh=>hh,fun hh=>hh,fun hh=>hh,fun hG hh=>E9 hG hh,(fun hh=>rH hh)⟩);refine pJ hC1 (fun hC1 hc2=> ?_) (fun hC1 hc2=> ?_)
   ·refine p8 ET ?_;refine pG (q9 (pT (uX (uW (q9 (pT ?_))))));cases hC1;cases hN1;dsimp only at hC0;cases hC0;exact⟨[],by rfl,by rfl,by rfl⟩
   ·refine pU (qW (pI ?_));obtain⟨hg2,hC1⟩:=pF hC1;refine qY ET ?_ (hp:=by exact hg2);cases hC1;exact sG ⟨⟨[0,3],[]⟩,_,by rfl,hN1⟩
  ·refine tG (tD (tK ?_));cases hC1;cases hN1;exact tJ ⟨⟨[0],[]⟩,_,rfl,by rfl⟩
 ·rintro _ ⟨v,rfl,rfl⟩;dsimp only at hC0⊢;refine tE (pI ?_);refine p8 ET ?_ (hp:=by exact⟨fun hh=>hh,fun hh=>hh,(fun hh=>rH hh)⟩);refine pG ?_;cases hC0;exact⟨[],by rfl,by rfl,by rfl⟩
attribute [irreducible] D7
def OJ (O:(List UInt8)):Int→Option (Int⊕(Unit⊕Bool)):=fun Z=>if (decide (Z<(O.length:Int)))=true then if 0≤Z∧Z<(O.length:Int) then if (((((!((decide ((97:Int)≤(pZ O Z)))&&(decide ((pZ O Z)≤(122:Int)))))&&(!((decide ((48:Int)≤(pZ O Z)))&&(decide ((pZ O Z)≤(57:Int))))))&&(!decide ((pZ O Z)=(45:Int))))&&(!decide ((pZ O Z)=(95:Int))))&&(!decide ((pZ O Z)=(46:Int))))=true then some (.inr (.inr (false))) else if pA (Z+(1:Int)) then some (.inl (Z+(1:Int))) else none else none else some (.inr (.inl ()))
def yO (O:(List UInt8)):Option Bool:=if ((((decide ((O.length:Int)<(1:Int)))||(decide ((40:Int)<(O.length:Int))))==false)=true→0≤(0:Int)∧(0:Int)<(O.length:Int)) then if (((decide ((O.length:Int)<(1:Int)))||(decide ((40:Int)<(O.length:Int))))||(!((decide ((97:Int)≤(pZ O (0:Int))))&&(decide ((pZ O (0:Int))≤(122:Int))))))=true then some (false) else s3 (pY (OJ O) (1:Int)) fun _=>some (true) else none
section
variable (O:(List UInt8))
abbrev a2l:List pB:=[(.val .str O,none)]
abbrev a2m:List p9:=[]
@[go_sem] def a2n:pH:=⟨[((yO O)).isSome=true],[(.val .bool (val (yO O)),none)],[]⟩
def aBR:List pB→List p9→Option pH:=qO (V:=(List UInt8)) (fun x=>a2l x) (fun x=>a2m) fun x=>a2n x
@[go_sem] theorem aOT:aBR (no_index (a2l O)) (no_index a2m)=some (a2n O):=qQ (fun a0 b0 h1 h2=>by cases h1;cases h2;rfl) O
end
@[go_sem] abbrev a2o:Nat×pX:=(116,⟨[.v],aBR,[],[],none⟩)
theorem C5:qG Tryz.prog [rN] (qD [a0u,a0z]):=⟨⟨rP,trivial⟩,pO aAR (pO aAU qP),qI⟩
theorem aBS:qE Tryz.prog a2o:=by
 refine qR C5 Tryz.func116 (c:=_) rfl (N:=48) (by kernel_rfl) (ts:=[(2,none)]) rfl (fun _ _=>rfl) ?_;intro O hs hrow;dsimp only[a2l,a2m,a2n,qJ,pN,pV,qC,qM,Nat.reduceAdd] at hs hrow⊢;have hz:=hs;obtain⟨z0,hC0⟩:=aPO.1 hz
 try rw[qZ hC0]
 clear hz hs;unfold yO at hC0;refine p8 C5 ?_;refine pL ?_;obtain⟨hg1,hC0⟩:=pF hC0;refine p8 C5 ?_ (hp:=by exact⟨fun hh=>hh,fun hh=>hh,fun hh=>tP hh,fun hh=>hh,hg1,fun hh=>hh,fun hh=>hh,(fun hh=>tP hh)⟩);refine pJ hC0 (fun hC0 hc1=> ?_) (fun hC0 hc1=> ?_)
 ·refine p8 C5 ?_;refine pG (pT ?_);cases hC0;exact⟨[],by rfl,by rfl,by rfl⟩
 ·refine pU (pI (pL ?_));refine p8 C5 ?_;refine qT ?_;obtain⟨y1,hy1,hC0⟩:=u6 hC0;refine tI 0 (fun s=> ∃v,y1= .inl v∧s=(fun _=>⟨[],[],0,48,0⟩) v) ?_ ?_
  ·refine tH hy1 (fun x=>⟨[(0,(.val .str O,none)),(3,(.val (.int .i64) x,none))],[],0,48,0⟩) ⟨[0,3],[]⟩ (by rfl) ?_;intro Z w1 n1 hC1 hN1;unfold OJ at hC1;dsimp only at hC1⊢;refine pL ?_;refine p8 C5 ?_;refine pJ hC1 (fun hC1 hc2=> ?_) (fun hC1 hc2=> ?_)
   ·refine pU (pI (pL (qT ?_)));obtain⟨hg2,hC1⟩:=pF hC1;refine p8 C5 ?_ (hp:=by exact hg2);refine p8 C5 ?_ (hp:=by exact⟨fun hh=>hh,fun hh=>hh,fun hh=>rH hh,fun hh=>hh,fun hh=>rH hh,fun hh=>hh,fun hh=>rH hh,fun hh=>hh,(fun hh=>rH hh)⟩);refine pJ hC1 (fun hC1 hc3=> ?_) (fun hC1 hc3=> ?_)
    ·refine p8 C5 ?_;refine pG (q9 (pT (uX (uW (q9 (pT ?_))))));cases hC1;cases hN1;dsimp only at hC0;cases hC0;exact⟨[],by rfl,by rfl,by rfl⟩
    ·refine pU (qW (pI ?_));obtain⟨hg3,hC1⟩:=pF hC1;refine qY C5 ?_ (hp:=by exact hg3);cases hC1;exact sG ⟨⟨[0,3],[]⟩,_,by rfl,hN1⟩
   ·refine tG (tD (tK ?_));cases hC1;cases hN1;exact tJ ⟨⟨[],[]⟩,_,rfl,by rfl⟩
  ·rintro _ ⟨v,rfl,rfl⟩;dsimp only at hC0⊢;refine tE (pI ?_);refine p8 C5 ?_;refine pG ?_;cases hC0;exact⟨[],by rfl,by rfl,by rfl⟩
attribute [irreducible] yO
def IP (O:(List UInt8)) (Z:(List UInt8)):Option Unit:=(EL O Z).bind fun aA=>some (())
section
variable (O:(List UInt8)) (Z:(List UInt8))
abbrev a2p:List pB:=[(.val .str O,none),(.val .str Z,none)]
abbrev a2q:List p9:=[]
@[go_sem] def a2r:pH:=⟨[((IP O Z)).isSome=true],[(.val .bool ((decide ((Z.length:Int)≤(O.length:Int)))&&(decide ((pR O (0:Int) (Z.length:Int))=Z))),none)],[]⟩
def aBT:List pB→List p9→Option pH:=qO (V:=((List UInt8)×(List UInt8))) (fun x=>a2p x.1 x.2) (fun x=>a2q) fun x=>a2r x.1 x.2
@[go_sem] theorem aOU:aBT (no_index (a2p O Z)) (no_index a2q)=some (a2r O Z):=qQ (fun⟨a0,a1⟩ ⟨b0,b1⟩ h1 h2=>by cases h1;cases h2;rfl) (O,Z)
end
@[go_sem] abbrev a2s:Nat×pX:=(136,⟨[.v,.v],aBT,[],[],none⟩)
theorem a2t:qG Tryz.prog [] (qD [TE]):=⟨trivial,pO a0F qP,qI⟩
theorem aBU:qE Tryz.prog a2s:=by
 refine qR a2t Tryz.func136 (c:=_) rfl (N:=8) (by kernel_rfl) (ts:=[(4,none)]) rfl (fun _ _=>rfl) ?_;intro⟨O,Z⟩ hs hrow;dsimp only[a2p,a2q,a2r,qJ,pN,pV,qC,qM,Nat.reduceAdd] at hs hrow⊢;have hz:=hs;obtain⟨z0,hC0⟩:=aPO.1 hz
 try rw[qZ hC0]
 clear hz hs;unfold IP at hC0;refine p8 a2t ?_;obtain⟨aA,hv1,hw1,hC0⟩:=q8 hC0
 try simp only[go_sem] at hw1
 refine p8 a2t ?_ (hp:=by exact(q7 hv1)) (h:=by simp only[go_sem,hw1];rfl);refine pG ?_;cases hC0;exact⟨[],by rfl,by rfl,by rfl⟩
attribute [irreducible] IP
def D8 (O:(List UInt8)) (Z:(List UInt8)):Option ((List UInt8)×Bool):=(IH O Z).bind fun aA=>some ((aA.1,aA.2))
section
variable (O:(List UInt8)) (Z:(List UInt8))
abbrev a2u:List pB:=[(.val .str O,none),(.val .str Z,none)]
abbrev a2v:List p9:=[]
@[go_sem] def a2w:pH:=⟨[((D8 O Z)).isSome=true],[(.val .str ((val (D8 O Z)).1),none),(.val .bool ((val (D8 O Z)).2),none)],[]⟩
def aBV:List pB→List p9→Option pH:=qO (V:=((List UInt8)×(List UInt8))) (fun x=>a2u x.1 x.2) (fun x=>a2v) fun x=>a2w x.1 x.2
@[go_sem] theorem aOV:aBV (no_index (a2u O Z)) (no_index a2v)=some (a2w O Z):=qQ (fun⟨a0,a1⟩ ⟨b0,b1⟩ h1 h2=>by cases h1;cases h2;rfl) (O,Z)
end
@[go_sem] abbrev a2x:Nat×pX:=(137,⟨[.v,.v],aBV,[],[],none⟩)
theorem a2y:qG Tryz.prog [] (qD [aAX]):=⟨trivial,pO aJl qP,qI⟩
theorem aBW:qE Tryz.prog a2x:=by
 refine qR a2y Tryz.func137 (c:=_) rfl (N:=11) (by kernel_rfl) (ts:=[(4,none),(5,none)]) rfl (fun _ _=>rfl) ?_;intro⟨O,Z⟩ hs hrow;dsimp only[a2u,a2v,a2w,qJ,pN,pV,qC,qM,Nat.reduceAdd] at hs hrow⊢;have hz:=hs;obtain⟨z0,hC0⟩:=aPO.1 hz
 try rw[qZ hC0]
 clear hz hs;unfold D8 at hC0;refine p8 a2y ?_;obtain⟨aA,hv1,hw1,hC0⟩:=q8 hC0
 try simp only[go_sem] at hw1
 refine p8 a2y ?_ (hp:=by exact(q7 hv1)) (h:=by simp only[go_sem,hw1];rfl);refine pG ?_;cases hC0;exact⟨[],by rfl,by rfl,by rfl⟩
attribute [irreducible] D8
def aBX (O:Int) (Z:(List UInt8)) (aA:Int):Int→Option (Int⊕(Unit⊕Int)):=fun aB=>if (decide (aB<(Z.length:Int)))=true then if 0≤aB∧aB<(Z.length:Int) then if (decide ((pZ Z aB)=aA))=true then some (.inr (.inr (aB))) else if (((!decide (O=(4:Int)))==true)=true→0≤aB∧aB<(Z.length:Int)) then if ((!decide (O=(4:Int)))&&(decide ((pZ Z aB)=(92:Int))))=true then if pA (aB+(1:Int)) then if pA ((aB+(1:Int))+(1:Int)) then some (.inl ((aB+(1:Int))+(1:Int))) else none else none else if pA (aB+(1:Int)) then some (.inl (aB+(1:Int))) else none else none else none else some (.inr (.inl ()))
def GI (O:Int) (Z:(List UInt8)) (aA:Int):Option Int:=if (!((decide ((1:Int)≤O))&&(decide (O≤(4:Int)))))=true then some ((-1:Int)) else s3 (pY (aBX O Z aA) (0:Int)) fun _=>some ((-1:Int))
section
variable (O:Int) (Z:(List UInt8)) (aA:Int)
abbrev a2z:List pB:=[(.val (.int .i64) O,none),(.val .str Z,none),(.val (.int .u8) aA,none)]
abbrev a2A:List p9:=[]
@[go_sem] def a2B:pH:=⟨[((GI O Z aA)).isSome=true],[(.val (.int .i64) (val (GI O Z aA)),none)],[]⟩
def aBY:List pB→List p9→Option pH:=qO (V:=(Int×(List UInt8)×Int)) (fun x=>a2z x.1 x.2.1 x.2.2) (fun x=>a2A) fun x=>a2B x.1 x.2.1 x.2.2
@[go_sem] theorem aOW:aBY (no_index (a2z O Z aA)) (no_index a2A)=some (a2B O Z aA):=qQ (fun⟨a0,a1,a2⟩ ⟨b0,b1,b2⟩ h1 h2=>by cases h1;cases h2;rfl) (O,Z,aA)
end
@[go_sem] abbrev aBZ:Nat×pX:=(139,⟨[.v,.v,.v],aBY,[],[],none⟩)
theorem AN:qG Tryz.prog [rN] (qD [T3]):=⟨⟨rP,trivial⟩,pO a0j qP,qI⟩
theorem aJG:qE Tryz.prog aBZ:=by
 refine qR AN Tryz.func139 (c:=_) rfl (N:=33) (by kernel_rfl) (ts:=[(6,none)]) rfl (fun _ _=>rfl) ?_;intro⟨O,Z,aA⟩ hs hrow;dsimp only[a2z,a2A,a2B,qJ,pN,pV,qC,qM,Nat.reduceAdd] at hs hrow⊢;have hz:=hs;obtain⟨z0,hC0⟩:=aPO.1 hz
 try rw[qZ hC0]
 clear hz hs;unfold GI at hC0;refine p8 AN ?_;refine pL ?_;refine p8 AN ?_;refine pJ hC0 (fun hC0 hc1=> ?_) (fun hC0 hc1=> ?_)
 ·refine p8 AN ?_;refine pG (pT ?_);cases hC0;exact⟨[],by rfl,by rfl,by rfl⟩
 ·refine pU (pI (pL ?_));refine p8 AN ?_;refine qT ?_;obtain⟨y1,hy1,hC0⟩:=u6 hC0;refine tI 0 (fun s=> ∃v,y1= .inl v∧s=(fun _=>⟨[],[],0,33,0⟩) v) ?_ ?_
  ·refine tH hy1 (fun x=>⟨[(0,(.val (.int .i64) O,none)),(1,(.val .str Z,none)),(2,(.val (.int .u8) aA,none)),(7,(.val (.int .i64) x,none))],[],0,33,0⟩) ⟨[0,1,2,7],[]⟩ (by rfl) ?_;intro aB w1 n1 hC1 hN1;unfold aBX at hC1;dsimp only at hC1⊢;refine pL ?_;refine p8 AN ?_;refine pJ hC1 (fun hC1 hc2=> ?_) (fun hC1 hc2=> ?_)
   ·refine pU (pI (pL (qT (pL ?_))));obtain⟨hg1,hC1⟩:=pF hC1;refine p8 AN ?_ (hp:=by exact hg1);refine pJ hC1 (fun hC1 hc3=> ?_) (fun hC1 hc3=> ?_)
    ·refine p8 AN ?_;refine pG (pT (q9 (pT (uX (uW (q9 (pT ?_)))))));cases hC1;cases hN1;dsimp only at hC0;cases hC0;exact⟨[],by rfl,by rfl,by rfl⟩
    ·refine pU (pI ?_);obtain⟨hg2,hC1⟩:=pF hC1;refine p8 AN ?_ (hp:=by exact⟨fun hh=>hh,fun hh=>hh,hg2,fun hh=>hh,(fun hh=>rH hh)⟩);refine pJ hC1 (fun hC1 hc4=> ?_) (fun hC1 hc4=> ?_)
     ·obtain⟨hg3,hC1⟩:=pF hC1;refine qY AN ?_ (hp:=by exact hg3);refine qW (pI ?_);obtain⟨hg4,hC1⟩:=pF hC1;refine qY AN ?_ (hp:=by exact hg4);cases hC1;exact sG ⟨⟨[0,1,2,7],[]⟩,_,by rfl,hN1⟩
     ·refine pU (qW (pI ?_));obtain⟨hg5,hC1⟩:=pF hC1;refine qY AN ?_ (hp:=by exact hg5);cases hC1;exact sG ⟨⟨[0,1,2,7],[]⟩,_,by rfl,hN1⟩
   ·refine tG (tD (tK ?_));cases hC1;cases hN1;exact tJ ⟨⟨[],[]⟩,_,rfl,by rfl⟩
  ·rintro _ ⟨v,rfl,rfl⟩;dsimp only at hC0⊢;refine tE (pI ?_);refine p8 AN ?_;refine pG ?_;cases hC0;exact⟨[],by rfl,by rfl,by rfl⟩
attribute [irreducible] GI
def IQ (O:(List UInt8)) (Z:(List UInt8)):Option (List UInt8):=(L2 O Z).bind fun aA=>some (aA)
section
variable (O:(List UInt8)) (Z:(List UInt8))
abbrev a2C:List pB:=[(.val .str O,none),(.val .str Z,none)]
abbrev a2D:List p9:=[]
@[go_sem] def a2E:pH:=⟨[((IQ O Z)).isSome=true],[(.val .str (val (IQ O Z)),none)],[]⟩
def aB0:List pB→List p9→Option pH:=qO (V:=((List UInt8)×(List UInt8))) (fun x=>a2C x.1 x.2) (fun x=>a2D) fun x=>a2E x.1 x.2
@[go_sem] theorem aOX:aB0 (no_index (a2C O Z)) (no_index a2D)=some (a2E O Z):=qQ (fun⟨a0,a1⟩ ⟨b0,b1⟩ h1 h2=>by cases h1;cases h2;rfl) (O,Z)
end
@[go_sem] abbrev aB1:Nat×pX:=(140,⟨[.v,.v],aB0,[],[],none⟩)
theorem a2F:qG Tryz.prog [] (qD [aAZ]):=⟨trivial,pO aJm qP,qI⟩
theorem aJH:qE Tryz.prog aB1:=by
 refine qR a2F Tryz.func140 (c:=_) rfl (N:=8) (by kernel_rfl) (ts:=[(4,none)]) rfl (fun _ _=>rfl) ?_;intro⟨O,Z⟩ hs hrow;dsimp only[a2C,a2D,a2E,qJ,pN,pV,qC,qM,Nat.reduceAdd] at hs hrow⊢;have hz:=hs;obtain⟨z0,hC0⟩:=aPO.1 hz
 try rw[qZ hC0]
 clear hz hs;unfold IQ at hC0;refine p8 a2F ?_;obtain⟨aA,hv1,hw1,hC0⟩:=q8 hC0
 try simp only[go_sem] at hw1
 refine p8 a2F ?_ (hp:=by exact(q7 hv1)) (h:=by simp only[go_sem,hw1];rfl);refine pG ?_;cases hC0;exact⟨[],by rfl,by rfl,by rfl⟩
attribute [irreducible] IQ
def C6 (O:(List UInt8)):Option Unit:=if (((decide ((O.length:Int)≤(4000:Int)))==true)=true→((OB O)).isSome=true) then some (()) else none
section
variable (O:(List UInt8))
abbrev a2G:List pB:=[(.val .str O,none)]
abbrev a2H:List p9:=[]
@[go_sem] def a2I:pH:=⟨[((C6 O)).isSome=true],[(.val .bool ((decide ((O.length:Int)≤(4000:Int)))&&(Lib.validD O)),none)],[]⟩
def aB2:List pB→List p9→Option pH:=qO (V:=(List UInt8)) (fun x=>a2G x) (fun x=>a2H) fun x=>a2I x
@[go_sem] theorem aOY:aB2 (no_index (a2G O)) (no_index a2H)=some (a2I O):=qQ (fun a0 b0 h1 h2=>by cases h1;cases h2;rfl) O
end
@[go_sem] abbrev OK:Nat×pX:=(161,⟨[.v],aB2,[],[],none⟩)
theorem a2J:qG Tryz.prog [rN] (qD [aA5]):=⟨⟨rP,trivial⟩,pO aJo qP,qI⟩
theorem TM:qE Tryz.prog OK:=by
 refine qR a2J Tryz.func161 (c:=_) rfl (N:=10) (by kernel_rfl) (ts:=[(2,none)]) rfl (fun _ _=>rfl) ?_;intro O hs hrow;dsimp only[a2G,a2H,a2I,qJ,pN,pV,qC,qM,Nat.reduceAdd] at hs hrow⊢;have hz:=hs;obtain⟨z0,hC0⟩:=aPO.1 hz
 try rw[qZ hC0]
 clear hz hs;unfold C6 at hC0;refine p8 a2J ?_;obtain⟨hg1,hC0⟩:=pF hC0;refine p8 a2J ?_ (hp:=by exact⟨fun hh=>hh,hg1,(fun hh=>rH hh)⟩);refine pG ?_;cases hC0;exact⟨[],by rfl,by rfl,by rfl⟩
attribute [irreducible] C6
end
noncomputable section
def L9 (O:(List UInt8)) (Z:(List UInt8)):Option (List UInt8):=(O9 O Z).bind fun aA=>if ((decide ((Z.length:Int)≤(O.length:Int)))&&(decide ((pR O ((O.length:Int)- (Z.length:Int)) (O.length:Int))=Z)))=true then if pA ((O.length:Int)- (Z.length:Int)) then if 0≤(0:Int)∧(0:Int)≤((O.length:Int)- (Z.length:Int))∧((O.length:Int)- (Z.length:Int))≤(O.length:Int) then some ((pR O (0:Int) ((O.length:Int)- (Z.length:Int)))) else none else none else some (O)
section
variable (O:(List UInt8)) (Z:(List UInt8))
abbrev a2K:List pB:=[(.val .str O,none),(.val .str Z,none)]
abbrev a2L:List p9:=[]
@[go_sem] def a2M:pH:=⟨[((L9 O Z)).isSome=true],[(.val .str (val (L9 O Z)),none)],[]⟩
def aB3:List pB→List p9→Option pH:=qO (V:=((List UInt8)×(List UInt8))) (fun x=>a2K x.1 x.2) (fun x=>a2L) fun x=>a2M x.1 x.2
@[go_sem] theorem aOZ:aB3 (no_index (a2K O Z)) (no_index a2L)=some (a2M O Z):=qQ (fun⟨a0,a1⟩ ⟨b0,b1⟩ h1 h2=>by cases h1;cases h2;rfl) (O,Z)
end
@[go_sem] abbrev aB4:Nat×pX:=(146,⟨[.v,.v],aB3,[],[],none⟩)
theorem OL:qG Tryz.prog [rN] (qD [aA1]):=⟨⟨rP,trivial⟩,pO aJn qP,qI⟩
theorem aJI:qE Tryz.prog aB4:=by
 refine qR OL Tryz.func146 (c:=_) rfl (N:=16) (by kernel_rfl) (ts:=[(4,none)]) rfl (fun _ _=>rfl) ?_;intro⟨O,Z⟩ hs hrow;dsimp only[a2K,a2L,a2M,qJ,pN,pV,qC,qM,Nat.reduceAdd] at hs hrow⊢;have hz:=hs;obtain⟨z0,hC0⟩:=aPO.1 hz
 try rw[qZ hC0]
 clear hz hs;unfold L9 at hC0;refine p8 OL ?_;refine pL ?_;obtain⟨aA,hv1,hw1,hC0⟩:=q8 hC0
 try simp only[go_sem] at hw1
 refine p8 OL ?_ (hp:=by exact(q7 hv1)) (h:=by simp only[go_sem,hw1];rfl);refine pJ hC0 (fun hC0 hc1=> ?_) (fun hC0 hc1=> ?_)
 ·obtain⟨hg2,hC0⟩:=pF hC0;obtain⟨hg3,hC0⟩:=pF hC0;refine p8 OL ?_ (hp:=by exact⟨hg2,hg3⟩);refine pG (pT ?_);cases hC0;exact⟨[],by rfl,by rfl,by rfl⟩
 ·refine pU (pI ?_);refine p8 OL ?_;refine pG ?_;cases hC0;exact⟨[],by rfl,by rfl,by rfl⟩
attribute [irreducible] L9
def LA (O:(List UInt8)):Option ((List UInt8)×(List UInt8)×Bool):=(II (1:Int) O (61:Int)).bind fun Z=>if (decide (Z<(0:Int)))=true then some ((([]:List UInt8),([]:List UInt8),false)) else if 0≤(0:Int)∧(0:Int)≤Z∧Z≤(O.length:Int) then if pA (Z+(1:Int)) then if 0≤(Z+(1:Int))∧(Z+(1:Int))≤(O.length:Int)∧(O.length:Int)≤(O.length:Int) then if (((decide ((0:Int)<((pR O (0:Int) Z).length:Int)))==true)=true→pA (((pR O (0:Int) Z).length:Int)- (1:Int))) then if (((decide ((0:Int)<((pR O (0:Int) Z).length:Int)))==true)=true→0≤(((pR O (0:Int) Z).length:Int)- (1:Int))∧(((pR O (0:Int) Z).length:Int)- (1:Int))<((pR O (0:Int) Z).length:Int)) then rC (σ:=(List UInt8)) (if ((decide ((0:Int)<((pR O (0:Int) Z).length:Int)))&&(decide ((pZ (pR O (0:Int) Z) (((pR O (0:Int) Z).length:Int)- (1:Int)))=(32:Int))))=true then if pA (((pR O (0:Int) Z).length:Int)- (1:Int)) then if 0≤(0:Int)∧(0:Int)≤(((pR O (0:Int) Z).length:Int)- (1:Int))∧(((pR O (0:Int) Z).length:Int)- (1:Int))≤((pR O (0:Int) Z).length:Int) then some ((pR (pR O (0:Int) Z) (0:Int) (((pR O (0:Int) Z).length:Int)- (1:Int)))) else none else none else some ((pR O (0:Int) Z)) ) fun aA=>(D3 (pR O (Z+(1:Int)) (O.length:Int)) ([32]:List UInt8)).bind fun aB=>if ((decide ((([32]:List UInt8).length:Int)≤((pR O (Z+(1:Int)) (O.length:Int)).length:Int)))&&(decide ((pR (pR O (Z+(1:Int)) (O.length:Int)) (0:Int) (([32]:List UInt8).length:Int))=([32]:List UInt8))))=true then if 0≤(1:Int)∧(1:Int)≤((pR O (Z+(1:Int)) (O.length:Int)).length:Int)∧((pR O (Z+(1:Int)) (O.length:Int)).length:Int)≤((pR O (Z+(1:Int)) (O.length:Int)).length:Int) then some ((aA,(pR (pR O (Z+(1:Int)) (O.length:Int)) (1:Int) ((pR O (Z+(1:Int)) (O.length:Int)).length:Int)),true)) else none else some ((aA,(pR O (Z+(1:Int)) (O.length:Int)),true)) else none else none else none else none else none
attribute [irreducible] LA
def EU (O:Int) (Z:Int) (aA:Bool):Option (List UInt8):=rC (σ:=(List UInt8)) (if (decide (O=(1:Int)))=true then some (([61,58,35,33]:List UInt8)) else if (decide (O=(2:Int)))=true then some (([34]:List UInt8)) else if (decide (O=(3:Int)))=true then some (([34,123,125]:List UInt8)) else some (([]:List UInt8)) ) fun aB=>if (decide (Z=(92:Int)))=true then some (([92,92]:List UInt8)) else if (decide (Z=(10:Int)))=true then some (([92,110]:List UInt8)) else if (decide (Z=(13:Int)))=true then some (([92,114]:List UInt8)) else if (decide (Z=(9:Int)))=true then some (([92,116]:List UInt8)) else rC (σ:=Bool) (if (decide ((0:Int)≤(uF aB Z)))=true then some ((decide ((0:Int)≤(uF aB Z)))) else some ((((decide (O=(1:Int)))&&aA)&&(decide (Z=(32:Int))))) ) fun aC=>if aC=true then if ((([92]:List UInt8)++(rV ([Z]:List Int))).length:Int)≤9223372036854775807 then some ((([92]:List UInt8)++(rV ([Z]:List Int)))) else none else if (((decide (Z<(32:Int)))||(decide (Z=(127:Int))))&&(decide (O=(3:Int))))=true then (OC Z (4:Int)).bind fun aD=>if ((([92,117]:List UInt8)++((IA ([48]:List UInt8) ((4:Int)- ((vS (IntKind.wrap .i64 Z) (16:Int)).length:Int)))++(vS (IntKind.wrap .i64 Z) (16:Int)))).length:Int)≤9223372036854775807 then some ((([92,117]:List UInt8)++((IA ([48]:List UInt8) ((4:Int)- ((vS (IntKind.wrap .i64 Z) (16:Int)).length:Int)))++(vS (IntKind.wrap .i64 Z) (16:Int))))) else none else if ((decide (Z<(32:Int)))||(decide (Z=(127:Int))))=true then (OC Z (2:Int)).bind fun aE=>if ((([92,120]:List UInt8)++((IA ([48]:List UInt8) ((2:Int)- ((vS (IntKind.wrap .i64 Z) (16:Int)).length:Int)))++(vS (IntKind.wrap .i64 Z) (16:Int)))).length:Int)≤9223372036854775807 then some ((([92,120]:List UInt8)++((IA ([48]:List UInt8) ((2:Int)- ((vS (IntKind.wrap .i64 Z) (16:Int)).length:Int)))++(vS (IntKind.wrap .i64 Z) (16:Int))))) else none else some ((rV ([Z]:List Int)))
section
variable (O:Int) (Z:Int) (aA:Bool)
abbrev a2N:List pB:=[(.val (.int .i64) O,none),(.val (.int .u8) Z,none),(.val .bool aA,none)]
abbrev a2O:List p9:=[]
@[go_sem] def a2P:pH:=⟨[((EU O Z aA)).isSome=true],[(.val .str (val (EU O Z aA)),none)],[]⟩
def aB5:List pB→List p9→Option pH:=qO (V:=(Int×Int×Bool)) (fun x=>a2N x.1 x.2.1 x.2.2) (fun x=>a2O) fun x=>a2P x.1 x.2.1 x.2.2
@[go_sem] theorem aO0:aB5 (no_index (a2N O Z aA)) (no_index a2O)=some (a2P O Z aA):=qQ (fun⟨a0,a1,a2⟩ ⟨b0,b1,b2⟩ h1 h2=>by cases h1;cases h2;rfl) (O,Z,aA)
end
@[go_sem] abbrev aB6:Nat×pX:=(166,⟨[.v,.v,.v],aB5,[],[],none⟩)
theorem vB:qG Tryz.prog [CZ,rN,CX] (qD [NZ,aA8,aBa]):=⟨⟨G8,⟨rP,⟨G5,trivial⟩⟩⟩,pO SX (pO aJp (pO aJq qP)),qI⟩
theorem aJJ:qE Tryz.prog aB6:=by
 refine qR vB Tryz.func166 (c:=_) rfl (N:=64) (by kernel_rfl) (ts:=[(6,none)]) rfl (fun _ _=>rfl) ?_;intro⟨O,Z,aA⟩ hs hrow;dsimp only[a2N,a2O,a2P,qJ,pN,pV,qC,qM,Nat.reduceAdd] at hs hrow⊢;have hz:=hs;obtain⟨z0,hC0⟩:=aPO.1 hz
 try rw[qZ hC0]
 clear hz hs;unfold EU at hC0;refine p8 vB ?_;refine p8 vB ?_;refine pL ?_;refine p8 vB ?_;obtain⟨aB,hC1,hC0⟩:=pC hC0;refine yK (fun s=>s=(fun x=>⟨[(0,(.val (.int .i64) O,none)),(1,(.val (.int .u8) Z,none)),(2,(.val .bool aA,none)),(7,(.val .str x,none))],[],0,64,0⟩) aB) ?_ ?_
 ·refine qT ?_;refine p8 vB ?_;refine pJ hC1 (fun hC1 hc1=> ?_) (fun hC1 hc1=> ?_)
  ·refine qY vB ?_;refine qW ?_;cases hC1;exact sN ⟨⟨[0,1,2,7],[]⟩,by rfl⟩
  ·refine p8 vB ?_;refine pJ hC1 (fun hC1 hc2=> ?_) (fun hC1 hc2=> ?_)
   ·refine qY vB ?_;refine qW ?_;cases hC1;exact sN ⟨⟨[0,1,2,7],[]⟩,by rfl⟩
   ·refine p8 vB ?_;refine pJ hC1 (fun hC1 hc3=> ?_) (fun hC1 hc3=> ?_)
    ·refine qY vB ?_;refine qW ?_;cases hC1;exact sN ⟨⟨[0,1,2,7],[]⟩,by rfl⟩
    ·refine pU (qW ?_);cases hC1;exact sN ⟨⟨[0,1,2,7],[]⟩,by rfl⟩
 ·rintro _ rfl;dsimp only at hC0⊢;refine pI (pL (qT ?_));refine p8 vB ?_;refine pJ hC0 (fun hC0 hc4=> ?_) (fun hC0 hc4=> ?_)
  ·refine p8 vB ?_;refine pG (q9 (pT ?_));cases hC0;exact⟨[],by rfl,by rfl,by rfl⟩
  ·refine p8 vB ?_;refine pJ hC0 (fun hC0 hc5=> ?_) (fun hC0 hc5=> ?_)
   ·refine p8 vB ?_;refine pG (q9 (pT ?_));cases hC0;exact⟨[],by rfl,by rfl,by rfl⟩
   ·refine p8 vB ?_;refine pJ hC0 (fun hC0 hc6=> ?_) (fun hC0 hc6=> ?_)
    ·refine p8 vB ?_;refine pG (q9 (pT ?_));cases hC0;exact⟨[],by rfl,by rfl,by rfl⟩
    ·refine p8 vB ?_;refine pJ hC0 (fun hC0 hc7=> ?_) (fun hC0 hc7=> ?_)
     ·refine p8 vB ?_;refine pG (q9 (pT ?_));cases hC0;exact⟨[],by rfl,by rfl,by rfl⟩
     ·refine pL ?_;refine p8 vB ?_;obtain⟨aC,hC1,hC0⟩:=pC hC0;refine yK (fun s=>s=(fun x=>⟨[(0,(.val (.int .i64) O,none)),(1,(.val (.int .u8) Z,none)),(27,(.val .bool x,none))],[],0,64,0⟩) aC) ?_ ?_
      ·refine pJ hC1 (fun hC1 hc8=> ?_) (fun hC1 hc8=> ?_)
       ·refine pU ?_;cases hC1;exact sN ⟨⟨[0,1,27],[]⟩,by rfl⟩
       ·refine qY vB ?_ (hp:=by exact⟨fun hh=>rH hh,fun hh=>hh,(fun hh=>rH hh)⟩);cases hC1;exact sN ⟨⟨[0,1,27],[]⟩,by rfl⟩
      ·rintro _ rfl;dsimp only at hC0⊢;refine pI ?_;refine pJ hC0 (fun hC0 hc9=> ?_) (fun hC0 hc9=> ?_)
       ·obtain⟨hg1,hC0⟩:=pF hC0;refine p8 vB ?_ (hp:=by exact hg1);refine pG (q9 (pT ?_));cases hC0;exact⟨[],by rfl,by rfl,by rfl⟩
       ·refine p8 vB ?_ (hp:=by exact⟨fun hh=>hh,(fun hh=>rH hh)⟩);refine pJ hC0 (fun hC0 hc10=> ?_) (fun hC0 hc10=> ?_)
        ·obtain⟨aD,hv2,hw2,hC0⟩:=q8 hC0
         try simp only[go_sem] at hw2
         obtain⟨hg3,hC0⟩:=pF hC0;refine p8 vB ?_ (hp:=by exact⟨q7 hv2,hg3⟩) (h:=by simp only[go_sem,hw2];rfl);refine pG (q9 (pT ?_));cases hC0;exact⟨[],by rfl,by rfl,by rfl⟩
        ·refine p8 vB ?_;refine pJ hC0 (fun hC0 hc11=> ?_) (fun hC0 hc11=> ?_)
         ·obtain⟨aE,hv4,hw4,hC0⟩:=q8 hC0
          try simp only[go_sem] at hw4
          obtain⟨hg5,hC0⟩:=pF hC0;refine p8 vB ?_ (hp:=by exact⟨q7 hv4,hg5⟩) (h:=by simp only[go_sem,hw4];rfl);refine pG (q9 (pT ?_));cases hC0;exact⟨[],by rfl,by rfl,by rfl⟩
         ·refine pU (qW (pI ?_));refine p8 vB ?_;refine pG ?_;cases hC0;exact⟨[],by rfl,by rfl,by rfl⟩
attribute [irreducible] EU
def LB (O:(List Int)):((List UInt8)×Int)→Option (((List UInt8)×Int)⊕(List UInt8)):=fun(Z,aA)=>if (decide (aA<(O.length:Int)))=true then if 0≤aA∧aA<(O.length:Int) then if (((decide ((0:Int)≤(pQ (.int .i64) O aA)))&&(decide ((pQ (.int .i64) O aA)≤(1114111:Int))))&&((decide ((pQ (.int .i64) O aA)<(55296:Int)))||(decide ((57343:Int)<(pQ (.int .i64) O aA)))))=true then if 0≤aA∧aA<(O.length:Int) then (zW (pQ (.int .i64) O aA)).bind fun aB=>if ((Z++aB).length:Int)≤9223372036854775807 then if pA (aA+(1:Int)) then some (.inl ((Z++aB),(aA+(1:Int)))) else none else none else none else (zW (65533:Int)).bind fun aC=>if ((Z++aC).length:Int)≤9223372036854775807 then if pA (aA+(1:Int)) then some (.inl ((Z++aC),(aA+(1:Int)))) else none else none else none else some (.inr Z)
def IR (O:(List Int)):Option (List UInt8):=rC (pY (LB O) (([]:List UInt8),(0:Int))) fun Z=>some (Z)
section
variable (O:(List Int))
abbrev a2Q:List pB:=[(.val (.list (.int .i64)) O,none)]
abbrev a2R:List p9:=[]
@[go_sem] def a2S:pH:=⟨[((IR O)).isSome=true],[(.val .str (val (IR O)),none)],[]⟩
def aB7:List pB→List p9→Option pH:=qO (V:=(List Int)) (fun x=>a2Q x) (fun x=>a2R) fun x=>a2S x
@[go_sem] theorem aO1:aB7 (no_index (a2Q O)) (no_index a2R)=some (a2S O):=qQ (fun a0 b0 h1 h2=>by cases h1;cases h2;rfl) O
end
@[go_sem] abbrev aB8:Nat×pX:=(171,⟨[.v],aB7,[],[],none⟩)
theorem C7:qG Tryz.prog [wT,G9] (qD [a08,a1d]):=⟨⟨xG,⟨KR,trivial⟩⟩,pO aBd (pO aBf qP),qI⟩
theorem aJK:qE Tryz.prog aB8:=by
 refine qR C7 Tryz.func171 (c:=_) rfl (N:=27) (by kernel_rfl) (ts:=[(2,none)]) rfl (fun _ _=>rfl) ?_;intro O hs hrow;dsimp only[a2Q,a2R,a2S,qJ,pN,pV,qC,qM,Nat.reduceAdd] at hs hrow⊢;have hz:=hs;obtain⟨z0,hC0⟩:=aPO.1 hz
 try rw[qZ hC0]
 clear hz hs;unfold IR at hC0;refine p8 C7 ?_;refine p8 C7 ?_;refine pL ?_;refine p8 C7 ?_;refine qT ?_;obtain⟨Z,hy1,hC0⟩:=pC hC0;refine tI 0 (fun s=>s=(fun x=>⟨[(3,(.val .str x,none))],[],0,27,0⟩) Z) ?_ ?_
 ·refine tH hy1 (fun x=>⟨[(0,(.val (.list (.int .i64)) O,none)),(3,(.val .str x.1,none)),(4,(.val (.int .i64) x.2,none))],[],0,27,0⟩) ⟨[0,3,4],[]⟩ (by rfl) ?_;intro x1 w1 n1 hC1 hN1;obtain⟨aA,aB⟩:=x1;unfold LB at hC1;dsimp only at hC1⊢;refine pL ?_;refine p8 C7 ?_;refine pJ hC1 (fun hC1 hc1=> ?_) (fun hC1 hc1=> ?_)
  ·refine pU (pI (pL (qT ?_)));obtain⟨hg1,hC1⟩:=pF hC1;refine p8 C7 ?_ (hp:=by exact hg1);refine pJ hC1 (fun hC1 hc2=> ?_) (fun hC1 hc2=> ?_)
   ·obtain⟨hg2,hC1⟩:=pF hC1;obtain⟨aC,hv3,hw3,hC1⟩:=q8 hC1
    try simp only[go_sem] at hw3
    obtain⟨hg4,hC1⟩:=pF hC1;refine qY C7 ?_ (hp:=by exact⟨hg2,q7 hv3,hg4⟩) (h:=by simp only[go_sem,hw3];rfl);refine qW (pI ?_);obtain⟨hg5,hC1⟩:=pF hC1;refine qY C7 ?_ (hp:=by exact hg5);cases hC1;exact sG ⟨⟨[0,3,4],[]⟩,_,by rfl,hN1⟩
   ·obtain⟨aD,hv6,hw6,hC1⟩:=q8 hC1
    try simp only[go_sem] at hw6
    obtain⟨hg7,hC1⟩:=pF hC1;refine qY C7 ?_ (hp:=by exact⟨q7 hv6,hg7⟩) (h:=by simp only[go_sem,hw6];rfl);refine qW (pI ?_);obtain⟨hg8,hC1⟩:=pF hC1;refine qY C7 ?_ (hp:=by exact hg8);cases hC1;exact sG ⟨⟨[0,3,4],[]⟩,_,by rfl,hN1⟩
  ·refine tG (tD (tK ?_));cases hC1;cases hN1;exact tJ ⟨⟨[3],[]⟩,by rfl⟩
 ·rintro _ rfl;dsimp only at hC0⊢;refine tE (pI ?_);refine p8 C7 ?_;refine pG ?_;cases hC0;exact⟨[],by rfl,by rfl,by rfl⟩
attribute [irreducible] IR
end
noncomputable section
def TN (O:Int) (Z:Int) (aA:Bool):Option (List UInt8):=if (decide (O=(4:Int)))=true then if False then some ((SP Z)) else none else if (decide (Z=(10:Int)))=true then some (([92,110]:List UInt8)) else if (decide (Z=(13:Int)))=true then some (([92,114]:List UInt8)) else if (decide (Z=(9:Int)))=true then some (([92,116]:List UInt8)) else rC (σ:=Bool) (if (decide (Z=(92:Int)))=true then some ((decide (Z=(92:Int)))) else if (((decide (O=(1:Int)))==true)=true→((C1 Z ([61,58,35,33]:List UInt8))).isSome=true) then if ((decide (O=(1:Int)))&&(val (C1 Z ([61,58,35,33]:List UInt8))))=true then some (((decide (O=(1:Int)))&&(val (C1 Z ([61,58,35,33]:List UInt8))))) else if (((decide (O=(1:Int)))&&aA)&&(decide (Z=(32:Int))))=true then some ((((decide (O=(1:Int)))&&aA)&&(decide (Z=(32:Int))))) else if ((!decide (O=(1:Int)))&&(decide (Z=(34:Int))))=true then some (((!decide (O=(1:Int)))&&(decide (Z=(34:Int))))) else if (((decide (O=(3:Int)))==true)=true→((C1 Z ([123,125]:List UInt8))).isSome=true) then some (((decide (O=(3:Int)))&&(val (C1 Z ([123,125]:List UInt8))))) else none else none ) fun aB=>if aB=true then if ((([92]:List UInt8)++(rV ([Z]:List Int))).length:Int)≤9223372036854775807 then some ((([92]:List UInt8)++(rV ([Z]:List Int)))) else none else if (((decide (Z<(32:Int)))||(decide (Z=(127:Int))))&&(decide (O=(3:Int))))=true then (a04 (IntKind.wrap .i64 Z)).bind fun aC=>if ((([92,117,48,48]:List UInt8)++(rV ([(pZ ([48,49,50,51,52,53,54,55,56,57,97,98,99,100,101,102]:List UInt8) (IntKind.wrap .i64 (Int.tdiv (IntKind.wrap .i64 Z) (16:Int)))),(pZ ([48,49,50,51,52,53,54,55,56,57,97,98,99,100,101,102]:List UInt8) (Int.tmod (IntKind.wrap .i64 Z) (16:Int)))]:List Int))).length:Int)≤9223372036854775807 then some ((([92,117,48,48]:List UInt8)++(rV ([(pZ ([48,49,50,51,52,53,54,55,56,57,97,98,99,100,101,102]:List UInt8) (IntKind.wrap .i64 (Int.tdiv (IntKind.wrap .i64 Z) (16:Int)))),(pZ ([48,49,50,51,52,53,54,55,56,57,97,98,99,100,101,102]:List UInt8) (Int.tmod (IntKind.wrap .i64 Z) (16:Int)))]:List Int)))) else none else if ((decide (Z<(32:Int)))||(decide (Z=(127:Int))))=true then (a04 (IntKind.wrap .i64 Z)).bind fun aD=>if ((([92,120]:List UInt8)++(rV ([(pZ ([48,49,50,51,52,53,54,55,56,57,97,98,99,100,101,102]:List UInt8) (IntKind.wrap .i64 (Int.tdiv (IntKind.wrap .i64 Z) (16:Int)))),(pZ ([48,49,50,51,52,53,54,55,56,57,97,98,99,100,101,102]:List UInt8) (Int.tmod (IntKind.wrap .i64 Z) (16:Int)))]:List Int))).length:Int)≤9223372036854775807 then some ((([92,120]:List UInt8)++(rV ([(pZ ([48,49,50,51,52,53,54,55,56,57,97,98,99,100,101,102]:List UInt8) (IntKind.wrap .i64 (Int.tdiv (IntKind.wrap .i64 Z) (16:Int)))),(pZ ([48,49,50,51,52,53,54,55,56,57,97,98,99,100,101,102]:List UInt8) (Int.tmod (IntKind.wrap .i64 Z) (16:Int)))]:List Int)))) else none else some ((rV ([Z]:List Int)))
attribute [irreducible] TN
def LC:((List UInt8)×(List Int))→Option (((List UInt8)×(List Int))⊕(List Int)):=fun(O,Z)=>if (decide ((0:Int)<(O.length:Int)))=true then (GG O).bind fun aA=>if (Z.length+([aA.1]:List Int).length)*8≤140737488355328 then if 0≤aA.2∧aA.2≤(O.length:Int)∧(O.length:Int)≤(O.length:Int) then some (.inl ((pR O aA.2 (O.length:Int)),(Z++([aA.1]:List Int)))) else none else none else some (.inr Z)
def GJ (O:(List UInt8)):Option (List Int):=rC (pY LC (O,([]:List Int))) fun Z=>some (Z)
section
variable (O:(List UInt8))
abbrev a2T:List pB:=[(.val .str O,none)]
abbrev a2U:List p9:=[]
@[go_sem] def a2V:pH:=⟨[((GJ O)).isSome=true],[(.val (.list (.int .i64)) (val (GJ O)),some 0)],[.grow 3 1 ((val (GJ O)).length)]⟩
def aB9:List pB→List p9→Option pH:=qO (V:=(List UInt8)) (fun x=>a2T x) (fun x=>a2U) fun x=>a2V x
@[go_sem] theorem aO2:aB9 (no_index (a2T O)) (no_index a2U)=some (a2V O):=qQ (fun a0 b0 h1 h2=>by cases h1;cases h2;rfl) O
end
@[go_sem] abbrev aCa:Nat×pX:=(172,⟨[.v],aB9,[],[],none⟩)
theorem GK:qG Tryz.prog [rN,G9] (qD [aBh]):=⟨⟨rP,⟨KR,trivial⟩⟩,pO aJr qP,qI⟩
theorem aJL:qE Tryz.prog aCa:=by
 refine qR GK Tryz.func172 (c:=_) rfl (N:=22) (by kernel_rfl) (ts:=[(2,none)]) rfl (fun _ _=>rfl) ?_;intro O hs hrow;dsimp only[a2T,a2U,a2V,qJ,pN,pV,qC,qM,Nat.reduceAdd] at hs hrow⊢;have hz:=hs;obtain⟨z0,hC0⟩:=aPO.1 hz
 try rw[qZ hC0]
 clear hz hs;unfold GJ at hC0;refine p8 GK ?_;refine p8 GK ?_;refine pL (qT ?_);obtain⟨Z,hy1,hC0⟩:=pC hC0;refine tI 0 (fun s=>s=(fun x=>⟨[(3,(.val (.list (.int .i64)) x,some 0))],[(0,.grow 3 1 (x.length))],1,22,0⟩) Z) ?_ ?_
 ·refine tH hy1 (fun x=>⟨[(0,(.val .str x.1,none)),(3,(.val (.list (.int .i64)) x.2,some 0))],[(0,.grow 3 1 (x.2.length))],1,22,0⟩) ⟨[0,3],[(0,32)]⟩ (by rfl) ?_;intro x1 w1 n1 hC1 hN1;obtain⟨aA,aB⟩:=x1;unfold LC at hC1;dsimp only at hC1⊢;refine pL ?_;refine p8 GK ?_;refine pJ hC1 (fun hC1 hc1=> ?_) (fun hC1 hc1=> ?_)
  ·refine pU (pI (qT ?_));obtain⟨aC,hv1,hw1,hC1⟩:=q8 hC1
   try simp only[go_sem] at hw1
   refine p8 GK ?_ (hp:=by exact(q7 hv1)) (h:=by simp only[go_sem,hw1];rfl);obtain⟨hg2,hC1⟩:=pF hC1;refine p8 GK ?_ (hp:=by exact⟨by first|rfl|trivial,hg2⟩)
   obtain⟨hg3,hC1⟩:=pF hC1;refine qY GK ?_ (hp:=by exact hg3);refine qW ?_;cases hC1;exact sG ⟨⟨[0,3],[(0,0)]⟩,_,by rfl,hN1⟩
  ·refine tG (tD (tK ?_));cases hC1;cases hN1;exact tJ ⟨⟨[3],[(0,0)]⟩,by rfl⟩
 ·rintro _ rfl;dsimp only at hC0⊢;refine tE (pI ?_);refine p8 GK ?_;refine pG ?_;cases hC0;exact⟨[(0,0)],by rfl,by rfl,by rfl⟩
attribute [irreducible] GJ
def C8 (O:(List (List UInt8))) (Z:(List UInt8)):Option Bool:=(BB O Z).bind fun aA=>some ((decide ((0:Int)≤aA)))
section
variable (O:(List (List UInt8))) (Z:(List UInt8))
abbrev a2W:List pB:=[(.val (.list .str) O,none),(.val .str Z,none)]
abbrev a2X:List p9:=[]
@[go_sem] def a2Y:pH:=⟨[((C8 O Z)).isSome=true],[(.val .bool (val (C8 O Z)),none)],[]⟩
def aCb:List pB→List p9→Option pH:=qO (V:=((List (List UInt8))×(List UInt8))) (fun x=>a2W x.1 x.2) (fun x=>a2X) fun x=>a2Y x.1 x.2
@[go_sem] theorem aO3:aCb (no_index (a2W O Z)) (no_index a2X)=some (a2Y O Z):=qQ (fun⟨a0,a1⟩ ⟨b0,b1⟩ h1 h2=>by cases h1;cases h2;rfl) (O,Z)
end
@[go_sem] abbrev aCc:Nat×pX:=(186,⟨[.v,.v],aCb,[],[],none⟩)
theorem a2Z:qG Tryz.prog [] (qD [TF]):=⟨trivial,pO aA3 qP,qI⟩
theorem aJM:qE Tryz.prog aCc:=by
 refine qR a2Z Tryz.func186 (c:=_) rfl (N:=9) (by kernel_rfl) (ts:=[(4,none)]) rfl (fun _ _=>rfl) ?_;intro⟨O,Z⟩ hs hrow;dsimp only[a2W,a2X,a2Y,qJ,pN,pV,qC,qM,Nat.reduceAdd] at hs hrow⊢;have hz:=hs;obtain⟨z0,hC0⟩:=aPO.1 hz
 try rw[qZ hC0]
 clear hz hs;unfold C8 at hC0;refine p8 a2Z ?_;obtain⟨aA,hv1,hw1,hC0⟩:=q8 hC0
 try simp only[go_sem] at hw1
 refine p8 a2Z ?_ (hp:=by exact(q7 hv1)) (h:=by simp only[go_sem,hw1];rfl);refine pG ?_;cases hC0;exact⟨[],by rfl,by rfl,by rfl⟩
attribute [irreducible] C8
def GL (O:(List pP)) (Z:(List UInt8)):Option Int:=(L5 O Z).bind fun aA=>some (aA)
section
variable (O:(List pP)) (Z:(List UInt8))
abbrev a27:List pB:=[(.val (.list (.pair .str (.pair .str .unit))) O,none),(.val .str Z,none)]
abbrev a28:List p9:=[]
@[go_sem] def a29:pH:=⟨[((GL O Z)).isSome=true],[(.val (.int .i64) (val (GL O Z)),none)],[]⟩
def aCd:List pB→List p9→Option pH:=qO (V:=((List pP)×(List UInt8))) (fun x=>a27 x.1 x.2) (fun x=>a28) fun x=>a29 x.1 x.2
@[go_sem] theorem aO4:aCd (no_index (a27 O Z)) (no_index a28)=some (a29 O Z):=qQ (fun⟨a0,a1⟩ ⟨b0,b1⟩ h1 h2=>by cases h1;cases h2;rfl) (O,Z)
end
@[go_sem] abbrev aCe:Nat×pX:=(237,⟨[.v,.v],aCd,[],[],none⟩)
theorem a3a:qG Tryz.prog [rN] (qD [aBC]):=⟨⟨rP,trivial⟩,pO aJz qP,qI⟩
theorem aJN:qE Tryz.prog aCe:=by
 refine qR a3a Tryz.func237 (c:=_) rfl (N:=8) (by kernel_rfl) (ts:=[(4,none)]) rfl (fun _ _=>rfl) ?_;intro⟨O,Z⟩ hs hrow;dsimp only[a27,a28,a29,qJ,pN,pV,qC,qM,Nat.reduceAdd] at hs hrow⊢;have hz:=hs;obtain⟨z0,hC0⟩:=aPO.1 hz
 try rw[qZ hC0]
 clear hz hs;unfold GL at hC0;refine p8 a3a ?_;obtain⟨aA,hv1,hw1,hC0⟩:=q8 hC0
 try simp only[go_sem] at hw1
 refine p8 a3a ?_ (hp:=by exact⟨by first|rfl|trivial,(q7 hv1)⟩) (h:=by simp only[go_sem,hw1];rfl)
 refine pG ?_;cases hC0;exact⟨[],by rfl,by rfl,by rfl⟩
attribute [irreducible] GL
def a3b (O:(List UInt8)):Option Bool:=(C8 ([([110,101,119]:List UInt8),([102,117,122,122,121]:List UInt8),([116,114,97,110,115,108,97,116,101,100]:List UInt8),([114,101,118,105,101,119,101,100]:List UInt8),([111,98,115,111,108,101,116,101]:List UInt8)]:List (List UInt8)) O).bind fun Z=>some (Z)
attribute [irreducible] a3b
end
noncomputable section
def OM (O:(List UInt8)) (Z:Int):(Int×Int)→Option ((Int×Int)⊕(Int⊕Int)):=fun(aA,aB)=>if (decide (aB<(O.length:Int)))=true then if 0≤aB∧aB<(O.length:Int) then (TJ (pZ O aB) Z).bind fun aC=>if (decide (aC<(0:Int)))=true then some (.inr (.inr ((-1:Int)))) else if pA (Z*aA) then if pA ((Z*aA)+aC) then if pA (aB+(1:Int)) then some (.inl (((Z*aA)+aC),(aB+(1:Int)))) else none else none else none else none else some (.inr (.inl aA))
def IS (O:(List UInt8)) (Z:Int):Option Int:=s3 (pY (OM O Z) ((0:Int),(0:Int))) fun aA=>if (decide (O=([]:List UInt8)))=true then some ((-1:Int)) else some (aA)
attribute [irreducible] IS
def GM (O:(List Int)) (Z:Int):Option (List Int):=if (decide ((IntKind.wrap .u32 Z)≤(127:Int)))=true then if (O.length+([(IntKind.wrap .u8 Z)]:List Int).length)*1≤140737488355328 then some ((O++([(IntKind.wrap .u8 Z)]:List Int))) else none else (IL O Z).bind fun aA=>some (aA)
section
variable (O:(List Int)) (Z:Int) (aA:Nat)
abbrev a3c:List pB:=[(.val (.list (.int .u8)) O,some 0),(.val (.int .i32) Z,none)]
abbrev a3d:List p9:=[.grow 5 1 aA]
@[go_sem] def a3e:pH:=⟨[aA=(O.length),((GM O Z)).isSome=true],[(.val (.list (.int .u8)) (val (GM O Z)),some 0)],[.grow 5 1 ((val (GM O Z)).length)]⟩
def aCf:List pB→List p9→Option pH:=qO (V:=((List Int)×Int×Nat)) (fun x=>a3c x.1 x.2.1) (fun x=>a3d x.2.2) fun x=>a3e x.1 x.2.1 x.2.2
@[go_sem] theorem aO5:aCf (no_index (a3c O Z)) (no_index (a3d aA))=some (a3e O Z aA):=qQ (fun⟨a0,a1,a2⟩ ⟨b0,b1,b2⟩ h1 h2=>by cases h1;cases h2;rfl) (O,Z,aA)
end
@[go_sem] abbrev aCg:Nat×pX:=(297,⟨[.own,.v],aCf,[],[],none⟩)
theorem ON:qG Tryz.prog [CZ,NX,CX,ST] (qD [aBA]):=⟨⟨G8,⟨YW,⟨G5,⟨aAf,trivial⟩⟩⟩⟩,pO aJy qP,qI⟩
theorem aJO:qE Tryz.prog aCg:=by
 refine qR ON Tryz.func297 (c:=_) rfl (N:=16) (by kernel_rfl) (ts:=[(4,none)]) rfl (fun _ _=>rfl) ?_;intro⟨O,Z,aA⟩ hs hrow;dsimp only[a3c,a3d,a3e,qJ,pN,pV,qC,qM,Nat.reduceAdd] at hs hrow⊢;obtain⟨rfl,hz⟩:=hs;obtain⟨z0,hC0⟩:=aPO.1 hz
 try rw[qZ hC0]
 clear hz;unfold GM at hC0;refine p8 ON ?_;refine pL ?_;refine p8 ON ?_;refine pJ hC0 (fun hC0 hc1=> ?_) (fun hC0 hc1=> ?_)
 ·obtain⟨hg1,hC0⟩:=pF hC0;refine p8 ON ?_ (hp:=by exact⟨by first|rfl|trivial,hg1⟩)
  refine pG (pT ?_);cases hC0;exact⟨[(0,0)],by rfl,by rfl,by rfl⟩
 ·refine pU (pI ?_);obtain⟨aB,hv2,hw2,hC0⟩:=q8 hC0
  try simp only[go_sem] at hw2
  refine p8 ON ?_ (hp:=by exact⟨by first|rfl|trivial,(q7 hv2)⟩) (h:=by simp only[go_sem,hw2];rfl)
  refine pG ?_;cases hC0;exact⟨[(0,0)],by rfl,by rfl,by rfl⟩
attribute [irreducible] GM
def GN (O:(List pP)) (Z:(List UInt8)) (aA:(List UInt8)):Option (List pP):=(GH O).bind fun aB=>(GL aB Z).bind fun aC=>if (decide ((0:Int)≤aC))=true then if 0≤aC∧aC<(((aB.length):Nat):Int) then some ((List.set aB (Int.toNat aC) ((pQ (.pair .str (.pair .str .unit)) aB aC).1,(aA,(pQ (.pair .str (.pair .str .unit)) aB aC).2.2)))) else none else (L6 aB Z).bind fun aD=>if (decide (aD<(0:Int)))=true then if 0≤(((aB.length):Nat):Int)∧(((aB.length):Nat):Int)≤List.length aB then if (aB.length+([(Z,(aA,()))]:List pP).length)*32≤140737488355328 then some ((zU aB (((aB.length):Nat):Int) ([(Z,(aA,()))]:List pP))) else none else none else if 0≤aD∧aD≤List.length aB then if (aB.length+([(Z,(aA,()))]:List pP).length)*32≤140737488355328 then some ((zU aB aD ([(Z,(aA,()))]:List pP))) else none else none
section
variable (O:(List pP)) (Z:(List UInt8)) (aA:(List UInt8))
abbrev a3f:List pB:=[(.val (.list (.pair .str (.pair .str .unit))) O,none),(.val .str Z,none),(.val .str aA,none)]
abbrev a3g:List p9:=[]
@[go_sem] def a3h:pH:=⟨[((GN O Z aA)).isSome=true],[(.val (.list (.pair .str (.pair .str .unit))) (val (GN O Z aA)),some 0)],[.grow 149 2 ((val (GN O Z aA)).length)]⟩
def aCh:List pB→List p9→Option pH:=qO (V:=((List pP)×(List UInt8)×(List UInt8))) (fun x=>a3f x.1 x.2.1 x.2.2) (fun x=>a3g) fun x=>a3h x.1 x.2.1 x.2.2
@[go_sem] theorem aO6:aCh (no_index (a3f O Z aA)) (no_index a3g)=some (a3h O Z aA):=qQ (fun⟨a0,a1,a2⟩ ⟨b0,b1,b2⟩ h1 h2=>by cases h1;cases h2;rfl) (O,Z,aA)
end
@[go_sem] abbrev a3i:Nat×pX:=(194,⟨[.v,.v,.v],aCh,[],[],none⟩)
theorem BC:qG Tryz.prog [rN,SS,B8] (qD [aBy,aCe,aBE,aAi]):=⟨⟨rP,⟨aAe,⟨CY,trivial⟩⟩⟩,pO aJx (pO aJN (pO aJA (pO aI9 qP))),qI⟩
theorem aJP:qE Tryz.prog a3i:=by
 refine qR BC Tryz.func194 (c:=_) rfl (N:=37) (by kernel_rfl) (ts:=[(6,none)]) rfl (fun _ _=>rfl) ?_;intro⟨O,Z,aA⟩ hs hrow;dsimp only[a3f,a3g,a3h,qJ,pN,pV,qC,qM,Nat.reduceAdd] at hs hrow⊢;have hz:=hs;obtain⟨z0,hC0⟩:=aPO.1 hz
 try rw[qZ hC0]
 clear hz hs;unfold GN at hC0;refine p8 BC ?_;obtain⟨aB,hv1,hw1,hC0⟩:=q8 hC0
 try simp only[go_sem] at hw1
 refine p8 BC ?_ (hp:=by exact(q7 hv1)) (h:=by simp only[go_sem,hw1];rfl);refine pL ?_;obtain⟨aC,hv2,hw2,hC0⟩:=q8 hC0
 try simp only[go_sem] at hw2
 refine p8 BC ?_ (hp:=by exact⟨fun _=>by first|exact rfl|exact trivial,(q7 hv2)⟩) (h:=by simp only[go_sem,hw2];rfl)
 refine p8 BC ?_;refine pJ hC0 (fun hC0 hc1=> ?_) (fun hC0 hc1=> ?_)
 ·obtain⟨hg3,hC0⟩:=pF hC0;refine p8 BC ?_ (hp:=by exact⟨hg3,(by first|rfl|trivial)⟩)
  refine p8 BC ?_;refine Y2 96 rfl (by repeat' (first|exact trivial|apply And.intro|exact(fun _=>rfl) |exact(fun h=>absurd h (by decide)))) ?_
  refine pG (pT ?_);cases hC0;exact⟨[(0,96)],by rfl,by rfl,by rfl⟩
 ·refine pU (pI ?_);obtain⟨aD,hv4,hw4,hC0⟩:=q8 hC0
  try simp only[go_sem] at hw4
  refine p8 BC ?_ (hp:=by exact⟨by first|rfl|trivial,fun _=>by first|exact rfl|exact trivial,(q7 hv4)⟩) (h:=by simp only[go_sem,hw4];rfl)
  refine pL ?_;refine p8 BC ?_;refine pJ hC0 (fun hC0 hc2=> ?_) (fun hC0 hc2=> ?_)
  ·refine qY BC ?_;refine pI ?_;obtain⟨hg5,hC0⟩:=pF hC0;obtain⟨hg6,hC0⟩:=pF hC0;refine p8 BC ?_ (hp:=by exact⟨by first|rfl|trivial,hg5,hg6⟩)
   refine a9J ⟨[0,1,2,4,6,10,13,14,8,15,16,24,25,9,26,27,29,31,32,33,34,35,36],[(0,0),(32,32),(96,96),(800,800)]⟩ ?_;simp only[go_sem,Nat.max_def];refine Y2 96 rfl (by repeat' (first|exact trivial|apply And.intro|exact(fun _=>rfl) |exact(fun h=>absurd h (by decide)))) ?_
   refine pG ?_;cases hC0;exact⟨[(0,96)],by rfl,by rfl,by rfl⟩
  ·refine pU (pI ?_);obtain⟨hg7,hC0⟩:=pF hC0;obtain⟨hg8,hC0⟩:=pF hC0;refine p8 BC ?_ (hp:=by exact⟨by first|rfl|trivial,hg7,hg8⟩)
   refine a9J ⟨[0,1,2,4,6,10,13,14,8,15,16,24,25,9,26,27,31,32,33,34,35,36],[(0,0),(32,32),(96,96),(704,704)]⟩ ?_;simp only[go_sem,Nat.max_def];refine Y2 96 rfl (by repeat' (first|exact trivial|apply And.intro|exact(fun _=>rfl) |exact(fun h=>absurd h (by decide)))) ?_
   refine pG ?_;cases hC0;exact⟨[(0,96)],by rfl,by rfl,by rfl⟩
attribute [irreducible] GN
def AO (O:rZ) (Z:rZ):Option Unit:=(L8 O Z).bind fun aA=>if (((((decide (O.1=Z.1))&&(val (vK O.2.1 Z.2.1)))&&(val (xJ O.2.2.1 Z.2.2.1)))==true)=true→((AM O.2.2.2.1 Z.2.2.2.1)).isSome=true) then some (()) else none
section
variable (O:rZ) (Z:rZ)
abbrev a3j:List pB:=[(.val wA O,none),(.val wA Z,none)]
abbrev a3k:List p9:=[]
@[go_sem] def a3l:pH:=⟨[((AO O Z)).isSome=true],[(.val .bool ((((decide (O.1=Z.1))&&(val (vK O.2.1 Z.2.1)))&&(val (xJ O.2.2.1 Z.2.2.1)))&&(val (AM O.2.2.2.1 Z.2.2.2.1))),none)],[]⟩
def aCi:List pB→List p9→Option pH:=qO (V:=(rZ×rZ)) (fun x=>a3j x.1 x.2) (fun x=>a3k) fun x=>a3l x.1 x.2
@[go_sem] theorem aO7:aCi (no_index (a3j O Z)) (no_index a3k)=some (a3l O Z):=qQ (fun⟨a0,a1⟩ ⟨b0,b1⟩ h1 h2=>by cases h1;cases h2;rfl) (O,Z)
end
@[go_sem] abbrev aCj:Nat×pX:=(18,⟨[.v,.v],aCi,[],[],none⟩)
theorem a3m:qG Tryz.prog [B7,x9] (qD [aBM,aBO]):=⟨⟨CW,⟨y5,trivial⟩⟩,pO aJD (pO aJE qP),qI⟩
theorem aJQ:qE Tryz.prog aCj:=by
 refine qR a3m Tryz.func18 (c:=_) rfl (N:=15) (by kernel_rfl) (ts:=[(4,none)]) rfl (fun _ _=>rfl) ?_;intro⟨O,Z⟩ hs hrow;dsimp only[a3j,a3k,a3l,qJ,pN,pV,qC,qM,Nat.reduceAdd] at hs hrow⊢;have hz:=hs;obtain⟨z0,hC0⟩:=aPO.1 hz
 try rw[qZ hC0]
 clear hz hs;unfold AO at hC0;refine p8 a3m ?_;obtain⟨aA,hv1,hw1,hC0⟩:=q8 hC0
 try simp only[go_sem] at hw1
 obtain⟨hg2,hC0⟩:=pF hC0;refine p8 a3m ?_ (hp:=by exact⟨q7 hv1,fun hh=>hh,fun hh=>hh,fun hh=>hh,fun hh=>hh,hg2,(fun hh=>rH hh)⟩) (h:=by simp only[go_sem,hw1];rfl);refine pG ?_;cases hC0;exact⟨[],by rfl,by rfl,by rfl⟩
attribute [irreducible] AO
end
noncomputable section
def IT (O:rZ):Int→Option (Int⊕(Unit⊕Bool)):=fun Z=>if (decide (Z<(O.2.2.2.1.length:Int)))=true then if 0≤Z∧Z<(O.2.2.2.1.length:Int) then (L7 (pQ rI O.2.2.2.1 Z)).bind fun aA=>if (!((decide ((((((pQ rI O.2.2.2.1 Z).1).length:Int)+(((pQ rI O.2.2.2.1 Z).2.1).length:Int))+(((pQ rI O.2.2.2.1 Z).2.2.1).length:Int))≤(6000:Int)))&&(decide (((val (xI ((pQ rI O.2.2.2.1 Z).2.2.2.1) ((pQ rI O.2.2.2.1 Z).2.2.2.2.2.2.1)))+(val (xI ((pQ rI O.2.2.2.1 Z).2.2.2.2.1) ([]:List pP))))≤(6000:Int)))))=true then some (.inr (.inr (false))) else if pA (Z+(1:Int)) then some (.inl (Z+(1:Int))) else none else none else some (.inr (.inl ()))
def IU (O:rZ):Option Bool:=if (((decide ((100:Int)<(O.1.length:Int)))==false)=true→((xI O.2.1 O.2.2.1)).isSome=true) then if (((decide ((100:Int)<(O.1.length:Int)))||(decide ((6000:Int)<(val (xI O.2.1 O.2.2.1)))))||(decide ((12:Int)<(O.2.2.2.1.length:Int))))=true then some (false) else s3 (pY (IT O) (0:Int)) fun _=>some (true) else none
section
variable (O:rZ)
abbrev a3n:List pB:=[(.val wA O,none)]
abbrev a3o:List p9:=[]
@[go_sem] def a3p:pH:=⟨[((IU O)).isSome=true],[(.val .bool (val (IU O)),none)],[]⟩
def aCk:List pB→List p9→Option pH:=qO (V:=rZ) (fun x=>a3n x) (fun x=>a3o) fun x=>a3p x
@[go_sem] theorem aO8:aCk (no_index (a3n O)) (no_index a3o)=some (a3p O):=qQ (fun a0 b0 h1 h2=>by cases h1;cases h2;rfl) O
end
@[go_sem] abbrev aCl:Nat×pX:=(29,⟨[.v],aCk,[],[],none⟩)
theorem D9:qG Tryz.prog [rN,vJ,wN,B7,x9,z6] (qD [ZF,aBK]):=⟨⟨rP,⟨vT,⟨xA,⟨CW,⟨y5,⟨AL,trivial⟩⟩⟩⟩⟩⟩,pO aAw (pO aJC qP),qI⟩
theorem aJR:qE Tryz.prog aCl:=by
 refine qR D9 Tryz.func29 (c:=_) rfl (N:=36) (by kernel_rfl) (ts:=[(2,none)]) rfl (fun _ _=>rfl) ?_;intro O hs hrow;dsimp only[a3n,a3o,a3p,qJ,pN,pV,qC,qM,Nat.reduceAdd] at hs hrow⊢;have hz:=hs;obtain⟨z0,hC0⟩:=aPO.1 hz
 try rw[qZ hC0]
 clear hz hs;unfold IU at hC0;refine p8 D9 ?_;refine pL ?_;obtain⟨hg1,hC0⟩:=pF hC0;refine p8 D9 ?_ (hp:=by exact⟨fun hh=>hh,fun hh=>hh,fun hh=>hh,fun hh=>hh,hg1,fun hh=>hh,fun hh=>tP hh,fun hh=>hh,fun hh=>hh,fun hh=>hh,(fun hh=>tP hh)⟩);refine pJ hC0 (fun hC0 hc1=> ?_) (fun hC0 hc1=> ?_)
 ·refine p8 D9 ?_;refine pG (pT ?_);cases hC0;exact⟨[],by rfl,by rfl,by rfl⟩
 ·refine pU (pI (pL ?_));refine p8 D9 ?_;refine qT ?_;obtain⟨y1,hy1,hC0⟩:=u6 hC0;refine tI 0 (fun s=> ∃v,y1= .inl v∧s=(fun _=>⟨[],[],0,36,0⟩) v) ?_ ?_
  ·refine tH hy1 (fun x=>⟨[(1,(.val .ref (some (0,0)),none)),(3,(.val (.int .i64) x,none))],[(0,.cells wA O [])],1,36,0⟩) ⟨[1,3],[(0,0)]⟩ (by rfl) ?_;intro Z w1 n1 hC1 hN1;unfold IT at hC1;dsimp only at hC1⊢;refine pL ?_;refine p8 D9 ?_;refine pJ hC1 (fun hC1 hc2=> ?_) (fun hC1 hc2=> ?_)
   ·refine pU (pI (pL (qT ?_)));obtain⟨hg2,hC1⟩:=pF hC1;obtain⟨aA,hv3,hw3,hC1⟩:=q8 hC1
    try simp only[go_sem] at hw3
    refine p8 D9 ?_ (hp:=by exact⟨hg2,(q7 hv3)⟩) (h:=by simp only[go_sem,hw3];rfl);refine pJ hC1 (fun hC1 hc3=> ?_) (fun hC1 hc3=> ?_)
    ·refine p8 D9 ?_;refine pG (q9 (pT (uX (uW (q9 (pT ?_))))));cases hC1;cases hN1;dsimp only at hC0;cases hC0;exact⟨[],by rfl,by rfl,by rfl⟩
    ·refine pU (qW (pI ?_));obtain⟨hg4,hC1⟩:=pF hC1;refine qY D9 ?_ (hp:=by exact hg4);cases hC1;exact sG ⟨⟨[1,3],[(0,0)]⟩,_,by rfl,hN1⟩
   ·refine tG (tD (tK ?_));cases hC1;cases hN1;exact tJ ⟨⟨[],[]⟩,_,rfl,by rfl⟩
  ·rintro _ ⟨v,rfl,rfl⟩;dsimp only at hC0⊢;refine tE (pI ?_);refine p8 D9 ?_;refine pG ?_;cases hC0;exact⟨[],by rfl,by rfl,by rfl⟩
attribute [irreducible] IU
def OO (O:(List (List UInt8))):Int→Option (Int⊕(Unit⊕Bool)):=fun Z=>if (decide (Z<(O.length:Int)))=true then if 0≤Z∧Z<(O.length:Int) then (yO (pQ .str O Z)).bind fun aA=>if ((((!aA)==false)&&((decide ((0:Int)<Z))==true))=true→0≤Z∧Z<(O.length:Int)) then if ((((!aA)==false)&&((decide ((0:Int)<Z))==true))=true→pA (Z- (1:Int))) then if ((((!aA)==false)&&((decide ((0:Int)<Z))==true))=true→0≤(Z- (1:Int))∧(Z- (1:Int))<(O.length:Int)) then if ((!aA)||((decide ((0:Int)<Z))&&(Op.bytesLess (pQ .str O Z) (pQ .str O (Z- (1:Int)))||decide ((pQ .str O Z)=(pQ .str O (Z- (1:Int)))))))=true then some (.inr (.inr (false))) else if pA (Z+(1:Int)) then some (.inl (Z+(1:Int))) else none else none else none else none else none else some (.inr (.inl ()))
def C9 (O:(List (List UInt8))):Option Bool:=s3 (pY (OO O) (0:Int)) fun _=>some ((decide ((O.length:Int)≤(20:Int))))
section
variable (O:(List (List UInt8)))
abbrev a3q:List pB:=[(.val (.list .str) O,none)]
abbrev a3r:List p9:=[]
@[go_sem] def a3s:pH:=⟨[((C9 O)).isSome=true],[(.val .bool (val (C9 O)),none)],[]⟩
def aCm:List pB→List p9→Option pH:=qO (V:=(List (List UInt8))) (fun x=>a3q x) (fun x=>a3r) fun x=>a3s x
@[go_sem] theorem aO9:aCm (no_index (a3q O)) (no_index a3r)=some (a3s O):=qQ (fun a0 b0 h1 h2=>by cases h1;cases h2;rfl) O
end
@[go_sem] abbrev aCn:Nat×pX:=(71,⟨[.v],aCm,[],[],none⟩)
theorem GO:qG Tryz.prog [rN,vJ] (qD [a2o]):=⟨⟨rP,⟨vT,trivial⟩⟩,pO aBS qP,qI⟩
theorem aJS:qE Tryz.prog aCn:=by
 refine qR GO Tryz.func71 (c:=_) rfl (N:=35) (by kernel_rfl) (ts:=[(2,none)]) rfl (fun _ _=>rfl) ?_;intro O hs hrow;dsimp only[a3q,a3r,a3s,qJ,pN,pV,qC,qM,Nat.reduceAdd] at hs hrow⊢;have hz:=hs;obtain⟨z0,hC0⟩:=aPO.1 hz
 try rw[qZ hC0]
 clear hz hs;unfold C9 at hC0;refine p8 GO ?_;refine pL ?_;refine p8 GO ?_;refine qT ?_;obtain⟨y1,hy1,hC0⟩:=u6 hC0;refine tI 0 (fun s=> ∃v,y1= .inl v∧s=(fun _=>⟨[(0,(.val (.list .str) O,none))],[],0,35,0⟩) v) ?_ ?_
 ·refine tH hy1 (fun x=>⟨[(0,(.val (.list .str) O,none)),(3,(.val (.int .i64) x,none))],[],0,35,0⟩) ⟨[0,3],[]⟩ (by rfl) ?_;intro Z w1 n1 hC1 hN1;unfold OO at hC1;dsimp only at hC1⊢;refine pL ?_;refine p8 GO ?_;refine pJ hC1 (fun hC1 hc1=> ?_) (fun hC1 hc1=> ?_)
  ·refine pU (pI (pL (qT ?_)));obtain⟨hg1,hC1⟩:=pF hC1;obtain⟨aA,hv2,hw2,hC1⟩:=q8 hC1
   try simp only[go_sem] at hw2
   obtain⟨hg3,hC1⟩:=pF hC1;obtain⟨hg4,hC1⟩:=pF hC1;obtain⟨hg5,hC1⟩:=pF hC1;refine uO GO ?_ (hp:=by exact⟨hg1,q7 hv2,fun hh=>hh,fun hh=>hh,fun hh=>hh,fun hh=>hh,hg3,fun hh=>hh,fun hh=>hh,hg4,fun hh=>hh,fun hh=>hh,hg5,fun hh=>hh,fun hh=>hh,fun hh=>hh,fun hh=>hh,fun hG hh=>KI hG hh,(fun hh=>tP hh)⟩) (h:=by simp only[go_sem,hw2];rfl);refine pJ hC1 (fun hC1 hc2=> ?_) (fun hC1 hc2=> ?_)
   ·refine p8 GO ?_;refine pG (q9 (pT (uX (uW (q9 (pT ?_))))));cases hC1;cases hN1;dsimp only at hC0;cases hC0;exact⟨[],by rfl,by rfl,by rfl⟩
   ·refine pU (qW (pI ?_));obtain⟨hg6,hC1⟩:=pF hC1;refine qY GO ?_ (hp:=by exact hg6);cases hC1;exact sG ⟨⟨[0,3],[]⟩,_,by rfl,hN1⟩
  ·refine tG (tD (tK ?_));cases hC1;cases hN1;exact tJ ⟨⟨[0],[]⟩,_,rfl,by rfl⟩
 ·rintro _ ⟨v,rfl,rfl⟩;dsimp only at hC0⊢;refine tE (pI ?_);refine p8 GO ?_;refine pG ?_;cases hC0;exact⟨[],by rfl,by rfl,by rfl⟩
attribute [irreducible] C9
def BD (O:(List UInt8)) (Z:(List UInt8)):Option (List UInt8):=(L9 O Z).bind fun aA=>some (aA)
section
variable (O:(List UInt8)) (Z:(List UInt8))
abbrev a3t:List pB:=[(.val .str O,none),(.val .str Z,none)]
abbrev a3u:List p9:=[]
@[go_sem] def a3v:pH:=⟨[((BD O Z)).isSome=true],[(.val .str (val (BD O Z)),none)],[]⟩
def aCo:List pB→List p9→Option pH:=qO (V:=((List UInt8)×(List UInt8))) (fun x=>a3t x.1 x.2) (fun x=>a3u) fun x=>a3v x.1 x.2
@[go_sem] theorem aPa:aCo (no_index (a3t O Z)) (no_index a3u)=some (a3v O Z):=qQ (fun⟨a0,a1⟩ ⟨b0,b1⟩ h1 h2=>by cases h1;cases h2;rfl) (O,Z)
end
@[go_sem] abbrev LD:Nat×pX:=(98,⟨[.v,.v],aCo,[],[],none⟩)
theorem a3w:qG Tryz.prog [] (qD [aB4]):=⟨trivial,pO aJI qP,qI⟩
theorem a3x:qE Tryz.prog LD:=by
 refine qR a3w Tryz.func98 (c:=_) rfl (N:=8) (by kernel_rfl) (ts:=[(4,none)]) rfl (fun _ _=>rfl) ?_;intro⟨O,Z⟩ hs hrow;dsimp only[a3t,a3u,a3v,qJ,pN,pV,qC,qM,Nat.reduceAdd] at hs hrow⊢;have hz:=hs;obtain⟨z0,hC0⟩:=aPO.1 hz
 try rw[qZ hC0]
 clear hz hs;unfold BD at hC0;refine p8 a3w ?_;obtain⟨aA,hv1,hw1,hC0⟩:=q8 hC0
 try simp only[go_sem] at hw1
 refine p8 a3w ?_ (hp:=by exact(q7 hv1)) (h:=by simp only[go_sem,hw1];rfl);refine pG ?_;cases hC0;exact⟨[],by rfl,by rfl,by rfl⟩
attribute [irreducible] BD
def OP (O:(List pP)):Int→Option (Int⊕(Unit⊕Bool)):=fun Z=>if (decide (Z<(O.length:Int)))=true then if 0≤Z∧Z<(O.length:Int) then (BA ((pQ (.pair .str (.pair .str .unit)) O Z).1)).bind fun aA=>if (((!aA)==false)=true→((C6 ((pQ (.pair .str (.pair .str .unit)) O Z).2.1))).isSome=true) then if (((((!aA)||(!((decide ((((pQ (.pair .str (.pair .str .unit)) O Z).2.1).length:Int)≤(4000:Int)))&&(Lib.validD ((pQ (.pair .str (.pair .str .unit)) O Z).2.1)))))==false)&&((decide ((0:Int)<Z))==true))=true→pA (Z- (1:Int))) then if (((((!aA)||(!((decide ((((pQ (.pair .str (.pair .str .unit)) O Z).2.1).length:Int)≤(4000:Int)))&&(Lib.validD ((pQ (.pair .str (.pair .str .unit)) O Z).2.1)))))==false)&&((decide ((0:Int)<Z))==true))=true→0≤(Z- (1:Int))∧(Z- (1:Int))<(O.length:Int)) then if (((!aA)||(!((decide ((((pQ (.pair .str (.pair .str .unit)) O Z).2.1).length:Int)≤(4000:Int)))&&(Lib.validD ((pQ (.pair .str (.pair .str .unit)) O Z).2.1)))))||((decide ((0:Int)<Z))&&(!Op.bytesLess (pQ (.pair .str (.pair .str .unit)) O (Z- (1:Int))).1 (pQ (.pair .str (.pair .str .unit)) O Z).1)))=true then some (.inr (.inr (false))) else if pA (Z+(1:Int)) then some (.inl (Z+(1:Int))) else none else none else none else none else none else some (.inr (.inl ()))
def DA (O:(List pP)):Option Bool:=s3 (pY (OP O) (0:Int)) fun _=>some ((decide ((O.length:Int)≤(20:Int))))
section
variable (O:(List pP))
abbrev a3y:List pB:=[(.val (.list (.pair .str (.pair .str .unit))) O,none)]
abbrev a3z:List p9:=[]
@[go_sem] def a3A:pH:=⟨[((DA O)).isSome=true],[(.val .bool (val (DA O)),none)],[]⟩
def aCp:List pB→List p9→Option pH:=qO (V:=(List pP)) (fun x=>a3y x) (fun x=>a3z) fun x=>a3A x
@[go_sem] theorem aPb:aCp (no_index (a3y O)) (no_index a3z)=some (a3A O):=qQ (fun a0 b0 h1 h2=>by cases h1;cases h2;rfl) O
end
@[go_sem] abbrev a3B:Nat×pX:=(108,⟨[.v],aCp,[],[],none⟩)
theorem EV:qG Tryz.prog [rN,wN,B8] (qD [TD,OK]):=⟨⟨rP,⟨xA,⟨CY,trivial⟩⟩⟩,pO a0n (pO TM qP),qI⟩
theorem aCq:qE Tryz.prog a3B:=by
 refine qR EV Tryz.func108 (c:=_) rfl (N:=41) (by kernel_rfl) (ts:=[(2,none)]) rfl (fun _ _=>rfl) ?_;intro O hs hrow;dsimp only[a3y,a3z,a3A,qJ,pN,pV,qC,qM,Nat.reduceAdd] at hs hrow⊢;have hz:=hs;obtain⟨z0,hC0⟩:=aPO.1 hz
 try rw[qZ hC0]
 clear hz hs;unfold DA at hC0;refine p8 EV ?_;refine pL ?_;refine p8 EV ?_;refine qT ?_;obtain⟨y1,hy1,hC0⟩:=u6 hC0;refine tI 0 (fun s=> ∃v,y1= .inl v∧s=(fun _=>⟨[(0,(.val (.list (.pair .str (.pair .str .unit))) O,none))],[],0,41,0⟩) v) ?_ ?_
 ·refine tH hy1 (fun x=>⟨[(0,(.val (.list (.pair .str (.pair .str .unit))) O,none)),(5,(.val (.list (.pair .str (.pair .str .unit))) O,none)),(6,(.val (.int .i64) (O.length:Int),none)),(7,(.val (.int .i64) x,none))],[],0,41,0⟩) ⟨[0,5,6,7],[]⟩ (by rfl) ?_;intro Z w1 n1 hC1 hN1;unfold OP at hC1;dsimp only at hC1⊢;refine p8 EV ?_;refine pL ?_;refine pJ hC1 (fun hC1 hc1=> ?_) (fun hC1 hc1=> ?_)
  ·refine pU (pI (pL (qT ?_)));obtain⟨hg1,hC1⟩:=pF hC1;refine p8 EV ?_ (hp:=by exact hg1);obtain⟨aA,hv2,hw2,hC1⟩:=q8 hC1
   try simp only[go_sem] at hw2
   obtain⟨hg3,hC1⟩:=pF hC1;obtain⟨hg4,hC1⟩:=pF hC1;obtain⟨hg5,hC1⟩:=pF hC1;refine uO EV ?_ (hp:=by exact⟨q7 hv2,fun hh=>hh,fun hh=>hh,hg3,fun hh=>hh,fun hh=>tP hh,fun hh=>hh,fun hh=>hh,fun hh=>hh,hg4,fun hh=>hh,fun hh=>hh,hg5,fun hh=>hh,fun hh=>hh,fun hh=>hh,fun hh=>hh,fun hh=>hh,fun hh=>hh,fun hG hh=>KI hG hh,(fun hh=>tP hh)⟩) (h:=by simp only[go_sem,hw2];rfl);refine pJ hC1 (fun hC1 hc2=> ?_) (fun hC1 hc2=> ?_)
   ·refine p8 EV ?_;refine pG (q9 (pT (uX (uW (q9 (pT ?_))))));cases hC1;cases hN1;dsimp only at hC0;cases hC0;exact⟨[],by rfl,by rfl,by rfl⟩
   ·refine pU (qW (pI ?_));obtain⟨hg6,hC1⟩:=pF hC1;refine qY EV ?_ (hp:=by exact hg6);cases hC1;exact sG ⟨⟨[0,5,6,7],[]⟩,_,by rfl,hN1⟩
  ·refine tG (tD (tK ?_));cases hC1;cases hN1;exact tJ ⟨⟨[0],[]⟩,_,rfl,by rfl⟩
 ·rintro _ ⟨v,rfl,rfl⟩;dsimp only at hC0⊢;refine tE (pI ?_);refine p8 EV ?_;refine pG ?_;cases hC0;exact⟨[],by rfl,by rfl,by rfl⟩
attribute [irreducible] DA
def OQ (O:Int) (Z:(List UInt8)):(Int×(List Int))→Option ((Int×(List Int))⊕(List Int)):=fun(aA,aB)=>if (decide (aA<(Z.length:Int)))=true then if (decide (O=(4:Int)))=true then if 0≤aA∧aA<(Z.length:Int) then if False then (xH (aB,()) (SP (pZ Z aA))).bind fun aC=>if pA (aA+(1:Int)) then some (.inl ((aA+(1:Int)),(aB++rK (SP (pZ Z aA))))) else none else none else none else if 0≤aA∧aA<(Z.length:Int) then (EU O (pZ Z aA) (decide (aA=(0:Int)))).bind fun aD=>(xH (aB,()) aD).bind fun aE=>if pA (aA+(1:Int)) then some (.inl ((aA+(1:Int)),(aB++rK aD))) else none else none else some (.inr aB)
def DB (O:Int) (Z:(List UInt8)):Option (List UInt8):=if (!((decide ((1:Int)≤O))&&(decide (O≤(4:Int)))))=true then some (([]:List UInt8)) else rC (pY (OQ O Z) ((0:Int),([]:List Int))) fun aA=>some ((rV aA))
section
variable (O:Int) (Z:(List UInt8))
abbrev a3C:List pB:=[(.val (.int .i64) O,none),(.val .str Z,none)]
abbrev a3D:List p9:=[]
@[go_sem] def a3E:pH:=⟨[((DB O Z)).isSome=true],[(.val .str (val (DB O Z)),none)],[]⟩
def aCr:List pB→List p9→Option pH:=qO (V:=(Int×(List UInt8))) (fun x=>a3C x.1 x.2) (fun x=>a3D) fun x=>a3E x.1 x.2
@[go_sem] theorem aPc:aCr (no_index (a3C O Z)) (no_index a3D)=some (a3E O Z):=qQ (fun⟨a0,a1⟩ ⟨b0,b1⟩ h1 h2=>by cases h1;cases h2;rfl) (O,Z)
end
@[go_sem] abbrev TO:Nat×pX:=(110,⟨[.v,.v],aCr,[],[],none⟩)
theorem zY:qG Tryz.prog [rN,EC] (qD [T3,aAl,GC,aB6,IE]):=⟨⟨rP,⟨IC,trivial⟩⟩,pO a0j (pO aJc (pO IF (pO aJJ (pO KV qP)))),qI⟩
theorem a3F:qE Tryz.prog TO:=by
 refine qR zY Tryz.func110 (c:=_) rfl (N:=32) (by kernel_rfl) (ts:=[(4,none)]) rfl (fun _ _=>rfl) ?_;intro⟨O,Z⟩ hs hrow;dsimp only[a3C,a3D,a3E,qJ,pN,pV,qC,qM,Nat.reduceAdd] at hs hrow⊢;have hz:=hs;obtain⟨z0,hC0⟩:=aPO.1 hz
 try rw[qZ hC0]
 clear hz hs;unfold DB at hC0;refine p8 zY ?_;refine pL ?_;refine p8 zY ?_;refine pJ hC0 (fun hC0 hc1=> ?_) (fun hC0 hc1=> ?_)
 ·refine p8 zY ?_;refine pG (pT ?_);cases hC0;exact⟨[],by rfl,by rfl,by rfl⟩
 ·refine pU (pI ?_);refine p8 zY ?_;refine pL ?_;refine p8 zY ?_;refine qT ?_;obtain⟨aA,hy1,hC0⟩:=pC hC0;refine tI 0 (fun s=>s=(fun x=>⟨[(5,(.val .ref (some (0,0)),none))],[(0,.cells sP ((some (0,0)),(x,())) [(1,1)]),(1,.grow 5 1 (x.length))],2,32,0⟩) aA) ?_ ?_
  ·refine tH hy1 (fun x=>⟨[(0,(.val (.int .i64) O,none)),(1,(.val .str Z,none)),(5,(.val .ref (some (0,0)),none)),(11,(.val (.int .i64) (Z.length:Int),none)),(12,(.val (.int .i64) x.1,none))],[(0,.cells sP ((some (0,0)),(x.2,())) [(1,1)]),(1,.grow 5 1 (x.2.length))],2,32,0⟩) ⟨[0,1,5,11,12],[(0,128),(1,129)]⟩ (by rfl) ?_;intro x1 w1 n1 hC1 hN1;obtain⟨aB,aC⟩:=x1;unfold OQ at hC1;dsimp only at hC1⊢;refine p8 zY ?_;refine pL ?_;refine pJ hC1 (fun hC1 hc2=> ?_) (fun hC1 hc2=> ?_)
   ·refine pU (pI (pL (qT ?_)));refine p8 zY ?_;refine p8 zY ?_;refine pJ hC1 (fun hC1 hc3=> ?_) (fun hC1 hc3=> ?_)
    ·obtain⟨hg1,hC1⟩:=pF hC1;obtain⟨hg2,hC1⟩:=pF hC1;obtain⟨aD,hv3,hw3,hC1⟩:=q8 hC1
     try simp only[go_sem] at hw3
     refine qY zY ?_ (hp:=by exact⟨hg1,hg2,by first|rfl|trivial,(q7 hv3)⟩) (h:=by simp only[go_sem,hw3];rfl)
     refine qW (pI ?_);obtain⟨hg4,hC1⟩:=pF hC1;refine qY zY ?_ (hp:=by exact hg4);cases hC1;exact sG ⟨⟨[0,1,5,11,12],[(0,0),(1,1)]⟩,_,by rfl,hN1⟩
    ·obtain⟨hg5,hC1⟩:=pF hC1;obtain⟨aE,hv6,hw6,hC1⟩:=q8 hC1
     try simp only[go_sem] at hw6
     obtain⟨aF,hv7,hw7,hC1⟩:=q8 hC1
     try simp only[go_sem] at hw7
     refine qY zY ?_ (hp:=by exact⟨hg5,q7 hv6,by first|rfl|trivial,(q7 hv7)⟩) (h:=by simp only[go_sem,hw6,hw7];rfl)
     refine qW (pI ?_);obtain⟨hg8,hC1⟩:=pF hC1;refine qY zY ?_ (hp:=by exact hg8);cases hC1;exact sG ⟨⟨[0,1,5,11,12],[(0,0),(1,1)]⟩,_,by rfl,hN1⟩
   ·refine tG (tD (tK ?_));cases hC1;cases hN1;exact tJ ⟨⟨[5],[(0,0),(1,1)]⟩,by rfl⟩
  ·rintro _ rfl;dsimp only at hC0⊢;refine tE (pI ?_);refine p8 zY ?_ (hp:=by first|rfl|trivial)
   refine pG ?_;cases hC0;exact⟨[],by rfl,by rfl,by rfl⟩
attribute [irreducible] DB
end
end Go.Proofs.YtbbpilohihldiaaGreatDoor
