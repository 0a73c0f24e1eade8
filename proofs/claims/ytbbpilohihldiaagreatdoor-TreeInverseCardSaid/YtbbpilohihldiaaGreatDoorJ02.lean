/- Packed by a program of mine (wip/tools/pack.py): the same texts with short names and few blanks. -/
import Derived.BigCall
import Derived.BigGuard
import Derived.Handy
import Derived.KernelRfl
import Derived.Lib.Hide
import Derived.Lib.ItoaMem
import Derived.Lib.MapLaws
import Derived.Lib.TrimAscii
import Derived.Lib.TrimUEq
import Derived.Lib.ValidLaws
import Derived.LoopIn
import Derived.LoopNIn
import Derived.OwnWalkIn
import Derived.RangeFuncBox
import Derived.RangeFuncLeaves
import Derived.Shelf.Abstract
import Derived.Shelf.Small.Strs
import Derived.Shelf.Spec.SlicesInsertGrow
import Derived.Shelf.Strings.Repeat
import Derived.TacticsInMore
import Derived.Test.YtbbpilohihldiaaGreatDoorChecked
import Derived.Test.YtbbpilohihldiaaGreatDoorProg
import Derived.WalkKit
import Derived.Test.YtbbpilohihldiaaGreatDoorJ01
set_option linter.unusedVariables false
set_option linter.unusedSimpArgs false
set_option linter.unusedSectionVars false
set_option maxRecDepth 100000
set_option maxHeartbeats 4000000
namespace Go.Proofs.YtbbpilohihldiaaGreatDoor
open Vc Go.RowKit
@[go_sem] def noC:List pD->List pC->Option pJ:=fun _ _=>none
def vZ (l:List (List UInt8)):List (List UInt8):=l.mergeSort fun x y=>decide (x<=y)
@[go_sem] def aB1:(t:Ty)->List t.den->Option (List t.den)
 | .str,l=>some (vZ l)
 |_,_=>none
theorem aB2 {g:Gh}{w:World}: ∀{l:List (List UInt8)}{xs:List Value},sI (Rd g w .str) 1 l xs->xs=l.map Go.Proofs.encStr
 |[],_,h=>h
 |_::_,_,⟨c1,c2,e,_,h2,h3⟩=>by rw[e,show c1=_ from h2,aB2 h3];rfl
theorem aB3 {g:Gh}{w:World}: ∀(l:List (List UInt8)),sI (Rd g w .str) 1 l (l.map Go.Proofs.encStr)
 |[]=>rfl
 |x::l=>⟨[.string ⟨x.toArray⟩],_,rfl,rfl,rfl,aB3 l⟩
theorem aLl (s:List (List UInt8)) (cur:Array Value) (h:s.length<=cur.size):(Go.Sort.putCells Go.Proofs.encStr 0 s.toArray cur).toList.take s.length=s.map Go.Proofs.encStr:=by
 apply List.ext_getElem
 ·simp [Go.Sort.putCells];omega
 ·intro i h1 h2;have hi:i<s.length:=by simpa using h2
  simp only[Go.Sort.putCells,List.getElem_take,Array.getElem_toList,Array.getElem_mapIdx,List.getElem_map];rw[aTD (by simp;exact hi)];simp [hi]
theorem aLm:zO Tryz.prog 147 noC/\∀F,some aB1=some F->TQ Tryz.prog 147 F:=by
 refine⟨⟨fun _ _=>rfl,fun g w args vals L r _ _ hC _=>by cases hC⟩,fun F hF=> ?_⟩;cases hF;intro g w e t l l' v n xs hT hown hF hl hn hf;cases t with
 |str=>
  have hf:vZ l=l':=aTI hf;subst hf;subst hl;have hlen:(vZ l).length=l.length:=by simp [vZ]
  obtain⟨hx,⟨rfl,h0⟩ |⟨b,cap,cur,rfl,hb0,hbk,hnc,hcm,hcs,htk⟩⟩:=hown
  ·obtain rfl:l=[]:=aVb.1 h0;refine(Any.slices_Sort_string_none Tryz.lays190 none 0 w).mono ?_;rintro en w' ⟨rfl,rfl⟩;exact⟨rfl,hlen,[],⟨rfl,.inl ⟨rfl,rfl⟩⟩,by simp [vZ,sI],⟨rfl,rfl,rfl,aTZ _,fun _ _ _=>rfl⟩⟩
  ·have hxs:=aB2 hF;subst hxs;have hc1:(Ty.str).cells=1:=rfl;rw[hc1,aVO] at hcs htk;have hbl:b<w.heap.size:=by
    rcases aUX b w.heap.size with h|h
    ·exact h
    ·rw[Array.getElem?_eq_none h] at hbk;cases hbk
   have hH:Go.Sort.Holds Go.Proofs.encStr w b 0 l.toArray:=by
    intro j hj;have hj':j<l.length:=by simpa using hj
    refine⟨?_,Lib.frozen_of_heap hbk _⟩;rw[Lib.cell_of_heap hbk,aUg];have h2:(cur.toList.take l.length)[j]? =(l.map Go.Proofs.encStr)[j]? :=by rw[htk]
    rw[aVF hj',aUK] at h2;rw[h2];simp [hj']
   refine(Any.slices_Sort_string Tryz.lays190 b 0 cap l w hH hbl hn).mono ?_;rintro en w' ⟨rfl,m,os,rfl⟩;have hsz:(vZ l).length<=cur.size:=by rw[hlen,hcs];exact hnc
   have hnew:(Go.Sort.grow (Go.Sort.putRow Go.Proofs.encStr (Go.Sort.ahead w m) b 0 (vZ l).toArray) os).heap[b]? =some (.cells (Go.Sort.putCells Go.Proofs.encStr 0 (vZ l).toArray cur) e (0,0)):=by
    rw[Go.Sort.heap_grow_old _ _ (by simpa using hbl)];simp [Go.Sort.putRow,Go.Sort.mapBlock,aU6,hbk,Go.Sort.onCells]
   refine⟨rfl,hlen,(vZ l).map Go.Proofs.encStr,⟨by simp [hlen,hc1],.inr ⟨b,cap,_,rfl,hb0,hnew,hnc,hcm,?_,?_⟩⟩,aB3 _,⟨rfl,rfl,rfl,by simp,fun k hk hne=> ?_⟩⟩
   ·rw[hc1,aVO];simpa[Go.Sort.putCells] using hcs
   ·rw[hc1,aVO,<-hlen];exact aLl _ _ hsz
   ·rw[Go.Sort.heap_grow_old _ _ (by simpa using hk)];have hkb:b≠k:=fun h=>hne (by rw[h];rfl);simp [Go.Sort.putRow,Go.Sort.mapBlock,aU6,hkb]
 |_=>cases hf
def M2 (s c:List UInt8):Int:=Lib.index s c
@[go_sem] def a0r:List pD->List pC->Option pJ
 |[(.val .str O,none),(.val .str Z,none)],[]=>some ⟨[List.length O<4294967281],[(.val (.int .i64) (M2 O Z),none)],[]⟩
 |_,_=>none
theorem aLn:zO Tryz.prog 173 a0r:=by
 refine M1 (fun _ _=>rfl) fun g w args vals L r hT ha hC hs=> ?_;unfold a0r at hC;split at hC
 ·rename_i s c;cases hC;have h1:=hs _ aT1;obtain⟨va,_,rfl,ra,vb,_,rfl,rb,hv⟩:=ha;obtain rfl:=yB ra.1;obtain rfl:=yB rb.1;cases hv;obtain⟨m,hm⟩:=hT.2.2.1;exact⟨rfl,rfl,(aBZ (Any.strings_Index Tryz.lays143 ⟨List.toArray s⟩ ⟨List.toArray c⟩ m w h1 hm)).mono fun e w' ⟨he,hb⟩=>⟨_,he,hb,vO _ _ _ _,trivial⟩⟩
 ·cases hC
@[go_sem] def a0s:List pD->List pC->Option pJ
 |[(.val .ref (some (0,0)),none)],[.cells (.pair .mref (.pair (.list (.int .u8)) .unit)) ((some (0,0)),O) [(1,1)],.grow Z 1 aA]=>some ⟨[aA=List.length O.1],[],[.cells (.pair .mref (.pair (.list (.int .u8)) .unit)) ((some (0,0)),O) [(1,1)],.grow Z 1 aA]⟩
 |_,_=>none
theorem aLo {g:Gh}{w:World}{L:List pC}{e:pQ}{w':World}{u v:Value}{r:pJ}(hE:rG g w (pN 0 L) e g w' u)
  (hH: ∀i,pG (pN 0 r.H) i=pG (pX e.upd (pN 0 L)) i) (hin: ∀i,i∈pH e.upd->i<L.length) (hlen:r.H.length=L.length)
  (hp: ∀i blk b o,r.H[i]? =some blk->rJ g i blk b o->w.heap.size<=b\/yW g (pN 0 L) b o)
  (hty: ∀(i:Nat) t x ts u y us,L[i]? =some (.cells t x ts)->r.H[i]? =some (.cells u y us)->u=t)
  (hret:OW g w' r.ret v):JN g w L r g w' v:=
 ⟨fun b o h=>⟨h,hE.le.cell b o h⟩,hE.heap.ext hH,hret,hE.fr.mono fun b o ⟨i,blk,_,h1,h2⟩=>⟨i,blk,h1,h2⟩,hp,fun _ _ _ _ _=>rfl,hty,fun _ _ _ h=>h,fun _ _ _ _ h=>h⟩
theorem aLp {P:Program}{ρ:Go.Shelf.Ren}(L:Lays.n240 P ρ) (X:Builder.X72 P ρ) {e:TypeId}(b:Nat) (w:World) (h0:w.cell? ⟨b,0,none⟩=some (.pointer none)) (hsh:w.shape? b=some (e,2)) (hl:liesAt P P.depth e (2/P.cellsOf e) 0 (ρ.t 72) 1=true) (hfz:w.frozen? ⟨b,0,none⟩=false):
  Calls P (ρ.f 240) #[.pointer (some ⟨b,0,none⟩)] w fun en w'=>en= .returned (.tuple #[])/\w'=w.setCell ⟨b,0,none⟩ (.pointer (some ⟨b,0,none⟩)):=by
 obtain⟨j,hj,hjs⟩:=aTT.1 X.sizeBuilder;have mixed:=L.mixed;have t72:=L.t72;have a72:=L.a72;have z72:=L.z72;have v72:=L.v72;have u72:=aTX L.t72;have t70:=L.t70;have a70:=L.a70;have z70:=L.z70;have v70:=L.v70;have u70:=aTX L.t70;have t9:=L.t9;have a9:=L.a9;have z9:=L.z9;have v9:=L.v9;have u9:=aTX L.t9;have t4:=L.t4;have a4:=L.a4;have z4:=L.z4;have v4:=L.v4;have u4:=aTX L.t4;have t164:=L.t164;have a164:=L.a164;have z164:=L.z164;have v164:=L.v164;have u164:=aTX L.t164
 go_enter L.f240,Body.n240_ntmps ρ
 go_wp2
 rw[Lib.run_to_unsafe w ⟨b,0,none⟩ L.t70 L.t164 hj (by rw[hjs];decide) hsh (Nat.zero_lt_succ 1)];simp only[Result.andThen];rw[Oper.upon_value]
 go_wp2
 rw[run_callFunc_extern L.f276 (by kernel_rfl) (by kernel_rfl) (by kernel_rfl) (e:=Extern.AbiNoEscape.same) (by kernel_rfl)];rw[Lib.run_noEscape];simp only[Result.andThen];rw[Oper.upon_value]
 go_wp2
 rw[Lib.run_from_unsafe w ⟨b,0,none⟩ L.t164 L.t70 hj hsh hl];simp only[Result.andThen];rw[Oper.upon_value]
 go_wp2
 go_end0
 exact⟨rfl,rfl⟩
theorem aLq:zO Tryz.prog 93 a0s:=by
 refine⟨fun _ _=>rfl,fun g w args vals L r hH ha hC hs=> ?_⟩;unfold a0s at hC;split at hC
 ·rename_i O Z aA;cases hC;obtain⟨va,_,rfl,ra,hv⟩:=ha;cases hv;have hg0:pG (pN 0 [pC.cells (.pair .mref (.pair (.list (.int .u8)) .unit)) ((some (0,0)),O) [(1,1)],.grow Z 1 aA]) 0=some (.cells (.pair .mref (.pair (.list (.int .u8)) .unit)) ((some (0,0)),O) [(1,1)]):=rfl;obtain⟨p,cs,hJ,hR,hra,hth,hns,htk⟩:=hH.blk 0 _ hg0;obtain⟨c1,c2,rfl,hR1,hR2⟩:=hR;obtain⟨p',hJ',⟨hp0,eb,heb,hk3⟩,hc1⟩:=hR1;rw[hJ] at hJ';obtain rfl:=aTI hJ';obtain⟨b,o,k⟩:=p;have ho:o=0:=by simpa using hp0
  subst ho;have hlies:liesAt Tryz.prog Tryz.prog.depth eb (2/Tryz.prog.cellsOf eb) 0 84 1=true:=by
   unfold XO at heb;split at heb
   ·rename_i h;subst h;kernel_rfl
   ·split at heb
    ·rename_i h;subst h;kernel_rfl
    ·cases heb
  have hva:va= .pointer (some ⟨b,0,none⟩):=by
   obtain⟨q,hq,e⟩:=AI ra.1;rw[hJ] at hq;cases hq;exact e
  subst hva;have hsh:w.shape? b=some (eb,2):=hth.2 (by decide) _ hk3;rcases hc1 with rfl|rfl
  ·have h0:w.cell? ⟨b,0,none⟩=some (.pointer none)/\w.frozen? ⟨b,0,none⟩=false:=⟨hra 0 _ rfl,(hth.1 0 (by decide)).2⟩;refine(aLp Tryz.lays240 Tryz.builderX72 b w h0.1 hsh hlies h0.2).mono ?_;rintro en w' ⟨rfl,rfl⟩;refine⟨_,g,rfl,?_⟩;have hE:=rG.store (side:=[]) (rds:=[]) hH (i:=0) (t:= .mref) (y:=some (0,0)) (off:=0) (k:=none) (p:=⟨b,0,k⟩) (cy:=[.pointer (some ⟨b,0,none⟩)]) (v:= .pointer (some ⟨b,0,none⟩)) hg0 hJ (z:=((some (0,0)),O)) (by rfl) ⟨_,hJ,⟨rfl,_,heb,hk3⟩,.inr rfl⟩ trivial (fun _ _ h=>by cases h) (fun _=>rfl);refine aLo hE.1 ?_ ?_ rfl ?_ ?_ ?_
   ·intro i
    match i with
    |0=>rfl
    |1=>rfl
    |i+2=>rfl
   ·intro i hi;simp [pH] at hi;subst hi;exact Nat.zero_lt_succ _
   ·intro i blk b o hi ho;exact .inr ⟨i,blk,by rw[TP];simpa using hi,ho⟩
   ·intro i t x ts u y us h1 h2;rw[h1] at h2;cases h2;rfl
   ·exact⟨[],rfl,rfl⟩
  ·have h0:w.cell? ⟨b,0,none⟩=some (.pointer (some ⟨b,0,none⟩)):=hra 0 _ rfl;refine(Any.Builder_copyCheck_used Tryz.lays240 Tryz.builderX72 b w h0).mono ?_;rintro en w' ⟨rfl,rfl⟩;refine⟨_,g,rfl,⟨fun b o h=>⟨h,rfl⟩,hH,⟨[],rfl,rfl⟩,Fr.refl _ _ _,?_,fun _ _ _ _ _=>rfl,?_,fun _ _ _ h=>h,fun _ _ _ _ h=>h⟩⟩
   ·intro i blk b o hi ho;exact .inr ⟨i,blk,by rw[TP];simpa using hi,ho⟩
   ·intro i t x ts u y us h1 h2;rw[h1] at h2;cases h2;rfl
 ·cases hC
theorem aB4 {P:Program}(w:World): ∀(l:List Int) (a:Addr) (acc:ByteArray),(∀j x,l[j]? =some x->w.cell? (a.add j)=some (.int .u8 x))->
  (loadBytes a acc l.length).run P w= .ok ⟨acc.data++(s5 l).toArray⟩ w
 |[],a,acc,_=>by simp [loadBytes,s5]
 |x::l,a,acc,h=>by
  have h0:w.cell? a=some (.int .u8 x):=by
   have:=h 0 x rfl;simpa[Addr.add] using this
  have ih:=aB4 (P:=P) w l (a.add 1) (acc.push (UInt8.ofNat x.toNat)) (fun j y hy=>by
   have:=h (j+1) y (by simpa using hy);have e:(a.add 1).add j=a.add (j+1):=by
    unfold Addr.add;by_cases hj:j=0
    ·subst hj;simp
    ·simp [hj];omega
   rw[e];exact this)
  have hx:x.toNat.toUInt8=UInt8.ofNat x.toNat:=rfl;simp only[aTJ,loadBytes,aTV,run_load,h0,Result.andThen,hx];rw[ih];congr 1;apply ByteArray.ext;simp [ByteArray.push,s5]
theorem aLr {P:Program}(w:World) (pt it ty e:TypeId) (hp:P.underlying pt=some (.pointer e)) (hc:P.cellsOf e=1) (g cells:Nat) (hsh:w.shape? g=some (e,cells)) (l:List Int) (h0:l≠[]) (hn:l.length<=cells) (h63:l.length<=9223372036854775807)
  (hcell: ∀j x,l[j]? =some x->w.cell? ((⟨g,0,none⟩:Addr).add j)=some (.int .u8 x)):
  (Builtin.unsafeString_ #[pt,it] ty #[.pointer (some ⟨g,0,none⟩),.int .i64 l.length]).run P w= .ok (.string ⟨(s5 l).toArray⟩) (w.freeze ⟨g,0,none⟩ l.length):=by
 have hl:l.length≠0:=by simpa using h0
 have hlb:=aB4 (P:=P) w l ⟨g,0,none⟩ .empty hcell;have hlies:=Lib.liesAt_bytes (P:=P) hc (cells/P.cellsOf e) l.length (by rw[hc];simpa using hn);have h63': ¬(9223372036854775807:Int)<(l.length:Int):=by omega
 have hdef:Builtin.unsafeString_ #[pt,it] ty #[.pointer (some ⟨g,0,none⟩),.int .i64 l.length]=
   (do
    let n<-asInt (.int .i64 l.length)
    if n<0 then runtimePanic (.error "unsafe.String: len out of range")
    if n>IntKind.i64.max then unsupported (.unsafePointer "String: a length above the largest int")
    if n=0 then pure (.string .empty)
    else if<-variablesAt ⟨g,0,none⟩ (<-elemOf pt) n.toNat then do
     let s<-loadBytes ⟨g,0,none⟩ .empty n.toNat
     freeze ⟨g,0,none⟩ n.toNat
     pure (.string s)
    else unsupported (.unsafePointer "String: not so many bytes at ptr")):=rfl
 rw[hdef];have hmax:IntKind.i64.max=9223372036854775807:=rfl;have hneg: ¬(l.length:Int)<0:=by omega
 simp [asInt,asIntOf,hmax,h63',hneg,hl,variablesAt,hsh,elemOf,aTX hp,hlies,hlb]
theorem a0t {P:Program}{ρ:Go.Shelf.Ren}(L:Lays.n169 P ρ) (X:Builder.Extra P ρ) (b n cap:Nat) (a q:Option Addr) (s:ByteArray) (w w2:World)
  (c1:w.drew.cell? ⟨b,1,none⟩=some (.slice a n cap)) (hSD:(Builtin.unsafeSliceData_ #[(ρ.t 37)] (ρ.t 127) #[.slice a n cap]).run P w.drew= .ok (.pointer q) w.drew)
  (hUS:(Builtin.unsafeString_ #[(ρ.t 127),(ρ.t 3)] (ρ.t 9) #[.pointer q,.int .i64 n]).run P w.drew= .ok (.string s) w2):
  Calls P (ρ.f 169) #[.pointer (some ⟨b,0,none⟩)] w fun e w'=>e= .returned (.string s)/\w'=w2:=by
 have mixed:=L.mixed;have t72:=L.t72;have a72:=L.a72;have z72:=L.z72;have v72:=L.v72;have u72:=aTX L.t72;have t70:=L.t70;have a70:=L.a70;have z70:=L.z70;have v70:=L.v70;have u70:=aTX L.t70;have t37:=L.t37;have a37:=L.a37;have z37:=L.z37;have v37:=L.v37;have u37:=aTX L.t37;have t127:=L.t127;have a127:=L.a127;have z127:=L.z127;have v127:=L.v127;have u127:=aTX L.t127;have t3:=L.t3;have a3:=L.a3;have z3:=L.z3;have v3:=L.v3;have u3:=aTX L.t3;have t9:=L.t9;have a9:=L.a9;have z9:=L.z9;have v9:=L.v9;have u9:=aTX L.t9;have t5:=X.t5;have a5:=X.a5;have z5:=X.z5;have v5:=X.v5;have u5:=aTX X.t5
 go_enter L.f169,Body.n169_ntmps ρ
 go_wp2
 go_region_o
 all_goals (go_wp2;go_ret;exact⟨rfl,rfl⟩)
theorem aLs {P:Program}{ρ:Go.Shelf.Ren}(L:Lays.n169 P ρ) (X:Builder.Extra P ρ) (b g:Nat) (cur:Array Value) (w:World) (hlt:b<w.heap.size)
  (c1:w.drew.cell? ⟨b,1,none⟩=some (.slice (some ⟨g,0,none⟩) 0 0)) (hg:w.drew.heap[g]? =some (.cells cur (ρ.t 5) (0,0))):
  Calls P (ρ.f 169) #[.pointer (some ⟨b,0,none⟩)] w fun e w'=>e= .returned (.string ⟨#[]⟩)/\w'=w.drew.alloc (.view ⟨g,0,none⟩ (ρ.t 5)):=by
 have hUS:=Any.unsafeString_none L X;have hSD:(Builtin.unsafeSliceData_ #[(ρ.t 37)] (ρ.t 127) #[.slice (some ⟨g,0,none⟩) 0 0]).run P w.drew= .ok (.pointer (some ⟨w.drew.heap.size,0,none⟩)) (w.drew.alloc (.view ⟨g,0,none⟩ (ρ.t 5))):=
  Lib.run_unsafeSliceData_zero w.drew _ _ (ρ.t 5) L.t127 ⟨g,0,none⟩ 0 ((ρ.t 5),cur.size) (by simp [World.shape?,hg])
 have c2:(w.drew.alloc (.view ⟨g,0,none⟩ (ρ.t 5))).cell? ⟨b,1,none⟩=some (.slice (some ⟨g,0,none⟩) 0 0):=
  (aT4 (a:=⟨b,1,none⟩) (Lib.alloc_old w.drew _ b hlt)).trans c1
 have c3:(w.alloc (.view ⟨g,0,none⟩ (ρ.t 5))).drew.cell? ⟨b,1,none⟩=some (.slice (some ⟨g,0,none⟩) 0 0):=c2;have c0:w.cell? ⟨b,1,none⟩=some (.slice (some ⟨g,0,none⟩) 0 0):=c1;have mixed:=L.mixed;have t72:=L.t72;have a72:=L.a72;have z72:=L.z72;have v72:=L.v72;have u72:=aTX L.t72;have t70:=L.t70;have a70:=L.a70;have z70:=L.z70;have v70:=L.v70;have u70:=aTX L.t70;have t37:=L.t37;have a37:=L.a37;have z37:=L.z37;have v37:=L.v37;have u37:=aTX L.t37;have t127:=L.t127;have a127:=L.a127;have z127:=L.z127;have v127:=L.v127;have u127:=aTX L.t127;have t3:=L.t3;have a3:=L.a3;have z3:=L.z3;have v3:=L.v3;have u3:=aTX L.t3;have t9:=L.t9;have a9:=L.a9;have z9:=L.z9;have v9:=L.v9;have u9:=aTX L.t9;have t5:=X.t5;have a5:=X.a5;have z5:=X.z5;have v5:=X.v5;have u5:=aTX X.t5
 go_enter L.f169,Body.n169_ntmps ρ
 go_wp2
 go_region_o
 all_goals (go_wp2;go_ret;exact⟨rfl,rfl⟩)
@[go_sem] def a0u:List pD->List pC->Option pJ
 |[(.val .ref (some (0,0)),none)],[.cells (.pair .mref (.pair (.list (.int .u8)) .unit)) ((some (0,0)),O) [(1,1)],.grow 5 1 Z]=>some ⟨[Z=List.length O.1],[(.val .str (s5 O.1),none)],[.cells (.pair .mref (.pair (.list (.int .u8)) .unit)) ((some (0,0)),O) [],.dead]⟩
 |_,_=>none
theorem a0v {g:Gh}{w w':World}{m:Option (Nat×Nat)}{b:(Ty.pair (.list (.int .u8)) .unit).den}{e n:Nat}{s:List UInt8}{sd:List Prop}(hH:rT g w (pN 0 [pC.cells (.pair .mref (.pair (.list (.int .u8)) .unit)) (m,b) [(1,1)],.grow e 1 n]))
  (hos:w'.os=w.os) (htape:w'.tape=w.tape) (hout:w'.output=w.output) (hsz:w.heap.size<=w'.heap.size)
  (hcell: ∀b o,b<w.heap.size->w'.cell? ⟨b,o,none⟩=w.cell? ⟨b,o,none⟩) (hshape: ∀b s,w.shape? b=some s->w'.shape? b=some s)
  (hblk: ∀b,b<w.heap.size->(∀o,¬rJ g 1 (.grow e 1 n) b o)->w'.heap[b]? =w.heap[b]?):
  JN g w [pC.cells (.pair .mref (.pair (.list (.int .u8)) .unit)) (m,b) [(1,1)],.grow e 1 n] ⟨sd,[(.val .str s,none)],[.cells (.pair .mref (.pair (.list (.int .u8)) .unit)) (m,b) [],.dead]⟩ g w' (.string ⟨s.toArray⟩):=by
 have hg0:pG (pN 0 [pC.cells (.pair .mref (.pair (.list (.int .u8)) .unit)) (m,b) [(1,1)],.grow e 1 n]) 0=some (.cells (.pair .mref (.pair (.list (.int .u8)) .unit)) (m,b) [(1,1)]):=rfl;have hg1:pG (pN 0 [pC.cells (.pair .mref (.pair (.list (.int .u8)) .unit)) (m,b) [(1,1)],.grow e 1 n]) 1=some (.grow e 1 n):=rfl;have hle:Le g w g w':=⟨fun _ _ h=>h,fun b o h=>hcell b o (hH.sl b o h),fun _ _ h=>h,fun _ _ _ h=>h⟩;have hno: ∀c o,rJ g 0 (.cells (.pair .mref (.pair (.list (.int .u8)) .unit)) (m,b) [(1,1)]) c o->∀o',¬rJ g 1 (.grow e 1 n) c o':=fun c o h o' h'=>by
  obtain⟨v,hv,hb⟩:=h';exact hH.dis 0 1 _ _ c o (by decide) hg0 hg1 h ⟨v,hv,hb⟩
 obtain⟨p,cs,hJ,hR,hra,hth,hns,htk⟩:=hH.blk 0 _ hg0;have hown0: ∀j,j<2->rJ g 0 (.cells (.pair .mref (.pair (.list (.int .u8)) .unit)) (m,b) [(1,1)]) p.1 (p.2+j):=fun j hj=>⟨p,hJ,rfl,Nat.le_add_right _ _,Nat.add_lt_add_left hj _⟩;have hpl:p.1<w.heap.size:=ON (hH.blk 0 _ hg0) (hown0 0 (by decide));have hpb:w'.heap[p.1]? =w.heap[p.1]? :=hblk p.1 hpl (hno p.1 _ (hown0 0 (by decide)));have hbk0:zL g w' 0 (.cells (.pair .mref (.pair (.list (.int .u8)) .unit)) (m,b) []):=
  ⟨p,cs,hJ,wS hle hR,fun j v hj=>(hcell _ _ hpl).trans (hra j v hj),⟨fun j hj=>by
   have h1:=hth.1 j hj;rw[hcell _ _ hpl];exact⟨h1.1,(aUD (a:=⟨p.1,p.2+j,none⟩) hpb).trans h1.2⟩,fun h s hs=>hshape _ _ (hth.2 h s hs)⟩,hns,fun _ _ h=>by cases h⟩
 refine⟨fun b o h=>⟨h,hcell b o (hH.sl b o h)⟩,?_,(show r5 g w' (.val .str s,none) (.string ⟨s.toArray⟩) from⟨FX _ _ _,trivial⟩),⟨hos,htape,hout,hsz,?_,?_,fun _ _ h=> .inl h,fun b s h=> .inl (hshape b s h)⟩,?_,fun _ _ _ _ _=>rfl,?_,fun _ _ _ h=>h,fun _ _ _ _ h=>h⟩
 ·refine⟨fun i blk h=> ?_,fun i j bi bj c o hij hi hj hoi hoj=> ?_,fun b o h=>aUj (hH.sl b o h) hsz,NX hH.tab.1 hsz (fun c hc=>hblk c (aUj hc hH.tab.1.1) fun o ho=>absurd (hH.tab.2 1 _ c o hg1 ho) (by omega)),fun i blk c o h ho=> ?_⟩
  ·match i,h with
   |0,h=>cases h;exact hbk0
   |1,h=>cases h;trivial
   |i+2,h=>simp [pN,pG] at h
  ·match i,j,hi,hj with
   |0,0,_,_=>exact hij rfl
   |0,1,_,hj=>cases hj;exact hoj
   |1,_,hi,_=>cases hi;exact hoi
   |0,j+2,_,hj=>simp [pN,pG] at hj
   |i+2,_,hi,_=>simp [pN,pG] at hi
  ·match i,h with
   |0,h=>cases h;exact hH.tab.2 0 _ c o hg0 ho
   |1,h=>cases h;exact ho.elim
   |i+2,h=>simp [pN,pG] at h
 ·intro c hc hn;exact hblk c hc fun o ho=>hn o ⟨1,_,hg1,ho⟩
 ·intro c o hc hn;exact⟨hcell c o hc,aUD (a:=⟨c,o,none⟩) (hblk c hc fun o' ho=>hn ⟨1,_,hg1,by obtain⟨v,hv,hb⟩:=ho;exact⟨v,hv,hb⟩⟩)⟩
 ·intro i blk c o hi ho
  match i,hi with
  |0,hi=>cases hi;exact .inr ⟨0,_,hg0,ho⟩
  |1,hi=>cases hi;exact ho.elim
  |i+2,hi=>simp at hi
 ·intro i t x ts u y us h1 h2
  match i,h1,h2 with
  |0,h1,h2=>cases h1;cases h2;rfl
  |1,h1,_=>cases h1
  |i+2,h1,_=>simp at h1
theorem aLt (w:World) (a p:Addr) (n:Nat):(w.freeze a n).cell? p=w.cell? p:=by
 unfold World.freeze;split
 ·rfl
 ·simp only[World.cell?,aU6];by_cases h:a.block=p.block
  ·rw[aTD h];cases w.heap[p.block]? with
   |none=>rfl
   |some o=>cases o<;>rfl
  ·rw[aTG h]
theorem aLu (w:World) (a:Addr) (n b:Nat):(w.freeze a n).shape? b=w.shape? b:=by
 unfold World.freeze;split
 ·rfl
 ·simp only[World.shape?,aU6];by_cases h:a.block=b
  ·rw[aTD h];cases w.heap[b]? with
   |none=>rfl
   |some o=>cases o<;>rfl
  ·rw[aTG h]
theorem aLv (w:World) (a:Addr) (n b:Nat) (h:b≠a.block):(w.freeze a n).heap[b]? =w.heap[b]? :=by
 unfold World.freeze;split
 ·rfl
 ·simp only[aU6];rw[aTG (Ne.symm h)]
theorem aLw (w:World) (a:Addr) (n:Nat):(w.freeze a n).os=w.os/\(w.freeze a n).tape=w.tape/\(w.freeze a n).output=w.output/\(w.freeze a n).heap.size=w.heap.size:=by
 unfold World.freeze;split
 ·exact⟨rfl,rfl,rfl,rfl⟩
 ·exact⟨rfl,rfl,rfl,by simp⟩
theorem aB5 {g:Gh}{w:World}{b:Nat}: ∀{l:List Int}{o:Nat},xR (Rd g w (.int .u8)) w g.S 1 b o l->∀j x,l[j]? =some x->w.cell? ⟨b,o+j,none⟩=some (.int .u8 x)
 |[],_,_,_,_,h=>by cases h
 |y::l,o,⟨⟨cs,_,hra,_,hR⟩,hl⟩,j,x,h=>by
  match j,h with
  |0,h=>
   cases h;have hR:cs=[.int .u8 y]:=hR;subst hR;exact hra 0 _ rfl
  |j+1,h=>
   have:=aB5 hl j x (by simpa using h);rw[show o+(j+1)=o+1+j by omega];exact this
theorem aLx {u:Ty}{m:Option (Nat×Nat)}{bv:(Ty.pair (.list (.int .u8)) .unit).den}{l:List u.den}(hget:qK (.list u) (.pair .mref (.pair (.list (.int .u8)) .unit)) (m,bv) 1=some l):l.length=bv.1.length:=by
 have h2:qK (.list u) (.list (.int .u8)) bv.1 0=some l:=hget;simp only[qK] at h2;split at h2
 ·rename_i h;injection h with h
  subst h;cases h2;rfl
 ·cases h2
theorem aLy:zO Tryz.prog 54 a0u:=by
 refine⟨fun _ _=>rfl,fun g w args vals L r hH ha hC hs=> ?_⟩;unfold a0u at hC;split at hC
 ·rename_i bv n;cases hC;obtain rfl:n=List.length bv.1:=hs _ (by simp);obtain⟨va,_,rfl,ra,hv⟩:=ha;cases hv;have hg0:pG (pN 0 [pC.cells (.pair .mref (.pair (.list (.int .u8)) .unit)) ((some (0,0)),bv) [(1,1)],.grow 5 1 (List.length bv.1)]) 0=some (.cells (.pair .mref (.pair (.list (.int .u8)) .unit)) ((some (0,0)),bv) [(1,1)]):=rfl;have hg1:pG (pN 0 [pC.cells (.pair .mref (.pair (.list (.int .u8)) .unit)) ((some (0,0)),bv) [(1,1)],.grow 5 1 (List.length bv.1)]) 1=some (.grow 5 1 (List.length bv.1)):=rfl;obtain⟨p,cs,hJ,hR,hra,hth,hns,htk⟩:=hH.blk 0 _ hg0;obtain⟨v',xs,hv',hown,hmax,hsl⟩:=hH.blk 1 _ hg1;obtain⟨c1,c2,rfl,hR1,hR2⟩:=hR;obtain⟨d1,d2,rfl,⟨a,cap,rfl,hcap,hl⟩,hd2⟩:=hR2;obtain⟨p',hJ',⟨hp0,_,_,_⟩,hc1⟩:=hR1;rw[hJ] at hJ';obtain rfl:=aTI hJ';obtain⟨b,o,k⟩:=p;have ho:o=0:=by simpa using hp0
  subst ho;have hlen1:c1.length=1:=by rcases hc1 with rfl|rfl<;>rfl
  obtain⟨q,hq,hva⟩:=AI ra.1;rw[hJ] at hq;cases hq;subst hva;have hcell1:w.cell? ⟨b,1,none⟩=some (.slice a bv.1.length cap):=hra 1 _ (by rw[aTP (by omega),hlen1];rfl);obtain⟨u,l,v,hget,hcv,hcur⟩:=htk 1 1 (by simp);have hvv:v= .slice a bv.1.length cap:=by
   rw[aTP (by omega),hlen1] at hcv;exact(aTI hcv).symm
  have hll:l.length=bv.1.length:=aLx hget;rw[hll,hv',hvv] at hcur;obtain rfl:=aTI hcur;have hbl:b<w.heap.size:=TD hcell1;have hdr: ∀(s:List UInt8) (sd:List Prop),JN g w _ ⟨sd,[(.val .str s,none)],[.cells (.pair .mref (.pair (.list (.int .u8)) .unit)) ((some (0,0)),bv) [],.dead]⟩ g w.drew (.string ⟨s.toArray⟩):=fun s sd=>
   a0v hH rfl rfl rfl (aTZ _) (fun _ _ _=>rfl) (fun _ _ h=>h) (fun _ _ _=>rfl)
  obtain⟨hx,⟨hnil,h0⟩ |⟨gb,cap',cur,hsl',hb0,hbk,hnc,hcm,hcs,htake⟩⟩:=hown
  ·have hb0:bv.1=[]:=aVb.1 h0;have hz:s5 bv.1=[]:=by rw[hb0];rfl
   have hl0:List.length bv.1=0:=h0;injection hnil with e1 e2 e3
   subst e1;subst e3;refine(a0t Tryz.lays169 Tryz.builderExtra b bv.1.length 0 none none .empty w w.drew hcell1 rfl (by rw[hl0];exact Any.unsafeString_none Tryz.lays169 Tryz.builderExtra w.drew none)).mono ?_;rintro e w' ⟨rfl,rfl⟩;exact⟨_,g,rfl,by rw[hz];exact hdr [] _⟩
  ·injection hsl' with e1 e2 e3
   subst e1;subst e3;have hsz:bv.1.length<=cur.size:=by omega
   by_cases hb0:bv.1=[]
   ·have hz:s5 bv.1=[]:=by rw[hb0];rfl
    have hl0:List.length bv.1=0:=by rw[hb0];rfl
    by_cases hc0:cap=0
    ·subst hc0;rw[hl0] at hcell1;refine(aLs Tryz.lays169 Tryz.builderExtra b gb cur w hbl hcell1 hbk).mono ?_;rintro e w' ⟨rfl,rfl⟩;have hold: ∀c,c<w.heap.size->(w.drew.alloc (.view ⟨gb,0,none⟩ 5)).heap[c]? =w.heap[c]? :=fun c hc=>Lib.alloc_old w.drew _ c hc;refine⟨_,g,rfl,?_⟩;rw[hz];exact a0v hH rfl rfl rfl (by simp) (fun c o hc=>aT4 (a:=⟨c,o,none⟩) (hold c hc)) (fun c s h=>(DF (hold c (DE h))).trans h) (fun c hc _=>hold c hc)
    ·refine(a0t Tryz.lays169 Tryz.builderExtra b bv.1.length cap (some ⟨gb,0,none⟩) (some ⟨gb,0,none⟩) .empty w w.drew hcell1 (Lib.run_unsafeSliceData_row _ _ _ _ _ _ hc0) (by rw[hl0];exact Any.unsafeString_none Tryz.lays169 Tryz.builderExtra w.drew _)).mono ?_;rintro e w' ⟨rfl,rfl⟩;exact⟨_,g,rfl,by rw[hz];exact hdr [] _⟩
   ·have hcap0:cap≠0:=fun h=>hb0 (aVb.1 (by omega));have hcb: ∀j x,bv.1[j]? =some x->w.cell? ⟨gb,j,none⟩=some (.int .u8 x):=by
     rcases hl with hl|⟨b',o',ha',hl⟩
     ·exact absurd hl hb0
     ·cases ha';intro j x hj;have:=aB5 hl j x hj;rwa [aUg] at this
    have hbk':w.drew.heap[gb]? =some (.cells cur 5 (0,0)):=hbk;have hshp:w.drew.shape? gb=some (5,cur.size):=by simp only[World.shape?,hbk']
    refine(a0t Tryz.lays169 Tryz.builderExtra b bv.1.length cap (some ⟨gb,0,none⟩) (some ⟨gb,0,none⟩) ⟨(s5 bv.1).toArray⟩ w (w.drew.freeze ⟨gb,0,none⟩ bv.1.length) hcell1 (Lib.run_unsafeSliceData_row _ _ _ _ _ _ hcap0)
     (aLr w.drew _ _ _ 5 (Tryz.lays169).t127 (Tryz.builderExtra).cellsByte gb cur.size hshp bv.1 hb0 hsz (by unfold maxLen at hcm;omega) (fun j x h=>by rw[aUQ,aUg];exact hcb j x h))).mono ?_
    rintro e w' ⟨rfl,rfl⟩;refine⟨_,g,rfl,?_⟩;have hblk: ∀c,(∀o,¬rJ g 1 (.grow 5 1 (List.length bv.1)) c o)->(w.drew.freeze ⟨gb,0,none⟩ bv.1.length).heap[c]? =w.heap[c]? :=fun c hc=>aLv w.drew _ _ c fun e=>hc 0 ⟨_,hv',by rw[e];rfl⟩;have hr:=aLw w.drew ⟨gb,0,none⟩ bv.1.length;refine a0v hH hr.1 hr.2.1 hr.2.2.1 (aVh hr.2.2.2.symm) (fun c o _=>aLt w.drew _ _ _) (fun c s h=>(aLu w.drew _ _ c).trans h) (fun c _ hc=>hblk c hc)
 ·cases hC
theorem aB6:sM Tryz.prog 149 ⟨(.pair .str (.pair .str .unit)),0,0,false,[]⟩:=⟨by kernel_rfl,(show ((_/\∃_,_/\_)\/_)/\_ from⟨.inl ⟨rfl,_,Tryz.underlying149,(show _/\_/\_/\_ from⟨rfl,by kernel_rfl,by kernel_rfl,(show _/\_/\_/\_ from⟨rfl,by kernel_rfl,by kernel_rfl,trivial⟩)⟩)⟩,(fun h=>absurd h (by decide))⟩)⟩
theorem UH {P:Program}(w:World) (dT sT ty elem:TypeId) (sz g o dLen dCap:Nat) (a:Addr) (sLen sCap:Nat) (cur:Array Value) (t:TypeId) (cs:List Value)
  (hu:P.underlying dT=some (.slice elem)) (hs:(P.info? elem).map (·.size)=some sz)
  (hg:w.heap[g]? =some (.cells cur t (0,0))) (hn:cs.length=Nat.min sLen dLen*sz)
  (hsrc: ∀j v,cs[j]? =some v->w.cell? (a.add j)=some v) (hfit:o+cs.length<=cur.size) (h1: ∀v∈cs,v.oneCell'=true):
  (Builtin.copy_ #[dT,sT] ty #[.slice (some ⟨g,o,none⟩) dLen dCap,.slice (some a) sLen sCap]).run P w=
   .ok (goInt (Nat.min sLen dLen:Nat)) (w.setRow g (cur.toList.take o++cs++cur.toList.drop (o+cs.length)).toArray):=by
 have hl:=run_loadCells_list (P:=P) w a cs hsrc;have hst:=run_storeCells_at P g o t cs 0 cur w hg (by simpa using hfit) h1;cases hq:P.info? elem with
 |none=>simp [hq] at hs
 |some i=>
  have hi:i.size=sz:=by simpa[hq] using hs
  simp [Builtin.copy_,aTX hu,Builtin.lenOf,Builtin.firstCells,sizeOf,typeInfo,hq,hi,<-hn,hl,hst]
theorem aLz {P:Program}(w:World) (tS tR e:TypeId) (ht:P.underlying tS=some (.slice e)) (size:Nat) (hz: ∀w,(Go.sizeOf e).run P w= .ok size w)
  (a b:Addr) (la ca lb cb:Nat) (hne:a.block≠b.block) (tA tB:TypeId) (kA kB:Nat)
  (hsa:w.shape? a.block=some (tA,kA)) (hkA:kA≠0) (hsb:w.shape? b.block=some (tB,kB)) (hfb: ∀o,w.frozen? ⟨b.block,o,none⟩=false) (hsp:b.spot=none):
  (Extern.SlicesOverlaps.overlaps #[tS,tS] #[tR] #[.slice (some a) la ca,.slice (some b) lb cb]).run P w= .ok (.bool false) w:=by
 have hnb:(a.block != b.block)=true:=by simpa using hne
 have hnb':(a.block==b.block)=false:=by simpa using hne
 have hfb1:w.frozen? b=false:=by
  obtain⟨bb,bo,bs⟩:=b;cases hsp;exact hfb bo
 have hfb2:=hfb kB;change Sem.run P (α:=Value) (do
  let some t:=(#[tS,tS]:Array TypeId)[0]? |stuck "slices.overlaps: no parameter types"
  let .slice elem<-underlying t|stuck "slices.overlaps: slice type expected"
  let size<-sizeOf elem
  match (some a:Option Addr),(some b:Option Addr) with
  |some a,some b=>
   if la=0\/lb=0\/size=0 then pure (Value.bool false)
   else if a.block != b.block&&(<-frozen a)&&(<-frozen b) then unsupported .addressObserved
   else do
    if a.block != b.block then do
     noView a;noView b
     if<-mayBeOne a b then return Value.bool ((<-choose (.extern "sameAddr.stringBytes" 2))==1)
    pure (Value.bool (a.block==b.block&&a.off<b.off+lb*size&&b.off<a.off+la*size))
  |_,_=>pure (Value.bool false)) w=_
 by_cases h0:la=0\/lb=0\/size=0
 ·simp [aTX ht,hz,h0]
 ·cases kA with
  |zero=>exact absurd rfl hkA
  |succ kA=>
   cases hfa:w.frozen? a<;>cases hfe:w.frozen? {block:=a.block,off:=kA+1}<;>
   simp [aTX ht,hz,h0,hnb,hnb',frozen,noView,viewAt,mayBeOne,stringish,shape,Sem.run,hsa,hsb,hfb1,hfb2,hfa,hfe]
theorem aLA {α:Type}{l:List α}{i n:Nat}(hin:i<=n):(l.drop (i*2)).take ((n-i)*2)=(l.take (n*2)).drop (i*2):=by
 rw[List.drop_take,show n*2-i*2=(n-i)*2 by omega]
theorem aB7 {α:Type}{l:List α}{i n:Nat}{v:α}(h:v∈(l.drop (i*2)).take ((n-i)*2)):v∈l.take (n*2):=by
 rw[show (n-i)*2=n*2-i*2 by omega,<-List.drop_take] at h;exact List.mem_of_mem_drop h
theorem aLB {cur c1 c2:Array Value}{mid vs:List Value}{i n m:Nat}(hc1:c1=(cur.toList.take ((i+m)*2)++mid++cur.toList.drop ((i+m)*2+mid.length)).toArray) (hc2:c2=(c1.toList.take (i*2)++vs++c1.toList.drop (i*2+vs.length)).toArray)
  (hml:mid.length=(n-i)*2) (hvl:vs.length=m*2) (hcur:(n+m)*2<=cur.toList.length) (hin:i<=n):c2.toList.take ((n+m)*2)=cur.toList.take (i*2)++vs++mid:=by
 have e1:c1.toList=cur.toList.take ((i+m)*2)++(mid++cur.toList.drop ((i+m)*2+mid.length)):=by rw[hc1,aTN]
 have l1:(cur.toList.take ((i+m)*2)).length=(i+m)*2:=by rw[aT5];omega
 have e2:c1.toList.take (i*2)=cur.toList.take (i*2):=by
  rw[e1,aU9 (by omega),List.take_take,Nat.min_eq_left (by omega)]
 have e3:c1.toList.drop (i*2+vs.length)=mid++cur.toList.drop ((i+m)*2+mid.length):=by
  rw[e1,hvl,show i*2+m*2=(cur.toList.take ((i+m)*2)).length by omega,aVn]
 have l2:(cur.toList.take (i*2)).length=i*2:=by rw[aT5];omega
 have e4:c2.toList=(cur.toList.take (i*2)++vs++mid)++cur.toList.drop ((i+m)*2+mid.length):=by rw[hc2,e2,e3];simp only[aTN]
 rw[e4,show (n+m)*2=(cur.toList.take (i*2)++vs++mid).length by simp only[aTH];omega,aUR]
theorem aLC (b n c i vb voff m vc:Nat) (cur:Array Value) (vs:List Value) (w:World) (hi:i<n) (hm:0<m) (hroom:n+m<=c) (hc63:c<=maxLen) (hvb:vb≠b)
  (hg:w.heap[b]? =some (.cells cur 149 (0,0))) (hcs:cur.size=c*2) (hvl:vs.length=m*2)
  (hvs: ∀j v,vs[j]? =some v->w.cell? ⟨vb,voff+j,none⟩=some v) (h1: ∀v∈cur.toList.take (n*2),v.oneCell'=true) (h1v: ∀v∈vs,v.oneCell'=true):
  Calls Tryz.prog 240 #[.slice (some ⟨b,0,none⟩) n c,.int .i64 i,.slice (some ⟨vb,voff,none⟩) m vc] w fun e w'=>
   e= .returned (.slice (some ⟨b,0,none⟩) (n+m) c)/\∃cur':Array Value,w'=w.drew.setRow b cur'/\cur'.size=cur.size/\cur'.toList.take ((n+m)*2)=cur.toList.take (i*2)++vs++(cur.toList.drop (i*2)).take ((n-i)*2):=by
 have u24:=aTX Tryz.underlying24;have hz1: ¬((m:Int)=0):=by omega
 have hz2: ¬((i:Int)=(n:Int)):=by omega
 have hw1:IntKind.i64.wrap ((i:Int)+(m:Int))=(i:Int)+(m:Int):=by rw[aUF];unfold maxLen at hc63;omega
 have hw2:IntKind.i64.wrap ((n:Int)+(m:Int))=(n:Int)+(m:Int):=by rw[aUF];unfold maxLen at hc63;omega
 have hb1:(0:Int)<=(i:Int)+(m:Int):=by omega
 have hin:i<=n:=by omega
 have htn:((i:Int)+(m:Int)).toNat=i+m:=by omega
 have hb2: ¬(c=i+m):=by omega
 have hb3:(i:Int)<=(n:Int)+(m:Int):=by omega
 have hb4: ¬(c=i):=by omega
 have z144: ∀w,(Go.sizeOf 149).run Tryz.prog w= .ok 2 w:=fun w=>by
  simp only[sizeOf,typeInfo,aTV,aUL,aTO];rfl
 have hsz:(Tryz.prog.info? 149).map (·.size)=some 2:=by kernel_rfl
 have hvs0:w.cell? ⟨vb,voff,none⟩=some (vs[0]'(by omega)):=hvs 0 _ (aTM (by omega));obtain⟨⟨tA,kA⟩,hsa,hkA⟩: ∃q:TypeId×Nat,w.shape? vb=some q/\q.2≠0:=by
  have h0:=hvs0;simp only[World.cell?] at h0;simp only[World.shape?];cases hh:w.heap[vb]? with
  |none=>rw[hh] at h0;simp at h0
  |some o=>
   rw[hh] at h0;cases o with
   |cells cs e fr=>
    refine⟨(e,cs.size),rfl,fun hz=> ?_⟩;have hz:cs.size=0:=hz;have:cs= #[]:=Array.eq_empty_of_size_eq_zero hz;subst this;simp at h0
   |_=>simp at h0
 have hov: ∀lb cb,(callFunc 268 #[.slice (some ⟨vb,voff,none⟩) m vc,.slice (some ⟨b,(i+m)*2,none⟩) lb cb]).run Tryz.prog w= .ok (.value (.bool false)) w:=fun lb cb=>by
  rw[run_callFunc_extern Tryz.func268 (by kernel_rfl) (by kernel_rfl) (by kernel_rfl) (e:=Extern.SlicesOverlaps.overlaps #[24,24] #[4]) (by kernel_rfl),
   aLz w 24 4 149 Tryz.underlying24 2 z144 ⟨vb,voff,none⟩ ⟨b,(i+m)*2,none⟩ m vc lb cb hvb tA 149 kA cur.size hsa hkA (by simp [World.shape?,hg]) (fun o=>Lib.frozen_of_heap hg _) rfl]
  rfl
 have mixed:Tryz.prog.follows .mixedOrders=true:=by kernel_rfl
 obtain⟨mid,hmid⟩: ∃mid,mid=(cur.toList.drop (i*2)).take ((n-i)*2):=⟨_,rfl⟩;have hml:mid.length=(n-i)*2:=by rw[hmid,aT5,aTR,aUd];omega
 have hmin1:Nat.min (n+m-i) (n+m- (i+m))=n-i:=by simp only[Nat.min_def];split<;>omega
 have hmin2:Nat.min m (n+m-i)=m:=by simp only[Nat.min_def];split<;>omega
 obtain⟨c1,hc1⟩: ∃c1:Array Value,c1=(cur.toList.take ((i+m)*2)++mid++cur.toList.drop ((i+m)*2+mid.length)).toArray:=⟨_,rfl⟩;have hc1l:c1.size=cur.size:=by rw[hc1];simp only[aUu,aTH,aT5,aTR,aUd,hml];omega
 obtain⟨c2,hc2⟩: ∃c2:Array Value,c2=(c1.toList.take (i*2)++vs++c1.toList.drop (i*2+vs.length)).toArray:=⟨_,rfl⟩;have hc2l:c2.size=cur.size:=by rw[hc2];simp only[aUu,aTH,aT5,aTR,aUd,hc1l,hvl];omega
 have hcp1: ∀ty dc sc,(Builtin.copy_ #[24,24] ty #[.slice (some ⟨b,(i+m)*2,none⟩) (n+m- (i+m)) dc,.slice (some ⟨b,i*2,none⟩) (n+m-i) sc]).run Tryz.prog w.drew= .ok (goInt (n-i:Nat)) (w.drew.setRow b c1):=fun ty dc sc=>by
  have h:=UH (P:=Tryz.prog) w.drew 24 24 ty 149 2 b ((i+m)*2) (n+m- (i+m)) dc ⟨b,i*2,none⟩ (n+m-i) sc cur 149 mid Tryz.underlying24 hsz hg (by rw[hml,hmin1]) (fun j v hj=>by
    rw[aVt];rw[hmid,aVq] at hj;split at hj
    ·rw[List.getElem?_drop,aUK] at hj;show (w.cell? ⟨b,i*2+j,none⟩)=_;rw[Lib.cell_of_heap hg];exact hj
    ·cases hj) (by rw[hml];omega) (fun v hv=>h1 v (aB7 (hmid▸hv)))
  rw[h,hmin1,hc1]
 have hg1:(w.drew.setRow b c1).heap[b]? =some (.cells c1 149 (0,0)):=aVB w.drew b cur c1 _ _ hg;have hcp2: ∀ty dc,(Builtin.copy_ #[24,24] ty #[.slice (some ⟨b,i*2,none⟩) (n+m-i) dc,.slice (some ⟨vb,voff,none⟩) m vc]).run Tryz.prog (w.drew.setRow b c1)= .ok (goInt (m:Nat)) ((w.drew.setRow b c1).setRow b c2):=fun ty dc=>by
  have h:=UH (P:=Tryz.prog) (w.drew.setRow b c1) 24 24 ty 149 2 b (i*2) (n+m-i) dc ⟨vb,voff,none⟩ m vc c1 149 vs Tryz.underlying24 hsz hg1 (by rw[hvl,hmin2]) (fun j v hj=>by
    rw[aVt,aT4 (w:=w) (a:=⟨vb,voff+j,none⟩) (aVc w.drew b vb c1 hvb)];exact hvs j v hj) (by rw[hvl,hc1l];omega) h1v
  rw[h,hmin2,hc2]
 have Hmid:=Lib.hid hmid;have Hc1:=Lib.hid hc1;have Hc2:=Lib.hid hc2;have Hs1:=Lib.hid hc1l;have Hs2:=Lib.hid hc2l;have Hml:=Lib.hid hml;clear hmid hc1 hc2 hc1l hc2l hml hmin1 hmin2
 go_enter Tryz.func240,Tryz.ntmps240
 go_wp2_with (simp only[hov])
 go_region_law_o (refine step_copy_runI rfl _ _ 24 24 rfl _ _ (by simp [Act.eval,Act.put]) (by simp [Act.eval,Act.put]) (hcp1 _ _ _) ?_)
 go_wp2_with (at_builtin;refine wpList_copy_runI _ rfl _ _ 24 24 rfl _ _ rfl rfl (hcp2 _ _) ?_)
 go_ret
 refine⟨rfl,c2,?_,Hs2.out,?_⟩
 ·rw[setRow_setRow]
 ·rw[<-Hmid.out];exact aLB Hc1.out Hc2.out Hml.out hvl (by rw[aUd];omega) hin
theorem aLD (base:Option Addr) (n c i:Nat) (v0:Option Addr) (vc:Nat) (w:World) (hi:i<=n) (hnc:n<=c) (hc63:c<=maxLen):
  Calls Tryz.prog 240 #[.slice base n c,.int .i64 i,.slice v0 0 vc] w fun e w'=>e= .returned (.slice base n c)/\w'=w:=by
 have u24:=aTX Tryz.underlying24
 go_enter Tryz.func240,Tryz.ntmps240
 go_wp2_with fail
 all_goals (go_ret;exact⟨rfl,rfl⟩)
theorem aLE (v:Value) (n vb voff m vc:Nat) (xs vs:List Value) (w:World) (hm:0<m) (hown:w.ownsRow 0 149 2 v n xs) (h63:n+m<=maxLen) (hby:(n+m)*32<=140737488355328)
  (hvl:vs.length=m*2) (hvs: ∀j v,vs[j]? =some v->w.cell? ⟨vb,voff+j,none⟩=some v) (h1v: ∀v∈vs,v.oneCell'=true):
  Calls Tryz.prog 240 #[v,.int .i64 n,.slice (some ⟨vb,voff,none⟩) m vc] w fun e w'=>
   ∃q cap,e= .returned (.slice (some ⟨q,0,none⟩) (n+m) cap)/\w'.ownsRow 0 149 2 (.slice (some ⟨q,0,none⟩) (n+m) cap) (n+m) (xs++vs)/\
   (q=w.heap.size\/v.ownBlock=some q)/\w.grownBy w' v.ownBlock:=by
 have u24:=aTX Tryz.underlying24;obtain⟨inf,hi,hsz,hz⟩:=FY aB6;have hby2:inf.bytes=32:=by
  have:(Tryz.prog.info? 149).map (·.bytes)=some 32:=by kernel_rfl
  rw[hi] at this;exact aTI this
 have hrun: ∀ty,∃q cap w',(Builtin.append_ #[24,24] ty #[v,.slice (some ⟨vb,voff,none⟩) m vc]).run Tryz.prog w= .ok (.slice (some ⟨q,0,none⟩) (n+m) cap) w'/\_:=
  fun ty=>YW (P:=Tryz.prog) w 24 ty 149 inf _ 2 32 Tryz.underlying24 hi hz hsz hby2 (by rfl) v n xs hown ⟨vb,voff,none⟩ m vc vs hvl (fun j u hj=>by rw[aVt];exact hvs j u hj) h1v hm h63 hby
 obtain⟨q,cap,w2,hr,h1,h2,h3,h4,h5⟩:=hrun 24;have H1:=Lib.hid h1;have H2:=Lib.hid h2;have H3:=Lib.hid h3;have Hown:=Lib.hid hown;have hz1: ¬((m:Int)=0):=by omega
 have hmx:n+m<=9223372036854775807:=by unfold maxLen at h63;omega
 obtain⟨hxl,hv⟩:=hown;clear h1 h2 h3 h5 hrun hz hsz hby2 hi hxl;rcases hv with⟨rfl,rfl⟩ |⟨b,c,cur,rfl,_,hbk,hnc,hcm,hcs,htk⟩
 ·clear Hown;rw[aUg] at hr
  go_enter Tryz.func240,Tryz.ntmps240
  go_wp2_with (at_builtin;refine Lib.wpList_append_run _ rfl _ _ _ _ rfl _ _ rfl rfl _ _ hr ?_)
  all_goals (go_ret;exact⟨q,cap,by rw[aUg];rfl,H1.out,H2.out,H3.out⟩)
 ·clear hbk hcs htk;have hcm:c<=9223372036854775807:=by unfold maxLen at hcm;omega
  go_enter Tryz.func240,Tryz.ntmps240
  go_wp2_with (at_builtin;refine Lib.wpList_append_run _ rfl _ _ _ _ rfl _ _ rfl rfl _ _ hr ?_)
  all_goals (go_ret;exact⟨q,cap,rfl,H1.out,H2.out,H3.out⟩)
theorem aLF (b n c i vb voff m vc:Nat) (cur:Array Value) (vs:List Value) (w:World) (hi:i<n) (hm:0<m) (hnc:n<=c) (hroom:c<n+m) (hbig:(n+m)*32<=140737488355328)
  (hg:w.heap[b]? =some (.cells cur 149 (0,0))) (hcs:cur.size=c*2) (hvl:vs.length=m*2)
  (hvs: ∀j v,vs[j]? =some v->w.cell? ⟨vb,voff+j,none⟩=some v) (h1: ∀v∈cur.toList.take (n*2),v.oneCell'=true) (h1v: ∀v∈vs,v.oneCell'=true):
  Calls Tryz.prog 240 #[.slice (some ⟨b,0,none⟩) n c,.int .i64 i,.slice (some ⟨vb,voff,none⟩) m vc] w fun e w'=>
   ∃G,e= .returned (.slice (some ⟨w.heap.size,0,none⟩) (n+m) G)/\w'.ownsRow 0 149 2 (.slice (some ⟨w.heap.size,0,none⟩) (n+m) G) (n+m) (cur.toList.take (i*2)++vs++(cur.toList.drop (i*2)).take ((n-i)*2))/\w.grownBy w' none:=by
 have u24:=aTX Tryz.underlying24;have mixed:Tryz.prog.follows .mixedOrders=true:=by kernel_rfl
 obtain⟨inf,hinf,hzs,hz⟩:=FY aB6;have hzb:inf.bytes=32:=by
  have:(Tryz.prog.info? 149).map (·.bytes)=some 32:=by kernel_rfl
  rw[hinf] at this;exact aTI this
 have hsz:(Tryz.prog.info? 149).map (·.size)=some 2:=by kernel_rfl
 have hz1: ¬((m:Int)=0):=by omega
 have hz2: ¬((i:Int)=(n:Int)):=by omega
 have hz3:(c:Int)<(n:Int)+(m:Int):=by omega
 have hbw:b<w.heap.size:=by
  rcases aUX b w.heap.size with h|h
  ·exact h
  ·rw[Array.getElem?_eq_none h] at hg;cases hg
 have hvw:vb<w.heap.size:=block_lt_of_cell (hvs 0 _ (aTM (by omega)));have hkk:(n:Int)+(m:Int)- (i:Int)=((n+m-i:Nat):Int):=by omega
 have hik:i+(n+m-i)=n+m:=by omega
 have hold:(Builtin.firstCells inf.size i (.slice (some ⟨b,0,none⟩) i c)).run Tryz.prog w.drew= .ok (cur.toList.take (i*2)).toArray w.drew:=by
  rw[hzs];exact run_firstCells_some w.drew 2 i ⟨b,0,none⟩ i c (cur.toList.take (i*2)) (by rw[aT5,aUd];omega) (fun j v hj=>by
   rw[aVt,aUg];rw[aVq] at hj;split at hj
   ·rw[aUK] at hj;show w.cell? ⟨b,j,none⟩=_;rw[Lib.cell_of_heap hg];exact hj
   ·cases hj)
 have hrz: ∀ty,(Builtin.append_ #[24,3] ty #[.slice (some ⟨b,0,none⟩) i c,.int .i64 ((n:Int)+(m:Int)- (i:Int))]).run Tryz.prog w=
   .ok (.slice (some ⟨w.heap.size,0,none⟩) (n+m) (grownCap w (n+m) c 149)) (w.drew.alloc (.cells ((cur.toList.take (i*2)).toArray++Builtin.zeroCells (wD (.pair .str (.pair .str .unit))).cells (n+m-i)++Builtin.zeroCells (wD (.pair .str (.pair .str .unit))).cells (grownCap w (n+m) c 149- (n+m))) 149)):=fun ty=>by
  have h:=Lib.run_append_grow_zeros (P:=Tryz.prog) w 24 3 ty 149 inf _ .i64 .i64 Tryz.underlying24 Tryz.underlying3 hinf hz (some ⟨b,0,none⟩) i c (cur.toList.take (i*2)) hold (n+m-i) (by omega) (by rw[hzs];decide) (by omega) (by omega) (by rw[hzb];omega) (by rw[hzb,hik];exact growslice_fits hroom hbig);rw[hik] at h;rw[hkk];exact h
 obtain⟨G,hG⟩: ∃G,G=grownCap w (n+m) c 149:=⟨_,rfl⟩;obtain⟨ROW,hROW⟩: ∃ROW:Array Value,ROW=(cur.toList.take (i*2)).toArray++Builtin.zeroCells (wD (.pair .str (.pair .str .unit))).cells (n+m-i)++Builtin.zeroCells (wD (.pair .str (.pair .str .unit))).cells (G- (n+m)):=⟨_,rfl⟩;rw[<-hG] at hrz;rw[<-hROW] at hrz;have hGn:n+m<=G:=by rw[hG];exact grownCap_ge w _ _ _
 have hGm:G<=maxLen:=by rw[hG];exact grownCap_le_maxLen w (n+m) c _ (by unfold maxLen;omega)
 have hzc:(wD (.pair .str (.pair .str .unit))).cells.size=2:=rfl;have hRl:ROW.size=G*2:=by
  rw[hROW];simp only[aVQ,aUu,size_zeroCells,hzc,aT5,aUd];omega
 have hRt:ROW.toList.take (i*2)=cur.toList.take (i*2):=by
  rw[hROW];simp only[Array.toList_append,aTN];rw[aU9 (by rw[aT5,aUd];omega),List.take_take,Nat.min_self]
 obtain⟨q,hq⟩: ∃q,q=w.heap.size:=⟨_,rfl⟩;obtain⟨mid,hmid⟩: ∃mid,mid=(cur.toList.drop (i*2)).take ((n-i)*2):=⟨_,rfl⟩;have hml:mid.length=(n-i)*2:=by rw[hmid,aT5,aTR,aUd];omega
 have hmin1:Nat.min m (n+m-i)=m:=by simp only[Nat.min_def];split<;>omega
 have hmin2:Nat.min (n-i) (n+m- (i+m))=n-i:=by simp only[Nat.min_def];split<;>omega
 obtain⟨c1,hc1⟩: ∃c1:Array Value,c1=(ROW.toList.take (i*2)++vs++ROW.toList.drop (i*2+vs.length)).toArray:=⟨_,rfl⟩;have hc1l:c1.size=G*2:=by rw[hc1];simp only[aUu,aTH,aT5,aTR,aUd,hRl,hvl];omega
 obtain⟨c2,hc2⟩: ∃c2:Array Value,c2=(c1.toList.take ((i+m)*2)++mid++c1.toList.drop ((i+m)*2+mid.length)).toArray:=⟨_,rfl⟩;have hc2l:c2.size=G*2:=by rw[hc2];simp only[aUu,aTH,aT5,aTR,aUd,hc1l,hml];omega
 obtain⟨W1,hW1⟩: ∃W1,W1=w.drew.alloc (.cells ROW 149):=⟨_,rfl⟩;rw[<-hW1] at hrz;have hbq:b≠q:=by omega
 have hvq:vb≠q:=by omega
 have hg1:W1.heap[q]? =some (.cells ROW 149 (0,0)):=by rw[hW1,hq];exact aVR w.drew _
 have hO1: ∀k,k<w.heap.size->W1.heap[k]? =w.heap[k]? :=fun k hk=>by rw[hW1];exact aT9 w.drew _ k hk
 have hcpA: ∀(W:World),W.heap=W1.heap->∀ty dc,(Builtin.copy_ #[24,24] ty #[.slice (some ⟨q,i*2,none⟩) (n+m-i) dc,.slice (some ⟨vb,voff,none⟩) m vc]).run Tryz.prog W= .ok (goInt (m:Nat)) (W.setRow q c1):=fun W hW ty dc=>by
  have h:=UH (P:=Tryz.prog) W 24 24 ty 149 2 q (i*2) (n+m-i) dc ⟨vb,voff,none⟩ m vc ROW 149 vs Tryz.underlying24 hsz (by rw[hW];exact hg1) (by rw[hvl,hmin1]) (fun j v hj=>by
    rw[aVt,aT4 (w:=w) (a:=⟨vb,voff+j,none⟩) (by rw[hW];exact hO1 vb hvw)];exact hvs j v hj) (by rw[hvl,hRl];omega) h1v
  rw[h,hmin1,hc1]
 have hcpB: ∀(W:World),W.heap=(W1.setRow q c1).heap->∀ty dc sc,(Builtin.copy_ #[24,24] ty #[.slice (some ⟨q,(i+m)*2,none⟩) (n+m- (i+m)) dc,.slice (some ⟨b,i*2,none⟩) (n-i) sc]).run Tryz.prog W= .ok (goInt (n-i:Nat)) (W.setRow q c2):=fun W hW ty dc sc=>by
  have h:=UH (P:=Tryz.prog) W 24 24 ty 149 2 q ((i+m)*2) (n+m- (i+m)) dc ⟨b,i*2,none⟩ (n-i) sc c1 149 mid Tryz.underlying24 hsz (by rw[hW];exact aVB W1 q ROW c1 _ _ hg1) (by rw[hml,hmin2]) (fun j v hj=>by
    rw[aVt,aT4 (w:=w) (a:=⟨b,i*2+j,none⟩) (by rw[hW,aVc W1 q b c1 hbq];exact hO1 b hbw),Lib.cell_of_heap hg];rw[hmid,aVq] at hj;split at hj
    ·rw[List.getElem?_drop,aUK] at hj;exact hj
    ·cases hj) (by rw[hml,hc1l];omega) (fun v hv=>h1 v (aB7 (hmid▸hv)))
  rw[h,hmin2,hc2]
 have hGi: ¬(G=i):=by omega
 have hGim: ¬(G=i+m):=by omega
 have hci: ¬(c=i):=by omega
 have hw1:IntKind.i64.wrap ((i:Int)+(m:Int))=(i:Int)+(m:Int):=by rw[aUF];omega
 have hw2:IntKind.i64.wrap ((n:Int)+(m:Int))=(n:Int)+(m:Int):=by rw[aUF];omega
 have hw3:IntKind.i64.wrap ((n:Int)+(m:Int)- (i:Int))=(n:Int)+(m:Int)- (i:Int):=by rw[aUF];omega
 have hb1:(0:Int)<=(i:Int)+(m:Int):=by omega
 have hin:i<=n:=by omega
 have htn:((i:Int)+(m:Int)).toNat=i+m:=by omega
 have hb3:(i:Int)<=(n:Int):=by omega
 have hG63:G<=9223372036854775807:=by unfold maxLen at hGm;omega
 rw[<-hq] at hrz⊢;have hend: ∀W:World,W.heap=((W1.setRow q c1).setRow q c2).heap->W.os=w.os->W.tape=w.tape->W.output=w.output->
   W.ownsRow 0 149 2 (.slice (some ⟨q,0,none⟩) (n+m) G) (n+m) (cur.toList.take (i*2)++vs++mid)/\w.grownBy W none:=fun W hW e1 e2 e3=>by
  have hg2:W.heap[q]? =some (.cells c2 149 (0,0)):=by rw[hW];exact aVB (W1.setRow q c1) q c1 c2 _ _ (aVB W1 q ROW c1 _ _ hg1)
  have hs:w.heap.size<=W.heap.size:=by
   have:=(aT3.1 hg2).1;omega
  refine⟨⟨?_,.inr ⟨q,G,c2,rfl,aUC _,hg2,hGn,hGm,hc2l,?_⟩⟩,⟨e1,e2,e3,hs,fun k hk _=> ?_⟩⟩
  ·simp only[aTH,aT5,aUd,hml,hvl];omega
  ·have x1:c1.toList=cur.toList.take (i*2)++vs++ROW.toList.drop (i*2+vs.length):=by rw[hc1,hRt]
   have l1:(cur.toList.take (i*2)++vs).length=(i+m)*2:=by rw[aTH,aT5,aUd,hvl];omega
   have x2:c2.toList=cur.toList.take (i*2)++vs++mid++c1.toList.drop ((i+m)*2+mid.length):=by
    rw[hc2];show c1.toList.take ((i+m)*2)++mid++_=_;rw[x1,<-l1,aUR]
   rw[x2,show (n+m)*2=(cur.toList.take (i*2)++vs++mid).length by rw[aTH,l1,hml];omega,aUR]
  ·rw[hW,aVc _ q k c2 (by omega),aVc _ q k c1 (by omega)];exact hO1 k hk
 have Hmid:=Lib.hid hmid;have Hq:=Lib.hid hq;have Hend:=Lib.hid hend;have HW1:=Lib.hid hW1;clear hkk hik hold hROW hG hRl hmid hq hend hW1 hc1 hc2 hc1l hc2l hml hmin1 hmin2 hz hzs hzb hinf hRt hg1 hO1
 go_enter Tryz.func240,Tryz.ntmps240
 go_wp2_with (first
  |(at_builtin;refine Lib.wpList_append_run _ rfl _ _ _ _ rfl _ _ rfl rfl _ _ (hrz _) ?_)
  |(at_builtin;refine wpList_copy_runI _ rfl _ _ 24 24 rfl _ _ rfl rfl (hcpA _ rfl _ _) ?_))
 go_region_law_o (refine step_copy_runI rfl _ _ 24 24 rfl (.slice (some ⟨q,(i+m)*2,none⟩) (n+m- (i+m)) (G- (i+m))) (.slice (some ⟨b,i*2,none⟩) (n-i) (c-i)) (by simp [Act.eval,Act.put]) (by simp [Act.eval,Act.put]) (hcpB (W1.setRow q c1).drew rfl _ (G- (i+m)) (c-i)) ?_)
 go_wp2_with fail
 go_ret
 rw[<-Hmid.out];exact⟨G,rfl,Hend.out _ rfl (by rw[HW1.out];rfl) (by rw[HW1.out];rfl) (by rw[HW1.out];rfl)⟩
theorem aLG (v:Value) (n i m vc:Nat) (v0:Option Addr) (xs vs:List Value) (w:World) (hin:i<=n) (hown:w.ownsRow 0 149 2 v n xs) (hby:(n+m)*32<=140737488355328)
  (h1: ∀u∈xs,u.oneCell'=true) (hv0:m=0\/∃vb voff,v0=some ⟨vb,voff,none⟩/\v.ownBlock≠some vb/\∀j u,vs[j]? =some u->w.cell? ⟨vb,voff+j,none⟩=some u)
  (hvl:vs.length=m*2) (h1v: ∀v∈vs,v.oneCell'=true):
  Calls Tryz.prog 240 #[v,.int .i64 i,.slice v0 m vc] w fun e w'=>
   ∃v',e= .returned v'/\w'.ownsRow 0 149 2 v' (n+m) (xs.take (i*2)++vs++xs.drop (i*2))/\(m=0->v'=v)/\(∀b,v'.ownBlock=some b->b=w.heap.size\/v.ownBlock=some b)/\w.grownBy w' v.ownBlock:=by
 have h63:n+m<=maxLen:=by unfold maxLen;omega
 rcases Nat.eq_zero_or_pos m with hm|hm
 ·subst hm;have hvs:vs=[]:=aVb.1 (by omega);subst hvs;have hres:w.ownsRow 0 149 2 v (n+0) (xs.take (i*2)++[]++xs.drop (i*2)):=by
   rw[List.append_nil,aU3];exact hown
  obtain⟨base,c,rfl,hnc,hc⟩: ∃base c,v= .slice base n c/\n<=c/\c<=maxLen:=by
   rcases hown.2 with⟨rfl,rfl⟩ |⟨b,c,cur,rfl,_,_,h2,h3,_⟩
   ·exact⟨none,0,rfl,aTZ _,by unfold maxLen;omega⟩
   ·exact⟨_,c,rfl,h2,h3⟩
  refine(aLD base n c i v0 vc w hin hnc hc).mono ?_;rintro e w' ⟨rfl,rfl⟩;exact⟨_,rfl,hres,fun _=>rfl,fun b hb=> .inr hb,World.grownBy.refl _ _⟩
 ·obtain⟨vb,voff,rfl,hvb,hvs⟩: ∃vb voff,v0=some ⟨vb,voff,none⟩/\v.ownBlock≠some vb/\∀j u,vs[j]? =some u->w.cell? ⟨vb,voff+j,none⟩=some u:=by
   rcases hv0 with h|h
   ·omega
   ·exact h
  have hxl:=hown.1;rcases aUX i n with hlt|hge
  ·rcases hown.2 with⟨rfl,rfl⟩ |⟨b,c,cur,rfl,_,hbk,hnc,hcm,hcs,htk⟩
   ·omega
   ·have hb:vb≠b:=fun h=>hvb (by rw[h];rfl);have hx1:cur.toList.take (i*2)=xs.take (i*2):=by rw[<-htk,List.take_take,Nat.min_eq_left (by omega)]
    have hx2:(cur.toList.drop (i*2)).take ((n-i)*2)=xs.drop (i*2):=by rw[aLA hin,htk]
    rcases aUX c (n+m) with hr|hr
    ·refine(aLF b n c i vb voff m vc cur vs w hlt hm hnc hr hby hbk hcs hvl hvs (by rw[htk];exact h1) h1v).mono ?_;rintro e w' ⟨G,rfl,ho,hg⟩;rw[hx1,hx2] at ho;exact⟨_,rfl,ho,fun h=>by omega,fun b hb=> .inl (by simpa[Value.ownBlock] using hb.symm),⟨hg.os,hg.tape,hg.output,hg.size,fun k hk _=>hg.block k hk (by simp)⟩⟩
    ·refine(aLC b n c i vb voff m vc cur vs w hlt hm hr hcm hb hbk hcs hvl hvs (by rw[htk];exact h1) h1v).mono ?_;rintro e w' ⟨rfl,cur',rfl,hs,ht⟩;rw[hx1,hx2] at ht;refine⟨_,rfl,⟨?_,.inr ⟨b,c,cur',rfl,aUC _,aVB w.drew b cur cur' _ _ hbk,hr,hcm,by rw[hs,hcs],ht⟩⟩,fun h=>by omega,fun b' hb'=> .inr hb',⟨rfl,rfl,rfl,by simp,fun k hk hne=>aVc w.drew b k cur' (fun h=>hne (by rw[h];rfl))⟩⟩;simp only[aTH,aT5,aTR,hxl,hvl];omega
  ·obtain rfl:i=n:=by omega
   refine(aLE v i vb voff m vc xs vs w hm hown h63 hby hvl hvs h1v).mono ?_;rintro e w' ⟨q,cap,rfl,ho,hq,hg⟩;refine⟨_,rfl,?_,fun h=>by omega,fun b hb=> ?_,hg⟩
   ·rw[<-hxl,List.take_length,aUk,List.append_nil];exact ho
   ·have hb:q=b:=by simpa[Value.ownBlock] using hb
    exact hb▸hq
theorem aB8 {α:Type}{R:α->List Value->Prop}{c:Nat}: ∀{l:List α}{cs:List Value}(i:Nat),sI R c l cs->sI R c (l.take i) (cs.take (i*c))
 |_,_,0,_=>by simp [sI]
 |[],_,_+1,h=>by rw[show _=[] from h];simp [sI]
 |x::l,_,i+1,⟨c1,c2,e,h1,h2,h3⟩=>by
  refine⟨c1,c2.take (i*c),?_,h1,h2,aB8 i h3⟩;rw[e,aUJ,Nat.add_comm,<-h1,List.take_length_add_append]
theorem aB9 {α:Type}{R:α->List Value->Prop}{c:Nat}: ∀{l:List α}{cs:List Value}(i:Nat),sI R c l cs->sI R c (l.drop i) (cs.drop (i*c))
 |_,_,0,h=>by simpa using h
 |[],_,_+1,h=>by rw[show _=[] from h];simp [sI]
 |x::l,_,i+1,⟨c1,c2,e,h1,h2,h3⟩=>by
  rw[e,show (i+1)*c=c1.length+i*c by rw[h1,aUJ,Nat.add_comm],List.drop_length_add_append];exact aB9 i h3
def BC {t:Type}(l:List t) (i:Int) (v:List t):List t:=List.take i.toNat l++v++List.drop i.toNat l
@[go_sem] def a0w:List pD->List pC->Option pJ
 |[(.own 0 O,none),(.val (.int .i64) Z,none),(.val (.list (.pair .str (.pair .str .unit))) aA,none)],[.row 149 (.pair .str (.pair .str .unit)) aB aC]=>
  some ⟨[O=aC,0<=Z/\Z<=List.length aB,(List.length aB+List.length aA)*32<=140737488355328],[(.own 0 (List.length (BC aB Z aA)),none)],[.row 149 (.pair .str (.pair .str .unit)) (BC aB Z aA) (List.length (BC aB Z aA))]⟩
 |_,_=>none
theorem aLH:zO Tryz.prog 240 a0w:=by
 refine⟨fun _ _=>rfl,fun g w args vals L r hH ha hC hs=> ?_⟩;unfold a0w at hC;split at hC
 ·rename_i n iI vl l n2;cases hC;obtain rfl:n=n2:=hs _ (by simp);obtain⟨hi0,hil⟩:=hs (0<=iI/\iI<=List.length l) (by simp);have hby:=hs ((List.length l+List.length vl)*32<=140737488355328) (by simp);clear hs;obtain⟨va,_,rfl,ra,vb,_,rfl,rb,vc,_,rfl,rc,hv⟩:=ha;cases hv;have hg0:pG (pN 0 [pC.row 149 (.pair .str (.pair .str .unit)) l n]) 0=some (.row 149 (.pair .str (.pair .str .unit)) l n):=rfl;obtain⟨hl,v,xs,hcur,hown,hF,hnone,hseal⟩:=hH.blk 0 _ hg0;have hva:va=v:=by
   have:=ra.1.1;rw[hcur] at this;exact(aTI this).symm
  subst hva;obtain⟨i,rfl⟩:=Int.eq_ofNat_of_zero_le hi0;have hvb:vb= .int .i64 i:=v7 rb.1;subst hvb;obtain⟨a,cap,rfl,hcap,hlist⟩:=DH rc.1;have hRone: ∀(x:(Ty.pair .str (.pair .str .unit)).den) cs,Rd g w (.pair .str (.pair .str .unit)) x cs->∀v∈cs,v.oneCell'=true:=fun x cs h=>B5 h;obtain⟨vs,hFv,hv0⟩: ∃vs,sI (Rd g w (.pair .str (.pair .str .unit))) 2 vl vs/\(vl.length=0\/∃vb voff,a=some ⟨vb,voff,none⟩/\va.ownBlock≠some vb/\∀j u,vs[j]? =some u->w.cell? ⟨vb,voff+j,none⟩=some u):=by
   rcases hlist with rfl|⟨b,o,rfl,hL⟩
   ·exact⟨[],rfl,.inl rfl⟩
   ·obtain⟨cs,h1,h2,h3⟩:=LP hL;rcases Nat.eq_zero_or_pos vl.length with h0|h0
    ·exact⟨cs,h1,.inl h0⟩
    ·exact⟨cs,h1,.inr ⟨b,o,rfl,fun hb=>hseal b hb _ (h3 0 (Nat.mul_pos h0 (by decide))),h2⟩⟩
  have hvl:=HJ hFv;have hil2:(i:Int)<=(l.length:Int):=hil;have hil':i<=n:=by omega
  subst hl;refine(aLG va l.length i vl.length cap a xs vs w (by omega) hown hby (OT hRone hF) hv0 hvl (OT hRone hFv)).mono ?_;rintro e w' ⟨v',rfl,hown',hm0,hob,hgr⟩;have hlen:(BC l (i:Int) vl).length=l.length+vl.length:=by
   simp only[BC,aUv,aTH,aT5,aTR];omega
  have hF':sI (Rd g w (.pair .str (.pair .str .unit))) 2 (BC l (i:Int) vl) (xs.take (i*2)++vs++xs.drop (i*2)):=by
   unfold BC;rw[aUv];exact OL (OL (aB8 i hF) hFv) (aB9 i hF)
  have hsl: ∀b o,g.S b o->w'.cell? ⟨b,o,none⟩=w.cell? ⟨b,o,none⟩:=fun b o h=>aT4 (a:=⟨b,o,none⟩) (hgr.block b (hH.sl b o h) (fun e=>hseal b e.symm o h));have hE:=rG.row (side:=[]) (rds:=[]) (s:=(.own 0 (BC l (i:Int) vl).length,none)) (val:=v') (k:=0) (g:=g) (w:=w) (H:=pN 0 [pC.row 149 (.pair .str (.pair .str .unit)) l l.length]) hH (e:=149) (t:= .pair .str (.pair .str .unit)) (l:=BC l (i:Int) vl) (n:=(BC l (i:Int) vl).length) (v:=v') rfl (by rw[hlen];exact hown') hF'
   (fun m hm=>hnone m (by omega)) (fun u hu=>by
    rcases Nat.eq_zero_or_pos vl.length with h0|h0
    ·rw[hlen,h0,aVd,hcur] at hu;rw[hm0 h0];exact(aTI hu).symm
    ·rw[hnone _ (by omega)] at hu;cases hu)
   (.inr ⟨va.ownBlock,hgr,fun b hb o=>⟨0,_,by simp,hg0,va,hcur,hb⟩⟩) hsl
   (fun b hb o hS=>by
    rcases hob b hb with h|h
    ·have:=hH.sl b o hS;omega
    ·exact hseal b h o hS)
   (fun b hb=>(hob b hb).imp (fun h=>by omega) fun h o=>⟨0,_,by simp,hg0,va,hcur,h⟩)
   ⟨⟨by simp [Gh.tok],by
    rw[hlen];rcases hown'.2 with⟨rfl,h⟩ |⟨b,cap',_,rfl,_,_,h,_⟩
    ·exact .inl ⟨rfl,h⟩
    ·exact .inr ⟨b,cap',rfl,h⟩⟩,trivial⟩
  refine⟨v',_,rfl,⟨fun b o h=>⟨hE.le.S b o h,hE.le.cell b o h⟩,hE.heap.ext ?_,hE.slot,hE.fr.mono fun b o ⟨i,blk,_,h1,h2⟩=>⟨i,blk,h1,h2⟩,fun i blk b o hi ho=> ?_,fun i t x ts h=> ?_,fun i t x ts u y us h _=> ?_,fun _ _ _ h=>h,fun i m u hi h=> ?_⟩⟩
  ·intro i
   match i with
   |0=>rfl
   |i+1=>rfl
  ·match i,hi with
   |0,hi=>
    cases hi;exact(hE.perm 0 _ b o (by simp [pH]) rfl ho).imp id fun⟨i,blk,_,h1,h2⟩=>⟨i,blk,h1,h2⟩
   |i+1,hi=>simp at hi
  ·match i,h with
   |0,h=>cases h
   |i+1,h=>simp at h
  ·match i,h with
   |0,h=>cases h
   |i+1,h=>simp at h
  ·exact hE.le.cur i m u h
 ·cases hC
end Go.Proofs.YtbbpilohihldiaaGreatDoor
namespace Go.Proofs.YtbbpilohihldiaaGreatDoor.Vc
open Go.RowKit
@[go_sem] def a0x (np:Nat):DV->Bool
 | .any=>true
 | .nilS=>true
 | .val .ref (some (i,_))=>decide (i<np)
 | .val .ref none=>true
 | .val t _=>t.pure
 |_=>false
@[go_sem] def UI (np:Nat):pD->Bool
 |(d,none)=>a0x np d
 |(.val (.list t) _,some k)=>t.pure&&decide (k<np)
 |_=>false
@[go_sem] def M3 (np:Nat):List (Nat×pD)->Bool
 |[]=>true
 |(_,s)::r=>UI np s&&M3 np r
theorem aCa {np:Nat}: ∀{env:List (Nat×pD)},M3 np env=true->∀t,UI np (lk env t)=true
 |[],_,t=>rfl
 |(k,s)::r,h,t=>by
  simp only[M3,aTL] at h;unfold lk;split
  ·exact h.1
  ·exact aCa h.2 t
theorem aLI {np:Nat}{g g':Gh}{w:World}(hS:g'.S=g.S) (hJ: ∀i,i<np->g'.J i=g.J i) (hC: ∀i n,i<np->g'.cur i n=g.cur i n) {s:pD}{v:Value}(hp:UI np s=true) (h:r5 g w s v):r5 g' w s v:=by
 have hV: ∀{t:Ty}{x:t.den},t.pure=true->sE g w t x v->sE g' w t x v:=fun ht hv=>by
  rcases hv with⟨h1,cs,h2,h3⟩ |⟨h1,h2⟩
  ·exact .inl ⟨h1,cs,h2,uV hS ht h3⟩
  ·exact .inr ⟨h1,uV hS ht h2⟩
 have hD: ∀d,a0x np d=true->zK g w d v->zK g' w d v:=by
  intro d hd hr;unfold a0x at hd;split at hd
  ·trivial
  ·exact hr
  ·rename_i i o;have hi:=aUm hd;rcases hr with⟨h1,_⟩ |⟨h1,h2⟩
   ·cases h1
   ·refine .inr ⟨h1,?_⟩;obtain⟨p,hp1,hp2⟩:=h2;exact⟨p,(hJ i hi).trans hp1,hp2⟩
  ·rcases hr with⟨h1,_⟩ |⟨h1,h2⟩
   ·cases h1
   ·exact .inr ⟨h1,h2⟩
  ·exact hV hd hr
  ·cases hd
 obtain⟨d,k⟩:=s;cases k with
 |none=>exact⟨hD d hp h.1,trivial⟩
 |some k=>
  unfold UI at hp;split at hp
  ·rename_i heq;cases heq
  ·rename_i t x k' heq;cases heq;simp only[aTL,aTK] at hp;exact⟨hV (t:= .list t) hp.1 h.1,(hC k _ hp.2).trans h.2⟩
  ·cases hp
theorem aLJ {np:Nat}{g g':Gh}{w w':World}{env:List (Nat×pD)}{tmps:Array Value}(h:B8 g w env tmps) (hp:M3 np env=true) (hS: ∀b o,g.S b o->g'.S b o) (hc: ∀b o,g.S b o->w'.cell? ⟨b,o,none⟩=w.cell? ⟨b,o,none⟩)
  (hJ: ∀i p,i<np->g.J i=some p->g'.J i=some p) (hC: ∀i n v,i<np->g.cur i n=some v->g'.cur i n=some v):B8 g' w' env tmps:=fun t=>by
 have le:Le g w ⟨g'.S,fun i=>if i<np then g'.J i else g.J i,fun i n=>if i<np then g'.cur i n else g.cur i n⟩ w':=by
  refine⟨hS,hc,fun i p hi=> ?_,fun i n v hi=> ?_⟩
  ·show (if i<np then _ else _)=_;split
   ·rename_i hlt;exact hJ i p hlt hi
   ·exact hi
  ·show (if i<np then _ else _)=_;split
   ·rename_i hlt;exact hC i n v hlt hi
   ·exact hi
 exact aLI (np:=np) (g:=⟨g'.S,fun i=>if i<np then g'.J i else g.J i,fun i n=>if i<np then g'.cur i n else g.cur i n⟩) (g':=g') rfl (fun i hi=>(aTD hi).symm) (fun i n hi=>by show g'.cur i n=(if i<np then g'.cur i n else g.cur i n);rw[aTD hi]) (aCa hp t) (B4 le (h t))
theorem sB.inner {A A':Nat->Nat->Prop}{L L':List pC}{g0 g g':Gh}{w0 w w':World}{H H':rI}(h:sB A L g0 w0 g w H) (k:sB A' L' g w g' w' H') (hA: ∀b o,A' b o->w.heap.size<=b\/yW g H b o) (hl:L.length<=L'.length)
  (hL: ∀i,i<L.length->∀b,L'[i]? =some b->pG H i=some b):sB A L g0 w0 g' w' H':=by
 have own: ∀b o,A' b o->w0.heap.size<=b\/A b o:=fun b o x=>by
  rcases hA b o x with h1|⟨i,blk,h1,h2⟩
  ·exact .inl (aUE h.fr.size h1)
  ·exact h.perm i blk b o h1 h2
 refine⟨fun b o x=> ?_,h.fr.trans k.fr own,fun i blk b o h1 h2=> ?_,fun i p hi hp=>k.J i p (by omega) (h.J i p hi hp),fun i hi=>k.live i (by omega),fun i u y us hi hg=> ?_,fun i n v hi hv=>k.cur i n v (by omega) (h.cur i n v hi hv)⟩
 ·obtain⟨h1,h2⟩:=h.shut b o x;obtain⟨k1,k2⟩:=k.shut b o h1;exact⟨k1,k2.trans h2⟩
 ·rcases k.perm i blk b o h1 h2 with h3|h3
  ·exact .inl (aUE h.fr.size h3)
  ·exact own b o h3
 ·obtain⟨x,ts,hx⟩:=k.ty i u y us (by omega) hg;exact h.ty i u x ts hi (hL i hi _ hx)
theorem sB.start {g:Gh}{w:World}{H:rI}{L':List pC}(hH:rT g w H) (hL: ∀i b,L'[i]? =some b->pG H i=some b/\b≠.dead) (hty: ∀i,i<L'.length->∀b,pG H i=some b->L'[i]? =some b):sB (yW g H) L' g w g w H:=by
 refine⟨fun b o h=>⟨h,rfl⟩,Fr.refl _ _ _,fun i blk b o hg ho=> .inr ⟨i,blk,hg,ho⟩,fun _ _ _ h=>h,fun i hi=> ?_,fun i u y us hi hg=>⟨y,us,hty i hi _ hg⟩,fun _ _ _ _ h=>h⟩;obtain⟨h1,h2⟩:=hL i L'[i] (by simp);have hbk:=hH.blk i _ h1;generalize L'[i]=blk at hbk h2;cases blk with
 |cells t x ts=>obtain⟨p,cs,hp,_⟩:=hbk;exact .inl ⟨p,hp⟩
 |grow e c n=>obtain⟨v,xs,hv,_⟩:=hbk;exact .inr ⟨n,v,hv⟩
 |row e t l n=>obtain⟨_,v,xs,hv,_⟩:=hbk;exact .inr ⟨n,v,hv⟩
 |map k v l=>obtain⟨p,es,cl,hp,_⟩:=hbk;exact .inl ⟨p,hp⟩
 |iter s n=>obtain⟨p,hp,_⟩:=hbk;exact .inl ⟨p,hp⟩
 |dead=>exact absurd rfl h2
@[go_sem] def PJ (env:List (Nat×pD)):List Nat->List pD->List (Nat×pD)
 |p::ps,s::ss=>PJ (sU (some p) s env) ps ss
 |_,_=>env
theorem aCb {g:Gh}{w:World}: ∀{ps:List Nat}{ss:List pD}{vs:List Value}{env:List (Nat×pD)}{tmps:Array Value},B8 g w env tmps->(∀p∈ps,p<tmps.size)->uP g w ss vs->ps.length=ss.length->
  B8 g w (PJ env ps ss) ((ps.zip vs).foldl (fun t (q:Nat×Value)=>t.setIfInBounds q.1 q.2) tmps)/\((ps.zip vs).foldl (fun t (q:Nat×Value)=>t.setIfInBounds q.1 q.2) tmps).size=tmps.size
 |[],[],vs,env,tmps,h,_,ha,_=>by
  have:vs=[]:=ha;subst this;exact⟨h,rfl⟩
 |p::ps,s::ss,vs,env,tmps,h,hp,ha,hl=>by
  obtain⟨v,vs',rfl,h1,h2⟩:=ha;have hput:B8 g w (sU (some p) s env) (tmps.setIfInBounds p v):=ZR (a:={tmps:=tmps,defers:=[]}) (o:=⟨some p,.move (.tmp 0),0, "",#[],none⟩) (N:=tmps.size) h (Le.refl g w) h1 rfl (by simpa[HE] using hp p (by simp))
  have:=aCb (tmps:=tmps.setIfInBounds p v) hput (fun q hq=>by simpa using hp q (aTS _ hq)) h2 (by simpa using hl);exact⟨this.1,by rw[List.zip_cons_cons,List.foldl_cons];rw[this.2];simp⟩
def aCc (P:Program) (gf:Nat) (u:Ty) {ι:Type}(pre:u.den->Prop) (items:u.den->List ι) (vl:ι->List Value):Prop:=
 (∀args w,(callFunc gf args).run P w= .ok (.enter gf args) w)/\
 ∀(l b o:Nat) (x:u.den) (cs:List Value) (g:Gh) (W0:World) (J:Nat->World->Prop) (Jx:World->Prop),pre x->Rd g W0 u x cs->
  (∀i W,J i W->W.rangeAt b o cs/\∀b o,g.S b o->W.cell? ⟨b,o,none⟩=W0.cell? ⟨b,o,none⟩)->
  (∀i W d,J i W->J i {W with drawn:=d})->(∀W d,Jx W->Jx {W with drawn:=d})->
  (∀i it W,(items x)[i]? =some it->J i W->YieldAt Fence.wide 0 P l (vl it).toArray W fun e W'=>(e= .returned (.bool true)/\J (i+1) W')\/(e= .returned (.bool false)/\Jx W'))->
  ∀W,J 0 W->Calls P gf #[.func (.yield l) #[] #[],.pointer (some ⟨b,o,none⟩)] W fun e W'=>(∃v,e= .returned v)/\(J (items x).length W'\/Jx W')
def DL {ι σ ρ:Type}(f:ι->σ->Option (σ⊕ρ)):List ι->σ->Option (σ⊕ρ)
 |[],x=>some (.inl x)
 |it::r,x=>(f it x).bind fun w=>match w with
  | .inl x'=>DL f r x'
  | .inr y=>some (.inr y)
theorem aLK {ι σ ρ:Type}{f:ι->σ->Option (σ⊕ρ)}{it:ι}{r:List ι}{x:σ}{y:σ⊕ρ}(h:DL f (it::r) x=some y): ∃w,f it x=some w/\(∀x',w= .inl x'->DL f r x'=some y)/\(∀z,w= .inr z->y= .inr z):=by
 unfold DL at h;cases hf:f it x with
 |none=>rw[hf] at h;cases h
 |some w=>
  rw[hf] at h;refine⟨w,rfl,fun x' e=> ?_,fun z e=> ?_⟩
  ·subst e;exact h
  ·subst e;exact(aTI h).symm
def qA (st:St):Ex->St->Prop
 | .normal,s=> ∃k:vH,s.keep k=st
 |_,_=>False
def qF {σ ρ:Type}(encH:σ->List pC) (E0:List (Nat×pD)) (N np np':Nat) (w:σ⊕ρ) (Q:Ex->St->Prop):Ex->St->Prop
 | .normal,s=> ∃(k:vH) (x:σ),w= .inl x/\s.keep k=⟨[],pN 0 (encH x),pW (encH x),N,np'⟩
 |e,s=> ∃(k:vH) (B:List pC),s.keep k=⟨[],pN 0 B,pW B,N,np'⟩/\(∃z,w= .inr z)/\Q e ⟨E0,pN 0 B,pW B,N,np⟩
section
variable {B:Nat}{A:Nat->Nat->Prop}{L:List pC}{g0 g:Gh}{w0 w:World}{b0 o0 n0:Nat}{cs:List Value}{E0:List (Nat×pD)}{tmps:Array Value}{ds:List Deferred}
structure EX (B:Nat) (A:Nat->Nat->Prop) (L:List pC) (g0:Gh) (w0:World) (g:Gh) (w:World) (b0 o0 n0:Nat) (cs:List Value) (E0:List (Nat×pD)) (tmps:Array Value) (ds:List Deferred) (g1:Gh) (W:World) (H:rI):Prop where
 env:B8 g1 W E0 tmps
 heap:rT g1 W H
 good:sB A L g0 w0 g1 W H
 sld: ∀b o,g.S b o->g1.S b o/\W.cell? ⟨b,o,none⟩=w.cell? ⟨b,o,none⟩
 rng:W.rangeAt b0 o0 cs
 len:cs.length=n0
 lt:0<n0->b0<W.heap.size
 out: ∀o,o0<=o->o<o0+n0->¬yW g1 H b0 o
 defs:yX B W ds
theorem EX.turn {g1:Gh}{W W2:World}{H:rI}(h:EX B A L g0 w0 g w b0 o0 n0 cs E0 tmps ds g1 W H) (t:u7 w0.heap.size W W2) {ds':List Deferred}(hd:yX B W2 ds'):EX B A L g0 w0 g w b0 o0 n0 cs E0 tmps ds' g1 W2 H:=by
 refine⟨fun x=>B4 (t.le h.heap.sl) (h.env x),t.heapOk h.heap,h.good.turn h.heap.sl t,fun b o x=>⟨(h.sld b o x).1,(t.cell (h.heap.sl b o (h.sld b o x).1) o).1.trans (h.sld b o x).2⟩,fun j v hv=> ?_,h.len,fun x=>aUj (h.lt x) t.size,h.out,hd⟩;have hj:j<cs.length:=(aTU.1 hv).1;have:=h.len;exact(t.cell (h.lt (by omega)) _).1.trans (h.rng j v hv)
theorem EX.inner {g1 g2:Gh}{W W2:World}{H H2:rI}{L':List pC}{np':Nat}(h:EX B A L g0 w0 g w b0 o0 n0 cs E0 tmps ds g1 W H) (k:sB (yW g1 H) L' g1 W g2 W2 H2) (hH:rT g2 W2 H2) (hpin:M3 np' E0=true) (hnp:np'=L'.length) (hl:L.length<=L'.length)
  (hL: ∀i,i<L.length->∀b,L'[i]? =some b->pG H i=some b):EX B A L g0 w0 g w b0 o0 n0 cs E0 tmps ds g2 W2 H2:=by
 subst hnp;refine⟨aLJ h.env hpin (fun b o x=>(k.shut b o x).1) (fun b o x=>(k.shut b o x).2) (fun i p hi x=>k.J i p hi x) (fun i n v hi x=>k.cur i n v hi x),hH,h.good.inner k (fun b o x=> .inr x) hl hL,fun b o x=> ?_,fun j v hv=> ?_,h.len,fun x=>aUj (h.lt x) k.fr.size,fun o h1 h2 ⟨i,blk,h3,h4⟩=> ?_,h.defs.same fun D hD=> ?_⟩
 ·obtain⟨h1,h2⟩:=h.sld b o x;exact⟨(k.shut b o h1).1,(k.shut b o h1).2.trans h2⟩
 ·have hj:j<cs.length:=(aTU.1 hv).1;have:=h.len;exact(k.fr.cell _ _ (h.lt (by omega)) (h.out _ (by omega) (by omega))).1.trans (h.rng j v hv)
 ·rcases k.perm i blk _ _ h3 h4 with h5|h5
  ·have:=h.lt (by omega);omega
  ·exact h.out o h1 h2 h5
 ·rw[k.fr.blk D (aT3.1 hD).1 (fun o ⟨i,blk,h1,h2⟩=>U3 (h.heap.blk i blk h1) h2 hD rfl)];exact hD
theorem aCd {g1 g2:Gh}{W W2:World}{H H2:rI}{L':List pC}(hH:rT g1 W H) (k:sB (yW g1 H) L' g1 W g2 W2 H2) {D:Nat}{ob:Obj}(hD:W.heap[D]? =some ob) (hm:G1 ob=true):W2.heap[D]? =some ob:=by
 rw[k.fr.blk D (aT3.1 hD).1 (fun o ⟨i,blk,h1,h2⟩=>U3 (hH.blk i blk h1) h2 hD hm)];exact hD
end
theorem u7.put {B:Nat}{W:World}{l:Nat}{o o':Obj}(h:W.heap[l]? =some o) (hB:B<=l) (hN:NG<=l) (hm:G1 o=true) (hm':G1 o'=true):u7 B W (W.putObj l o'):=by
 have hlt:=(aT3.1 h).1;refine⟨rfl,rfl,rfl,by simp [World.putObj],fun b hb=> ?_⟩;by_cases e:b=l
 ·subst e;exact .inr ⟨hB,hN,_,_,h,World.putObj_heap_same hlt,hm,hm'⟩
 ·exact .inl (World.putObj_heap_other e)
theorem u7.new (B:Nat) (W:World) (o:Obj):u7 B W (W.alloc o):=by
 refine⟨rfl,rfl,rfl,by simp,fun b hb=> .inl ?_⟩;exact aT9 W o b hb
theorem aCe {e:Ex}{x:Exit}(h:CT x=some e):(x= .normal/\e= .normal)\/(x= .ret/\e= .ret)\/∃id,x= .exit id/\e= .exit id:=by
 cases x<;>simp only[CT,aTE] at h
 ·exact .inl ⟨rfl,h.symm⟩
 ·exact .inr (.inr ⟨_,rfl,h.symm⟩)
 ·cases h
 ·exact .inr (.inl ⟨rfl,h.symm⟩)
 ·cases h
 ·cases h
def aLL:Ex->Option Code
 | .normal=>none
 | .ret=>some .ret
 | .exit id=>some (.exit id)
theorem aLM {P:Program}{gf:Nat}{u:Ty}{ι:Type}{pre:u.den->Prop}{items:u.den->List ι}{vl:ι->List Value}(hit:aCc P gf u pre items vl) {sl:ι->List pD}(hsl: ∀it g w,uP g w (sl it) (vl it))
  {fo:Operand}{ps:Array Tmp}{assign body:Code}{s:St}{Q:Ex->St->Prop}{c:Nat}{k0:Option Nat}(hf:sY s.env fo=(.val .clo (some (gf,[(c,0)])),k0)) {xc:u.den}{toks:List (Nat×Nat)}(hc:pG s.H c=some (.cells u xc toks)) (hpre:pre xc)
  {σ ρ:Type}{f:ι->σ->Option (σ⊕ρ)}{x0:σ}{y:σ⊕ρ}(hy:DL f (items xc) x0=some y)
  (E0:List (Nat×pD)) (E1:ι->List (Nat×pD)) (encH:σ->List pC) (np':Nat) (k:vH) (hk:wQ s.np k.ids=true) (h0:s.keep k=⟨E0,pN 0 (encH x0),pW (encH x0),s.N,s.np⟩)
  (hcd:k.ids.all (fun q=>decide (q.2≠c))=true) (hpin:M3 np' E0=true) (hnp:s.np<=np') (hlen: ∀x,np'<=pW (encH x)) (hdead: ∀x,((encH x).take np').all (fun b=>match b with| .dead=>false|_=>true)=true)
  (hps: ∀it,ps.toList.length=(sl it).length) (hpN:(ps.toList.all fun p=>decide (p<s.N))=true)
  (hround: ∀it x w,f it x=some w->(∀z,w= .inr z->y= .inr z)->Ev true P assign ⟨PJ E0 ps.toList (sl it),pN 0 (encH x),pW (encH x),s.N,np'⟩ (qA ⟨E1 it,pN 0 (encH x),pW (encH x),s.N,np'⟩)/\
   Ev true P body ⟨E1 it,pN 0 (encH x),pW (encH x),s.N,np'⟩ (qF encH E0 s.N s.np np' w Q))
  (hdone: ∀x,y= .inl x->Q .normal ⟨E0,pN 0 (encH x),pW (encH x),s.N,s.np⟩):Ev false P (.rangeFunc fo ps assign body) s Q:=by
 intro ro hro A L g0 w0 g a w B hB hr hg hn;have hN:ro=none:=by cases ro<;>first|rfl|cases hro
 subst hN;have hfv:=zQ hr.env fo;rw[hf] at hfv;obtain⟨p,hpJ,hev⟩: ∃p,g.J c=some p/\a.eval fo= .func (.func gf) #[] #[.pointer (some ⟨p.1,p.2,none⟩)]:=by
  rcases hfv.1 with⟨h1,_⟩ |⟨_,vs,⟨p,vs',h4,h5,h6⟩,h3⟩
  ·cases h1
  ·rw[show vs'=[] from h6] at h5;subst h5;simp only[aUA,and_true] at h3;exact⟨p,h4,h3⟩
 obtain⟨p',cs,hp',hRc,hra,hth,hns,htk⟩:=hr.heap.blk c _ hc;rw[hpJ] at hp';obtain rfl:=aTI hp';have hcl:=s0 hRc;obtain⟨hr1,hg1,hn1,_⟩:=ZQ hr hg hn k hk;have hout: ∀o,p.2<=o->o<p.2+u.cells->¬yW (tQ g s.np k.ids) (s.keep k).H p.1 o:=by
  rintro o h1 h2 ⟨i,blk,h3,h4⟩;have h3':pG (OF s k (wQ s.np k.ids)).H i=some blk:=h3;rw[hk] at h3';obtain⟨o',h5,rfl⟩:=HO h3';obtain⟨c1,h6,h7⟩:=(JQ hk h5 fun c1 hc1=>hr.heap.blk o' c1 hc1).2 _ _ h4;have h8:=aUy.1 hcd _ h5;exact hr.heap.dis o' c c1 _ p.1 o (aUm h8) h6 hc h7 ⟨p,hpJ,rfl,h1,h2⟩
 rw[h0] at hr1 hg1 hout;have inv0:EX B A L g0 w0 g w p.1 p.2 u.cells cs E0 a.tmps a.defers (tQ g s.np k.ids) w (pN 0 (encH x0)):=
  ⟨hr1.env,hr1.heap,hg1,fun b o h=>⟨h,rfl⟩,hra,hcl,fun hpos=>by
   obtain⟨v,hv⟩:=aTF.1 (hth.1 0 hpos).1;exact TD hv,hout,hr.def_⟩
 have hNG:NG<=w.heap.size:=hr.heap.tab.1.1;have hBw:w0.heap.size<=w.heap.size:=hg.fr.size;refine wpIn_rangeFunc fun fn _=> ?_;obtain⟨rec,hrec⟩: ∃rec:LoopState->Option Code->Loop,rec=fun st pe=>{state:=st,pending:=pe,fn,tmps:=a.tmps,params:=ps,assign,body,defers:=w.heap.size}:=⟨_,rfl⟩;obtain⟨W1,hW1⟩: ∃W1,(w.alloc (.deferred (some []))).alloc (.loop (rec .ready none))=W1:=⟨_,rfl⟩;have hL1:W1.heap[w.heap.size+1]? =some (.loop (rec .ready none)):=by
  rw[<-hW1];have:=World.alloc_heap_new (w.alloc (.deferred (some []))) (.loop (rec .ready none));rwa [World.size_alloc] at this
 have hK1:W1.heap[w.heap.size]? =some (.deferred (some [])):=by
  rw[<-hW1];exact(aT9 _ _ _ (by simp)).trans (World.alloc_heap_new w _)
 have t1:u7 w0.heap.size w W1:=by rw[<-hW1];exact(u7.new _ _ _).trans (u7.new _ _ _)
 obtain⟨ds,hds⟩: ∃ds:List Deferred,{target:= .collected w.heap.size,args:= #[]}::a.defers=ds:=⟨_,rfl⟩;have hd1:yX B W1 ds:=by
  rw[<-hds];refine⟨List.nodup_cons.2 ⟨fun hm=> ?_,hr.def_.1⟩,fun d hd=> ?_⟩
  ·obtain⟨D,h1,_,_,h4⟩:=hr.def_.2 _ hm;have h5:w.heap.size=D:=by injection h1 with h1;injection h1
   have:=(aT3.1 h4).1;omega
  ·rcases aTW.1 hd with rfl|hd
   ·exact⟨_,rfl,by omega,hNG,hK1⟩
   ·obtain⟨D,h1,h2,h3,h4⟩:=hr.def_.2 _ hd;have hlt:=(aT3.1 h4).1;refine⟨D,h1,h2,h3,?_⟩;rw[<-hW1];exact(aT9 _ _ D (by simp;omega)).trans ((aT9 _ _ D hlt).trans h4)
 let l:=w.heap.size+1
 let J:Nat->World->Prop:=fun i W=> ∃g1 x,DL f ((items xc).drop i) x=some y/\EX B A L g0 w0 g w p.1 p.2 u.cells cs E0 a.tmps ds g1 W (pN 0 (encH x))/\
  (∀j,pW (encH x)<=j->g1.J j=none/\∀n,g1.cur j n=none)/\W.heap[l]? =some (.loop (rec .ready none))
 let Jx:World->Prop:=fun W=> ∃g1 Bl e cd z,aLL e=some cd/\y= .inr z/\Q e ⟨E0,pN 0 Bl,pW Bl,s.N,s.np⟩/\EX B A L g0 w0 g w p.1 p.2 u.cells cs E0 a.tmps ds g1 W (pN 0 Bl)/\
  (∀j,pW Bl<=j->g1.J j=none/\∀n,g1.cur j n=none)/\s.np<=pW Bl/\W.heap[l]? =some (.loop (rec .done (some cd)))
 have tdrawn: ∀(W:World) (d:Nat),u7 w0.heap.size W {W with drawn:=d}:=fun W d=>⟨rfl,rfl,rfl,aTZ _,fun _ _=> .inl rfl⟩
 have hJd: ∀i W d,J i W->J i {W with drawn:=d}:=fun i W d ⟨g1,x,h1,h2,h3,h4⟩=>⟨g1,x,h1,h2.turn (tdrawn W d) (h2.defs.same fun _ h=>h),h3,h4⟩
 have hJxd: ∀W d,Jx W->Jx {W with drawn:=d}:=fun W d ⟨g1,Bl,e,cd,z,h1,h2,h3,h4,h5,h6,h7⟩=>⟨g1,Bl,e,cd,z,h1,h2,h3,h4.turn (tdrawn W d) (h4.defs.same fun _ h=>h),h5,h6,h7⟩
 have hround2: ∀i it W,(items xc)[i]? =some it->J i W->YieldAt Fence.wide 0 P l (vl it).toArray W fun e W'=>(e= .returned (.bool true)/\J (i+1) W')\/(e= .returned (.bool false)/\Jx W'):=by
  rintro i it W hi ⟨g1,x,hfold,inv,nb,hl⟩;have hil:i<(items xc).length:=(aTU.1 hi).1;have hdrop:(items xc).drop i=it::(items xc).drop (i+1):=by
   rw[aT2 hil];congr 1;exact(aTU.1 hi).2
  rw[hdrop] at hfold;obtain⟨wv,hw,hinl,hinr⟩:=aLK hfold;obtain⟨evA,evB⟩:=hround it x wv hw hinr;have hvl:(vl it).toArray.size=ps.size:=by
   rw[aUu,(UC (hsl it g1 W)).1,<-hps it,aUd]
  have hyl:=run_yield (P:=P) (args:=(vl it).toArray) hl (by rw[hrec];exact hvl);rw[hrec] at hyl;refine⟨fn,_,assign,body,hyl,roundIn_of_wpIn trivial ?_⟩;have hz:(ps.zip (vl it).toArray).foldl (fun tmps (t,v)=>tmps.setIfInBounds t v) a.tmps=(ps.toList.zip (vl it)).foldl (fun t (q:Nat×Value)=>t.setIfInBounds q.1 q.2) a.tmps:=by
   rw[<-aVM,Array.toList_zip]
  rw[hz];obtain⟨henv,hsz⟩:=aCb inv.env (fun q hq=>by rw[hr.size];exact aUm (aUy.1 hpN q hq)) (hsl it g1 W) (hps it);have hL'len:((encH x).take np').length=np':=by
   rw[aT5];have:=hlen x;rw[UD] at this;omega
  have hLget: ∀i b,((encH x).take np')[i]? =some b->pG (pN 0 (encH x)) i=some b:=fun i b h=>by
   rw[xC];exact(aVF (by have:=(aTU.1 h).1;omega)).symm.trans h
  have hLget2: ∀i b,((encH x).take np')[i]? =some b->pG (pN 0 (encH x)) i=some b/\b≠.dead:=fun i b h=>⟨hLget i b h,fun e=>by
   have:=aUy.1 (hdead x) b (List.mem_of_getElem? h);subst e;cases this⟩
  have hLty: ∀i,i<((encH x).take np').length->∀b,pG (pN 0 (encH x)) i=some b->((encH x).take np')[i]? =some b:=fun i hi b h=>by
   rw[xC] at h;exact(aVF (by omega)).trans h
  have gs:=sB.start inv.heap hLget2 hLty;have rA:uD W.heap.size g1 W ⟨PJ E0 ps.toList (sl it),pN 0 (encH x),pW (encH x),s.N,np'⟩ {tmps:=(ps.toList.zip (vl it)).foldl (fun t (q:Nat×Value)=>t.setIfInBounds q.1 q.2) a.tmps,defers:=[]}:=⟨henv,inv.heap,hsz.trans hr.size,nb,aA0 _ _,hlen x⟩;have hlow:L.length<=((encH x).take np').length:=by rw[hL'len,<-hn];exact hnp
  refine aVj (evA (some l) rfl _ _ g1 W g1 _ W _ (aTZ _) rA gs hL'len.symm) fun e a1 wa hp=> ?_;obtain⟨e',g2,s2,e1,e2,e3,e4,e5⟩:=hp;rcases aCe e1 with⟨rfl,rfl⟩ |⟨rfl,rfl⟩ |⟨id,rfl,rfl⟩
  ·obtain⟨kA,hkA⟩:=e2;obtain⟨g3,k1,k2,k3,_⟩:=G2 e3 e4 e5 kA;rw[hkA] at k1 k2;have inva:=inv.inner k2 k1.heap hpin hL'len.symm hlow (fun i hi b h=>hLget i b h);have hla:=aCd inv.heap k2 hl rfl;refine⟨_,run_beginRound hla (by rw[hrec]),?_⟩;obtain⟨Wb,hWb⟩: ∃Wb,wa.putObj l (.loop {rec .ready none with state:= .busy})=Wb:=⟨_,rfl⟩
   have tb:u7 w0.heap.size wa Wb:=by rw[<-hWb];exact u7.put hla (by show w0.heap.size<=w.heap.size+1;omega) (by show NG<=w.heap.size+1;omega) rfl rfl
   have hlt:=(aT3.1 hla).1;have other: ∀{W:World}{o o':Obj}{D:Nat},W.heap[l]? =some (.loop (rec .ready none))\/W.heap[l]? =some (.loop {rec .ready none with state:= .busy})->W.heap[D]? =some (.deferred (some []))->(W.putObj l o').heap[D]? =some (.deferred (some [])):=by
    intro W o o' D h1 h2;rw[World.putObj_heap_other (fun e=>by subst e;rcases h1 with h1|h1<;>(rw[h1] at h2;cases h2))]
    exact h2
   have invb:=inva.turn tb (inva.defs.same fun D hD=>by rw[<-hWb];exact other (o:= .loop (rec .ready none)) (.inl hla) hD);have hlb:Wb.heap[l]? =some (.loop {rec .ready none with state:= .busy}):=by rw[<-hWb];exact World.putObj_heap_same hlt
   rw[hWb];have gsb:=sB.start invb.heap hLget2 hLty;have rB:uD W.heap.size g3 Wb ⟨E1 it,pN 0 (encH x),pW (encH x),s.N,np'⟩ a1:=⟨fun t=>B4 (tb.le k1.heap.sl) (k1.env t),invb.heap,k1.size,k1.nb,k1.def_.same fun D hD=>by rw[<-hWb];exact other (o:= .loop (rec .ready none)) (.inl hla) hD,hlen x⟩;have hWW:W.heap.size<=Wb.heap.size:=aUE k2.fr.size tb.size;refine aVj (evB (some l) rfl _ _ g3 Wb g3 a1 Wb _ hWW rB gsb hL'len.symm) fun e a2 wc hp=> ?_;obtain⟨e',g4,s4,e1,e2,e3,e4,e5⟩:=hp;have wA: ∀(kB:vH) (Bl:List pC),s4.keep kB=⟨[],pN 0 Bl,pW Bl,s.N,np'⟩->∀jump:Option Code,∃g5,EX B A L g0 w0 g w p.1 p.2 u.cells cs E0 a.tmps ds g5 (wc.putObj l (.loop (rec (if jump.isNone then .ready else .done) jump))) (pN 0 Bl)/\
     (∀j,pW Bl<=j->g5.J j=none/\∀n,g5.cur j n=none)/\np'<=pW Bl/\(wc.putObj l (.loop (rec (if jump.isNone then .ready else .done) jump))).heap[l]? =some (.loop (rec (if jump.isNone then .ready else .done) jump))/\
     (Instr.endRound l jump).run P wc= .ok (.bool jump.isNone) (wc.putObj l (.loop (rec (if jump.isNone then .ready else .done) jump))):=by
    intro kB Bl hkB jump;obtain⟨g5,j1,j2,j3,_⟩:=G2 e3 e4 e5 kB;rw[hkB] at j1 j2;have invc:=invb.inner j2 j1.heap hpin hL'len.symm hlow (fun i hi b h=>hLget i b h);have hlc:=aCd invb.heap j2 hlb rfl;have hltc:=(aT3.1 hlc).1;have tc:u7 w0.heap.size wc (wc.putObj l (.loop (rec (if jump.isNone then .ready else .done) jump))):=u7.put hlc (by show w0.heap.size<=w.heap.size+1;omega) (by show NG<=w.heap.size+1;omega) rfl rfl;refine⟨g5,invc.turn tc (invc.defs.same fun D hD=>other (o:= .loop (rec .ready none)) (.inr hlc) hD),j1.nb,j1.np,World.putObj_heap_same hltc,?_⟩;have:=run_endRound (P:=P) jump hlc;rw[this,hrec]
   rcases aCe e1 with⟨rfl,rfl⟩ |⟨rfl,rfl⟩ |⟨id,rfl,rfl⟩
   ·obtain⟨kB,x',rfl,hkB⟩:=e2;obtain⟨g5,q1,q2,q3,q4,q5⟩:=wA kB _ hkB none;exact⟨_,_,q5,.inl ⟨rfl,g5,x',hinl x' rfl,q1,q2,q4⟩⟩
   ·obtain⟨kB,Bl,hkB,⟨z,rfl⟩,hq⟩:=e2;obtain⟨g5,q1,q2,q3,q4,q5⟩:=wA kB _ hkB (some .ret);exact⟨_,_,q5,.inr ⟨rfl,g5,Bl,.ret,.ret,z,rfl,hinr z rfl,hq,q1,q2,aUE hnp q3,q4⟩⟩
   ·obtain⟨kB,Bl,hkB,⟨z,rfl⟩,hq⟩:=e2;obtain⟨g5,q1,q2,q3,q4,q5⟩:=wA kB _ hkB (some (.exit id));exact⟨_,_,q5,.inr ⟨rfl,g5,Bl,.exit id,.exit id,z,rfl,hinr z rfl,hq,q1,q2,aUE hnp q3,q4⟩⟩
  ·exact e2.elim
  ·exact e2.elim
 refine⟨l,[{target:= .collected w.heap.size,args:= #[]}],W1,{target:= .fn (.func gf) #[.pointer (some ⟨p.1,p.2,none⟩)],args:= #[.func (.yield l) #[] #[]]},W1,gf,#[.func (.yield l) #[] #[]]++ #[.pointer (some ⟨p.1,p.2,none⟩)],W1,?_,?_,fun _ _=>trivial,?_,fun h=>(by cases h),?_⟩
 ·rw[<-hW1,hrec];exact run_enterLoop_outer _ _ _ _ _
 ·simp only[resolve,hev];simp [go_sem]
 ·simp [invoke,go_sem,hit.1]
 ·have inv1:=inv0.turn t1 hd1;refine(aA8 (ro:=none) (n:=0-1) (hit.2 l p.1 p.2 xc cs g w J Jx hpre hRc (fun i W ⟨g1,x,_,h2,_⟩=>⟨h2.rng,fun b o hb=>(h2.sld b o hb).2⟩) hJd hJxd hround2 W1 ⟨_,x0,hy,inv1,hr1.nb,hL1⟩)).mono ?_;have hend: ∀{W:World}{r:Loop},W.heap[l]? =some (.loop r)->∀{ds0:List Deferred},yX B W ds0->yX B (W.putObj l (.loop {r with state:= .exhausted})) ds0:=by
   intro W r h1 ds0 h2;refine h2.same fun D hD=> ?_;rw[World.putObj_heap_other (fun e=>by subst e;rw[h1] at hD;cases hD)];exact hD
  rintro e W2 ⟨⟨v,rfl⟩,(⟨g1,x,h1,h2,h3,h4⟩ |⟨g1,Bl,e,cd,z,h1,h2,h3,h4,h5,h6,h7⟩)⟩
  ·rw[aUk] at h1;have hyx:y= .inl x:=(aTI h1).symm;have hin:=h2.turn (u7.put (o':= .loop {rec .ready none with state:= .exhausted}) h4 (by show w0.heap.size<=w.heap.size+1;omega) (by show NG<=w.heap.size+1;omega) rfl rfl) (hend h4 h2.defs)
   refine⟨none,W2.putObj l (.loop {rec .ready none with state:= .exhausted}),by have:=run_endLoop (P:=P) h4 (by rw[hrec];simp);rw[hrec] at this⊢;exact this,?_⟩
   refine⟨.normal,g1,_,rfl,hdone x hyx,⟨hin.env,hin.heap,hr.size,h3,?_,aUE hnp (hlen x)⟩,hin.good,hn⟩;have:=hin.defs;rw[<-hds] at this;exact this
  ·have hin:=h4.turn (u7.put (o':= .loop {rec .done (some cd) with state:= .exhausted}) h7 (by show w0.heap.size<=w.heap.size+1;omega) (by show NG<=w.heap.size+1;omega) rfl rfl) (hend h7 h4.defs)
   refine⟨some cd,W2.putObj l (.loop {rec .done (some cd) with state:= .exhausted}),by have:=run_endLoop (P:=P) h7 (by rw[hrec];simp);rw[hrec] at this⊢;exact this,?_⟩
   have hdef:=hin.defs;rw[<-hds] at hdef;have hrel:uD B g1 (W2.putObj l (.loop {rec .done (some cd) with state:= .exhausted})) ⟨E0,pN 0 Bl,pW Bl,s.N,s.np⟩ {a with defers:=[{target:= .collected w.heap.size,args:= #[]}]++a.defers}:=⟨hin.env,hin.heap,hr.size,h5,hdef,h6⟩
   cases e with
   |normal=>cases h1
   |ret=>
    obtain rfl:=aTI h1;exact wpIn_ret ⟨.ret,g1,_,rfl,h3,hrel,hin.good,hn⟩
   |exit id=>
    obtain rfl:=aTI h1;exact wpIn_exit ⟨.exit id,g1,_,rfl,h3,hrel,hin.good,hn⟩
section
variable {σ ρ:Type}{encH:σ->List pC}{E0:List (Nat×pD)}{N np np':Nat}{w:σ⊕ρ}{Q:Ex->St->Prop}{st s:St}
theorem aLN (k:vH) (h:s.keep k=st):qA st .normal s:=⟨k,h⟩
theorem aLO (k:vH) (x:σ) (hw:w= .inl x) (h:s.keep k=⟨[],pN 0 (encH x),pW (encH x),N,np'⟩):qF encH E0 N np np' w Q .normal s:=⟨k,x,hw,h⟩
end
end Go.Proofs.YtbbpilohihldiaaGreatDoor.Vc
namespace Go.Proofs.YtbbpilohihldiaaGreatDoor
open Go.RowKit Go.Shelf Vc
section
attribute [local go_sem] Oper.semAt_some
def C2 (d:(Ty.pair .str (.pair (.list .str) (.pair .str .unit))).den):List (Int×List UInt8):=
 (0,d.1)::((List.range d.2.1.length).map fun j:Nat=>((j:Int)+1,d.2.1.getD j []))++[((d.2.1.length:Int)+1,d.2.2.1)]
def PL (it:Int×List UInt8):List Value:=[.int .i64 it.1,.string ⟨it.2.toArray⟩]
@[go_sem] def aCf (it:Int×List UInt8):List pD:=[(.val (.int .i64) it.1,none),(.val .str it.2,none)]
theorem aLP (it:Int×List UInt8) (g:Gh) (w:World):uP g w (aCf it) (PL it):=⟨_,_,rfl,⟨vO _ _ _ _,trivial⟩,_,_,rfl,⟨FX _ _ _,trivial⟩,rfl⟩
theorem aLQ (d:(Ty.pair .str (.pair (.list .str) (.pair .str .unit))).den):(C2 d).length=d.2.1.length+2:=by simp [C2]
theorem aLR (d:(Ty.pair .str (.pair (.list .str) (.pair .str .unit))).den):(C2 d)[0]? =some (0,d.1):=by simp [C2]
theorem aLS (d:(Ty.pair .str (.pair (.list .str) (.pair .str .unit))).den) {j:Nat}(h:j<d.2.1.length):(C2 d)[j+1]? =some ((j:Int)+1,d.2.1.getD j []):=by
 simp [C2,aTY,h]
theorem aLT (d:(Ty.pair .str (.pair (.list .str) (.pair .str .unit))).den):(C2 d)[d.2.1.length+1]? =some ((d.2.1.length:Int)+1,d.2.2.1):=by
 simp [C2]
theorem aLU:aCc Tryz.prog 92 (.pair .str (.pair (.list .str) (.pair .str .unit))) (fun d=>d.2.1.length<=4611686018427387904) C2 PL:=by
 refine⟨fun _ _=>rfl,?_⟩;intro l b o d cs g W0 J Jx hpre hR hrd hJd hJxd hY W h0;obtain⟨c1,c2,rfl,hh,c3,c4,rfl,hl,c5,c6,rfl,ht,hu⟩:=hR;rw[show c1=[.string ⟨d.1.toArray⟩] from hh] at hrd;rw[show c5=[.string ⟨d.2.2.1.toArray⟩] from ht,show c6=[] from hu] at hrd;obtain⟨a,cap,rfl,hcap,hel⟩:=hl;have r0: ∀i W,J i W->W.cell? ⟨b,o,none⟩=some (.string ⟨d.1.toArray⟩):=fun i W h=>by simpa using(hrd i W h).1 0 _ rfl
 have r1: ∀i W,J i W->W.cell? ⟨b,o+1,none⟩=some (.slice a d.2.1.length cap):=fun i W h=>(hrd i W h).1 1 _ rfl;have r2: ∀i W,J i W->W.cell? ⟨b,o+2,none⟩=some (.string ⟨d.2.2.1.toArray⟩):=fun i W h=>(hrd i W h).1 2 _ rfl;have re: ∀j,j<d.2.1.length->∃b' o',a=some ⟨b',o',none⟩/\∀i W,J i W->W.cell? ⟨b',o'+j,none⟩=some (.string ⟨(d.2.1.getD j []).toArray⟩):=by
  intro j hj;rcases hel with h|⟨b',o',h1,h2⟩
  ·rw[h] at hj;cases hj
  ·refine⟨b',o',h1,fun i W h=> ?_⟩;have hg:d.2.1[j]? =some (d.2.1.getD j []):=by rw[aT6,aTM hj];rfl
   obtain⟨cs,k1,k2,k3,k4⟩:=TG h2 hg;rw[show cs=[.string ⟨(d.2.1.getD j []).toArray⟩] from k4] at k2;have k5:=k2 0 _ rfl;have k6:=k3 0 (by decide);rw[aVd,show j*Ty.str.cells=j from aVO j] at k5 k6;rw[(hrd i W h).2 _ _ k6];exact k5
 have q0:=aLR d;have qm:=fun j=>aLS d (j:=j);have ql:=aLT d;have qn:=aLQ d;generalize hn:d.2.1.length=n at*;refine(callsIn_wide (n:=0)).1 (callsIn_of_wp Tryz.func92 rfl trivial ?_);simp only[Tryz.ntmps92,aUu,aTJ,aT0,Nat.reduceAdd,Nat.reduceSub,Array.replicate_succ,Array.replicate_zero,List.push_toArray,List.append_toArray,List.nil_append,List.cons_append];have c0:=r0 0 W h0;obtain⟨fn,tmps,assign,body,hy,hQ⟩:=hY 0 _ W q0 h0;dsimp only[PL] at hy
 gi_wp2
 refine⟨rfl,hQ.mono ?_⟩;clear hQ hy;rintro e W1 (⟨rfl,hJ1⟩ |⟨rfl,hJx⟩)
 ·have s1:=r1 _ W1 hJ1
  gi_wp2
  gi_loopw [13] (fun i wr=> ∃k:Nat,k<=n/\i= .int .i64 k/\J (k+1) wr) (fun i _=>n- (RowKit.intOf i).toNat)
  case atStart=>exact⟨0,aUC _,rfl,hJ1⟩
  case round=>
   obtain⟨k,hk,rfl,hJs⟩:=hrel;by_cases hlt:k<n
   ·obtain⟨b',o',rfl,hce⟩:=re k hlt;have hc':=hce _ _ hJs;have hq:=qm k hlt;clear re qm ql q0 hce;generalize d.2.1.getD k []=x at hc' hq;obtain⟨fn,tmps,assign,body,hy,hQ⟩:=hY _ _ wr hq hJs;dsimp only[PL] at hy
    gi_wp2
    refine⟨rfl,hQ.mono ?_⟩;clear hQ hy;rintro e W2 (⟨rfl,hJ2⟩ |⟨rfl,hJx⟩)
    ·gi_wp2
     go_roundw
     case rel=>exact⟨k+1,by omega,by simp,hJ2⟩
     case measure=>
      show n- (k+1)<n-k;omega
    ·gi_wp2
     refine bodyPost_ret (results_none rfl _ _ _) rfl ?_;exact⟨⟨_,rfl⟩,.inr hJx⟩
   ·obtain rfl:k=n:=by omega
    have s1:=r1 _ _ hJs;have s2:=r2 _ _ hJs;obtain⟨fn,tmps,assign,body,hy,hQ⟩:=hY _ _ wr ql hJs;dsimp only[PL] at hy
    gi_wp2
    refine⟨rfl,hQ.mono ?_⟩;clear hQ hy;rintro e W2 (⟨rfl,hJ2⟩ |⟨rfl,hJx⟩)
    ·gi_wp2
     go_end0
     exact⟨⟨_,rfl⟩,.inl (by rw[qn];exact hJ2)⟩
    ·gi_wp2
     go_end0
     exact⟨⟨_,rfl⟩,.inr hJx⟩
 ·gi_wp2
  refine bodyPost_ret (results_none rfl _ _ _) rfl ?_;exact⟨⟨_,rfl⟩,.inr hJx⟩
end
end Go.Proofs.YtbbpilohihldiaaGreatDoor
namespace Go.Proofs.YtbbpilohihldiaaGreatDoor
open Go.RowKit Go.Shelf Go.Lib
theorem aLV {w:World}(hc:w.cell? ⟨5,15,none⟩=some (.int .u8 4)):
  Calls Tryz.prog 299 #[.int .u64 16] w fun e w'=>e= .returned (.int .i64 4)/\w'=w:=by
 go_enter Tryz.func299,Tryz.ntmps299
 have k0:bits BinOp.and IntKind.u64 16 (IntKind.u64.wrap (-16))=16:=by decide+kernel
 have k1:IntKind.u64.wrap (16*285870213051353865) /288230376151711744=15:=by decide+kernel
 go_wp2
 go_ret
 exact⟨rfl,rfl⟩
theorem tzU {w:World}(hc:w.cell? ⟨5,15,none⟩=some (.int .u8 4)):
  Calls Tryz.prog 295 #[.int .u64 16] w fun e w'=>e= .returned (.int .i64 4)/\w'=w:=by
 go_enter Tryz.func295,Tryz.ntmps295
 go_wp2_with fail
 refine(aLV hc).mono ?_;rintro e w' ⟨rfl,rfl⟩
 go_wp2
 go_ret
 exact⟨rfl,rfl⟩
theorem aCh {w:World}:
  Calls Tryz.prog 294 #[.int .i64 16] w fun e w'=>e= .returned (.bool true)/\w'=w:=by
 have k0:bits BinOp.and IntKind.i64 16 15=0:=by decide+kernel
 go_enter Tryz.func294,Tryz.ntmps294
 go_wp2
 go_ret
 exact⟨rfl,rfl⟩
theorem aCi {w:World}{a:Addr}{v:Value}(h:w.cell? a=some v):a.block<w.heap.size:=by
 unfold World.cell? at h;split at h
 ·rename_i hb;exact(aT3.1 hb).1
 ·cases h
def JV (n:Nat):UInt8:=if n<10 then(48+n).toUInt8 else(87+n).toUInt8
theorem aLW (w:World) (d:UInt8):(convert 42 9 (.slice (some ⟨w.heap.size,64,none⟩) 1 1)).run Tryz.prog (w.alloc (.cells (Tryz.zeroCells285.setIfInBounds 64 (.int .u8 (d.toNat:Int))) 285))= .ok (.string ⟨#[d]⟩) (w.alloc (.cells (Tryz.zeroCells285.setIfInBounds 64 (.int .u8 (d.toNat:Int))) 285)):=by
 refine run_convert_bytes_back _ _ _ 5 ⟨w.heap.size,64,none⟩ 1 [d] Tryz.underlying42 Tryz.underlying5 Tryz.underlying9 fun j hj=> ?_;have:j=0:=by simpa using hj
 subst this;simp [Addr.add,aU2]
theorem a0y: ∀u:Fin 16,(⟨#[48,49,50,51,52,53,54,55,56,57,97,98,99,100,101,102,103,104,105,106,107,108,109,110,111,112,113,114,115,116,117,118,119,120,121,122]⟩:ByteArray).data[u.val]? =some (JV u.val):=by decide+kernel
theorem aLX {w:World}(hc:w.cell? ⟨5,15,none⟩=some (.int .u8 4)) (u:Nat) (hu:u<16):
  Calls Tryz.prog 285 #[.slice none 0 0,.int .u64 u,.int .i64 16,.bool false,.bool false] w fun e w'=>e= .returned (.tuple #[.slice none 0 0,.string ⟨#[JV u]⟩])/\Below w.heap.size w w':=by
 have hc2:(w.alloc (.cells Tryz.zeroCells285 285)).cell? ⟨5,15,none⟩=some (.int .u8 4):=by
  rw[aT4 (a:=⟨5,15,none⟩) (aT9 _ _ _ (aCi hc))];exact hc
 go_enter Tryz.func285,Tryz.ntmps285
 go_wp2_with fail
 refine aCh.mono ?_;rintro e w' ⟨rfl,rfl⟩
 go_wp2_with fail
 refine(tzU hc2).mono ?_;rintro e w' ⟨rfl,rfl⟩
 go_wp2_with fail
 go_rounds 1
 rw[aLW];simp only[Result.andThen];rw[Oper.upon_value]
 go_wp2
 go_ret2
 refine⟨?_,(Below.refl _ _).alloc (aTZ _) _⟩;have h:=a0y ⟨u,hu⟩;obtain⟨h1,h2⟩:=aT3.1 h;rw[<-h2];rfl
theorem aLY (w:World) (d e:UInt8):(convert 42 9 (.slice (some ⟨w.heap.size,63,none⟩) 2 2)).run Tryz.prog (w.alloc (.cells ((Tryz.zeroCells285.setIfInBounds 64 (.int .u8 (e.toNat:Int))).setIfInBounds 63 (.int .u8 (d.toNat:Int))) 285))= .ok (.string ⟨#[d,e]⟩) (w.alloc (.cells ((Tryz.zeroCells285.setIfInBounds 64 (.int .u8 (e.toNat:Int))).setIfInBounds 63 (.int .u8 (d.toNat:Int))) 285)):=by
 refine run_convert_bytes_back _ _ _ 5 ⟨w.heap.size,63,none⟩ 2 [d,e] Tryz.underlying42 Tryz.underlying5 Tryz.underlying9 fun j hj=> ?_
 match j,hj with
 |0,_=>simp [Addr.add,aU2]
 |1,_=>simp [Addr.add,aU2]
theorem aLZ: ∀u:Fin 256,bits BinOp.and IntKind.u64 (u.val:Int) 15=((u.val%16:Nat):Int):=by decide+kernel
theorem aL0 {w:World}(hc:w.cell? ⟨5,15,none⟩=some (.int .u8 4)) (u:Nat) (hu:16<=u) (hu2:u<256):
  Calls Tryz.prog 285 #[.slice none 0 0,.int .u64 u,.int .i64 16,.bool false,.bool false] w fun e w'=>e= .returned (.tuple #[.slice none 0 0,.string ⟨#[JV (u/16),JV (u%16)]⟩])/\Below w.heap.size w w':=by
 have hc2:(w.alloc (.cells Tryz.zeroCells285 285)).cell? ⟨5,15,none⟩=some (.int .u8 4):=by
  rw[aT4 (a:=⟨5,15,none⟩) (aT9 _ _ _ (aCi hc))];exact hc
 have h15:=aLZ ⟨u,hu2⟩;have hm:u%16<16:=Nat.mod_lt _ (by decide);have hq:u/16<16:=by omega
 have hq2:((u:Int)) /16=((u/16:Nat):Int):=rfl;dsimp only at h15;have H15:=Lib.hid h15;clear h15;obtain⟨m,hmm⟩: ∃m,u%16=m:=⟨_,rfl⟩;obtain⟨q,hqq⟩: ∃q,u/16=q:=⟨_,rfl⟩;rw[hmm] at hm;rw[hqq] at hq hq2;have h15:=H15.out;rw[hmm] at h15;have HM:=Lib.hid hmm;have HQ:=Lib.hid hqq;clear hmm hqq H15
 go_enter Tryz.func285,Tryz.ntmps285
 go_wp2_with fail
 refine aCh.mono ?_;rintro e w' ⟨rfl,rfl⟩
 go_wp2_with fail
 refine(tzU hc2).mono ?_;rintro e w' ⟨rfl,rfl⟩
 go_wp2_with fail
 go_rounds 2
 rw[aLY];simp only[Result.andThen];rw[Oper.upon_value]
 go_wp2
 go_ret2
 refine⟨?_,(Below.refl _ _).alloc (aTZ _) _⟩;have h:=a0y ⟨m,hm⟩;obtain⟨h1,h2⟩:=aT3.1 h;have k:=a0y ⟨q,hq⟩;obtain⟨k1,k2⟩:=aT3.1 k;rw[HM.out,HQ.out,<-h2,<-k2];rfl
def w4 (c _b:Int):List UInt8:=if c<16 then[JV c.toNat] else[JV (c.toNat/16),JV (c.toNat%16)]
theorem fb {w:World}(hc:w.cell? ⟨5,15,none⟩=some (.int .u8 4)) (u:Nat) (hu2:u<256):
  Calls Tryz.prog 285 #[.slice none 0 0,.int .u64 u,.int .i64 16,.bool false,.bool false] w fun e w'=>e= .returned (.tuple #[.slice none 0 0,.string ⟨(w4 u 16).toArray⟩])/\Below w.heap.size w w':=by
 unfold w4;by_cases h:(u:Int)<16
 ·rw[aTD h];exact aLX hc u (by omega)
 ·rw[aTG h];exact aL0 hc u (by omega) hu2
theorem aL1 {w:World}(hc:w.cell? ⟨5,15,none⟩=some (.int .u8 4)) (u:Nat) (hu2:u<256):
  Calls Tryz.prog 272 #[.int .i64 u,.int .i64 16] w fun e w'=>e= .returned (.string ⟨(w4 u 16).toArray⟩)/\Below w.heap.size w w':=by
 obtain⟨s,hs⟩: ∃s,w4 u 16=s:=⟨_,rfl⟩;have hfb:=fb hc u hu2;rw[hs] at hfb⊢;clear hs;have hk:IntKind.u64.wrap (u:Int)=u:=by rw[IntKind.wrap_u64];omega
 have hn: ¬(u:Int)<0:=by omega
 go_enter Tryz.func272,Tryz.ntmps272
 go_wp2_with fail
 refine hfb.mono ?_;rintro e w' ⟨rfl,hb⟩
 go_wp2
 go_ret
 exact⟨rfl,hb⟩
theorem aCj {w:World}(hc:w.cell? ⟨5,15,none⟩=some (.int .u8 4)) (u:Nat) (hu2:u<256):
  Calls Tryz.prog 245 #[.int .i64 u,.int .i64 16] w fun e w'=>e= .returned (.string ⟨(w4 u 16).toArray⟩)/\Below w.heap.size w w':=by
 obtain⟨s,hs⟩: ∃s,w4 u 16=s:=⟨_,rfl⟩;have hfb:=aL1 hc u hu2;rw[hs] at hfb⊢;clear hs
 go_enter Tryz.func245,Tryz.ntmps245
 go_wp2_with fail
 refine hfb.mono ?_;rintro e w' ⟨rfl,hb⟩
 go_wp2
 go_ret
 exact⟨rfl,hb⟩
#print axioms aCj
end Go.Proofs.YtbbpilohihldiaaGreatDoor
namespace Go.Proofs
open Go.RowKit Go.Lib
def Tryz.lays105_ren:Go.Shelf.Ren:=⟨fun|105=>246|212=>273|99=>136|165=>274|166=>53|170=>275|169=>54|263=>286|264=>287|206=>183|240=>93|241=>288|276=>133|277=>296|n=>n,fun|9=>9|3=>3|4=>4|20=>20|0=>0|46=>219|109=>266|5=>5|72=>84|76=>87|51=>241|146=>270|53=>243|148=>280|70=>82|37=>42|75=>86|127=>125|164=>168|80=>89|n=>n,fun|n=>n⟩
theorem Tryz.lays105:Go.Proofs.Lays.n105 Tryz.prog Tryz.lays105_ren:={
 mixed:=by kernel_rfl
 f99:=Tryz.func136.trans (aUi some (by kernel_rfl))
 f105:=Tryz.func246.trans (aUi some (by kernel_rfl))
 f165:=Tryz.func274.trans (aUi some (by kernel_rfl))
 f166:=Tryz.func53.trans (aUi some (by kernel_rfl))
 f169:=Tryz.func54.trans (aUi some (by kernel_rfl))
 f170:=Tryz.func275.trans (aUi some (by kernel_rfl))
 f206:=Tryz.func183.trans (aUi some (by kernel_rfl))
 f212:=Tryz.func273.trans (aUi some (by kernel_rfl))
 f240:=Tryz.func93.trans (aUi some (by kernel_rfl))
 f241:=Tryz.func288.trans (aUi some (by kernel_rfl))
 f263:=Tryz.func286.trans (aUi some (by kernel_rfl))
 f264:=Tryz.func287.trans (aUi some (by kernel_rfl))
 f276:=Tryz.func133.trans (aUi some (by kernel_rfl))
 f277:=Tryz.func296.trans (aUi some (by kernel_rfl))
 t0:=Tryz.underlying0
 a0:=Tryz.isAgg0
 z0:=Tryz.sizeOf0
 v0:=Tryz.zeroValue0
 t3:=Tryz.underlying3
 a3:=Tryz.isAgg3
 z3:=Tryz.sizeOf3
 v3:=Tryz.zeroValue3
 t4:=Tryz.underlying4
 a4:=Tryz.isAgg4
 z4:=Tryz.sizeOf4
 v4:=Tryz.zeroValue4
 t5:=Tryz.underlying5
 a5:=Tryz.isAgg5
 z5:=Tryz.sizeOf5
 v5:=Tryz.zeroValue5
 t9:=Tryz.underlying9
 a9:=Tryz.isAgg9
 z9:=Tryz.sizeOf9
 v9:=Tryz.zeroValue9
 t20:=Tryz.underlying20
 a20:=Tryz.isAgg20
 z20:=Tryz.sizeOf20
 v20:=Tryz.zeroValue20
 t37:=Tryz.underlying42
 a37:=Tryz.isAgg42
 z37:=Tryz.sizeOf42
 v37:=Tryz.zeroValue42
 t46:=Tryz.underlying219
 a46:=Tryz.isAgg219
 z46:=Tryz.sizeOf219
 v46:=Tryz.zeroValue219
 t51:=Tryz.underlying241
 a51:=Tryz.isAgg241
 z51:=Tryz.sizeOf241
 v51:=Tryz.zeroValue241
 t53:=Tryz.underlying243
 a53:=Tryz.isAgg243
 z53:=Tryz.sizeOf243
 v53:=Tryz.zeroValue243
 t70:=Tryz.underlying82
 a70:=Tryz.isAgg82
 z70:=Tryz.sizeOf82
 v70:=Tryz.zeroValue82
 t72:=Tryz.underlying84
 a72:=Tryz.isAgg84
 z72:=Tryz.sizeOf84
 v72:=Tryz.zeroValue84
 t75:=Tryz.underlying86
 a75:=Tryz.isAgg86
 z75:=Tryz.sizeOf86
 v75:=Tryz.zeroValue86
 t76:=Tryz.underlying87
 a76:=Tryz.isAgg87
 z76:=Tryz.sizeOf87
 v76:=Tryz.zeroValue87
 t109:=Tryz.underlying266
 a109:=Tryz.isAgg266
 z109:=Tryz.sizeOf266
 v109:=Tryz.zeroValue266
 t127:=Tryz.underlying125
 a127:=Tryz.isAgg125
 z127:=Tryz.sizeOf125
 v127:=Tryz.zeroValue125
 t146:=Tryz.underlying270
 a146:=Tryz.isAgg270
 z146:=Tryz.sizeOf270
 v146:=Tryz.zeroValue270
 t148:=Tryz.underlying280
 a148:=Tryz.isAgg280
 z148:=Tryz.sizeOf280
 v148:=Tryz.zeroValue280
 t164:=Tryz.underlying168
 a164:=Tryz.isAgg168
 z164:=Tryz.sizeOf168
 v164:=Tryz.zeroValue168}
theorem Tryz.Builder_Extra_105:Builder.Extra Tryz.prog Tryz.lays105_ren:={
 sizeBuilder:=by kernel_rfl
 liesBuilder:=by kernel_rfl
 t5:=Tryz.underlying5
 a5:=Tryz.isAgg5
 z5:=Tryz.sizeOf5
 v5:=Tryz.zeroValue5
 infoByte:=by kernel_rfl
 cellsByte:=by kernel_rfl
 sizeByte:=by kernel_rfl
 neB5:=by decide}
end Go.Proofs
namespace Go.Proofs.YtbbpilohihldiaaGreatDoor
open Vc Go.RowKit
def a0z (n:Int):Prop:=n=16
instance (n:Int):Decidable (a0z n):=inferInstanceAs (Decidable (n=16))
@[go_sem] def a0A:List pD->List pC->Option pJ
 |[(.val (.int .i64) O,none),(.val (.int .i64) Z,none)],[]=>some ⟨[0<=O/\O<256/\a0z Z],[(.val .str (w4 O Z),none)],[]⟩
 |_,_=>none
theorem aL2:zO Tryz.prog 245 a0A:=by
 refine M1 (fun _ _=>rfl) fun g w args vals L r hT ha hC hs=> ?_;unfold a0A at hC;split at hC
 ·rename_i c d;cases hC;obtain⟨h1,h2,h3⟩:=hs _ aT1;obtain⟨va,_,rfl,ra,vb,_,rfl,rb,hv⟩:=ha;obtain rfl:=v7 ra.1;obtain rfl:=v7 rb.1;cases hv;obtain⟨u,rfl⟩: ∃u:Nat,c=((u:Nat):Int):=⟨Int.toNat c,(Int.toNat_of_nonneg h1).symm⟩;have h2:(u:Int)<256:=h2;obtain rfl:d=(16:Int):=h3;have hcell:w.cell? ⟨5,15,none⟩=some (.int .u8 4):=(hT.2.2.2 _ aT1).2;exact⟨rfl,rfl,(aCj hcell u (by omega)).mono fun e w' ⟨he,hb⟩=>⟨_,he,hb,FX _ _ _,trivial⟩⟩
 ·cases hC
def JW (s:List UInt8) (c:Int):List UInt8:=Lib.repeatL s c.toNat
@[go_sem] def a0B:List pD->List pC->Option pJ
 |[(.val .str O,none),(.val (.int .i64) Z,none)],[]=>some ⟨[0<=Z/\Z<=140737488355328/\(List.length O:Int)*Z<=140737488355328],[(.val .str (JW O Z),none)],[]⟩
 |_,_=>none
theorem aL3:zO Tryz.prog 246 a0B:=by
 refine M1 (fun _ _=>rfl) fun g w args vals L r hT ha hC hs=> ?_;unfold a0B at hC;split at hC
 ·rename_i s c;cases hC;obtain⟨h1,h2,h3⟩:=hs _ aT1;obtain⟨va,_,rfl,ra,vb,_,rfl,rb,hv⟩:=ha;obtain rfl:=yB ra.1;obtain rfl:=v7 rb.1;cases hv;obtain⟨u,rfl⟩: ∃u:Nat,c=((u:Nat):Int):=⟨Int.toNat c,(Int.toNat_of_nonneg h1).symm⟩;have h2:(u:Int)<=140737488355328:=h2;have h3:((List.length s:Nat):Int)*(u:Int)<=140737488355328:=h3;have h4:List.length s*u<=140737488355328:=by rw[<-Int.natCast_mul] at h3;exact Int.ofNat_le.1 h3
  have h:=Any.strings_Repeat Tryz.lays105 Tryz.Builder_Extra_105 ⟨List.toArray s⟩ u w (by omega) (by show (List.toArray s).size*u<=_;rw[aUu];exact h4);exact⟨rfl,rfl,h.mono fun e w' ⟨he,hb⟩=>⟨_,he,hb,FX _ _ _,trivial⟩⟩
 ·cases hC
def UJ (_c:Int):List UInt8:=[]
@[go_sem] def a0C:List pD->List pC->Option pJ
 |[(.val (.int .u8) O,none)],[]=>some ⟨[False],[(.val .str (UJ O),none)],[]⟩
 |_,_=>none
theorem aL4:zO Tryz.prog 165 a0C:=by
 refine M1 (fun _ _=>rfl) fun g w args vals L r hT ha hC hs=> ?_;unfold a0C at hC;split at hC
 ·cases hC;exact(hs _ aT1).elim
 ·cases hC
end Go.Proofs.YtbbpilohihldiaaGreatDoor
namespace Go.Proofs.YtbbpilohihldiaaGreatDoor
open Vc
noncomputable section
@[go_sem] abbrev rN:Ty:=(.pair .str (.pair .str (.pair .str (.pair (.list .str) (.pair (.list .str) (.pair (.int .i64) (.pair (.list (.pair .str (.pair .str .unit))) .unit)))))))
@[go_sem] abbrev wH:Ty:=(.pair .str (.pair (.list .str) (.pair (.list (.pair .str (.pair .str .unit))) (.pair (.list rN) .unit))))
@[go_sem] abbrev G6:Ty:=(.pair .str (.pair (.list .str) (.pair .str .unit)))
@[go_sem] abbrev wT:Ty:=(.pair .mref (.pair (.list (.int .u8)) .unit))
@[go_sem] abbrev DM:Ty:=(.pair .str (.pair (.int .i64) .unit))
@[go_sem] abbrev M4:Ty:=(.pair (.int .i64) (.pair .str (.pair (.int .i64) (.pair (.int .i64) .unit))))
@[go_sem] abbrev rO:Ty:=(.pair DM (.pair M4 (.pair (.int .i64) (.pair (.int .i64) (.pair wH (.pair .mp (.pair (.list (.int .i64)) (.pair (.int .i64) .unit))))))))
@[go_sem] abbrev yT8:Ty:=(.pair .str (.pair .str (.pair .str (.pair (.list .str) (.pair (.rl 9 .str) (.pair (.int .i64) (.pair (.list (.pair .str (.pair .str .unit))) .unit)))))))
@[go_sem] abbrev sS:Ty:=(.pair yT8 (.pair .bool (.pair .mp .unit)))
@[go_sem] abbrev aCl:Ty:=(.pair rN (.pair .bool (.pair .mp .unit)))
abbrev pV:Type:=((List UInt8)×((List UInt8)×Unit))
abbrev rD:Type:=((List UInt8)×((List UInt8)×((List UInt8)×((List (List UInt8))×((List (List UInt8))×(Int×((List pV)×Unit)))))))
abbrev HS:Type:=((List UInt8)×((List (List UInt8))×((List UInt8)×Unit)))
abbrev rS:Type:=(Int×((List UInt8)×(Int×(Int×Unit))))
abbrev qZ:Type:=((List UInt8)×((List (List UInt8))×((List pV)×((List rD)×Unit))))
abbrev G7:Type:=((List UInt8)×(Int×(Int×(Int×(qZ×((List Int)×Unit))))))
@[go_sem] abbrev rP:Nat×TI:=(9,⟨.str,0,0,false,[]⟩)
theorem rQ:sM Tryz.prog rP.1 rP.2:=⟨by kernel_rfl,(show Tryz.prog.underlying _=_ from by kernel_rfl)⟩
@[go_sem] abbrev uW:Nat×TI:=(23,⟨(.list .str),9,16,false,[]⟩)
theorem vJ:sM Tryz.prog uW.1 uW.2:=⟨by kernel_rfl,(show _/\_/\_ from⟨by kernel_rfl,by kernel_rfl,by kernel_rfl⟩)⟩
@[go_sem] abbrev M5:Nat×TI:=(34,⟨G6,0,0,false,[(1,9,1)]⟩)
theorem UK:sM Tryz.prog M5.1 M5.2:=⟨by kernel_rfl,(show ((_/\∃_,_/\_)\/_)/\_ from⟨.inl ⟨rfl,_,Tryz.underlying34,(show _/\_/\_/\_ from⟨rfl,by kernel_rfl,by kernel_rfl,(show _/\_/\_/\_ from⟨rfl,by kernel_rfl,by kernel_rfl,(show _/\_/\_/\_ from⟨rfl,by kernel_rfl,by kernel_rfl,trivial⟩)⟩)⟩)⟩,(fun h=>absurd h (by decide))⟩)⟩
@[go_sem] abbrev DN:Nat×TI:=(25,⟨(.list rN),55,128,false,[]⟩)
theorem G8:sM Tryz.prog DN.1 DN.2:=⟨by kernel_rfl,(show _/\_/\_ from⟨by kernel_rfl,by kernel_rfl,by kernel_rfl⟩)⟩
@[go_sem] abbrev zR:Nat×TI:=(27,⟨wH,0,0,false,[(1,9,1),(2,149,2),(3,55,7)]⟩)
theorem BD:sM Tryz.prog zR.1 zR.2:=⟨by kernel_rfl,(show ((_/\∃_,_/\_)\/_)/\_ from⟨.inl ⟨rfl,_,Tryz.underlying27,(show _/\_/\_/\_ from⟨rfl,by kernel_rfl,by kernel_rfl,(show _/\_/\_/\_ from⟨rfl,by kernel_rfl,by kernel_rfl,(show _/\_/\_/\_ from⟨rfl,by kernel_rfl,by kernel_rfl,(show _/\_/\_/\_ from⟨rfl,by kernel_rfl,by kernel_rfl,trivial⟩)⟩)⟩)⟩)⟩,(fun h=>absurd h (by decide))⟩)⟩
@[go_sem] abbrev yZ:Nat×TI:=(55,⟨rN,0,0,false,[(3,9,1),(4,9,1),(6,149,2)]⟩)
theorem AL:sM Tryz.prog yZ.1 yZ.2:=⟨by kernel_rfl,(show ((_/\∃_,_/\_)\/_)/\_ from⟨.inl ⟨rfl,_,Tryz.underlying55,(show _/\_/\_/\_ from⟨rfl,by kernel_rfl,by kernel_rfl,(show _/\_/\_/\_ from⟨rfl,by kernel_rfl,by kernel_rfl,(show _/\_/\_/\_ from⟨rfl,by kernel_rfl,by kernel_rfl,(show _/\_/\_/\_ from⟨rfl,by kernel_rfl,by kernel_rfl,(show _/\_/\_/\_ from⟨rfl,by kernel_rfl,by kernel_rfl,(show _/\_/\_/\_ from⟨rfl,by kernel_rfl,by kernel_rfl,(show _/\_/\_/\_ from⟨rfl,by kernel_rfl,by kernel_rfl,trivial⟩)⟩)⟩)⟩)⟩)⟩)⟩)⟩,(fun h=>absurd h (by decide))⟩)⟩
@[go_sem] abbrev EY:Nat×TI:=(42,⟨(.list (.int .u8)),5,1,false,[]⟩)
theorem HT:sM Tryz.prog EY.1 EY.2:=⟨by kernel_rfl,(show _/\_/\_ from⟨by kernel_rfl,by kernel_rfl,by kernel_rfl⟩)⟩
@[go_sem] abbrev G9:Nat×TI:=(84,⟨wT,0,0,false,[(1,5,1)]⟩)
theorem JX:sM Tryz.prog G9.1 G9.2:=⟨by kernel_rfl,(show ((_/\∃_,_/\_)\/_)/\_ from⟨.inl ⟨rfl,_,Tryz.underlying84,(show _/\_/\_/\_ from⟨rfl,by kernel_rfl,by kernel_rfl,(show _/\_/\_/\_ from⟨rfl,by kernel_rfl,by kernel_rfl,trivial⟩)⟩)⟩,(fun h=>absurd h (by decide))⟩)⟩
@[go_sem] abbrev w5:Nat×TI:=(24,⟨(.list (.pair .str (.pair .str .unit))),149,32,false,[]⟩)
theorem wU:sM Tryz.prog w5.1 w5.2:=⟨by kernel_rfl,(show _/\_/\_ from⟨by kernel_rfl,by kernel_rfl,by kernel_rfl⟩)⟩
@[go_sem] abbrev C3:Nat×TI:=(149,⟨(.pair .str (.pair .str .unit)),0,1,false,[]⟩)
theorem DO:sM Tryz.prog C3.1 C3.2:=⟨by kernel_rfl,(show ((_/\∃_,_/\_)\/_)/\_ from⟨.inl ⟨rfl,_,Tryz.underlying149,(show _/\_/\_/\_ from⟨rfl,by kernel_rfl,by kernel_rfl,(show _/\_/\_/\_ from⟨rfl,by kernel_rfl,by kernel_rfl,trivial⟩)⟩)⟩,(fun _=>⟨by kernel_rfl,1,by decide,(.struct rfl Tryz.underlying149 (by kernel_rfl) (.cons (by decide) rfl (by kernel_rfl) (by kernel_rfl) (.str Tryz.underlying9) (.cons (by decide) rfl (by kernel_rfl) (by kernel_rfl) (.str Tryz.underlying9) .nil)))⟩)⟩)⟩
@[go_sem] abbrev uX:Nat×TI:=(3,⟨(.int .i64),0,0,false,[]⟩)
theorem vK:sM Tryz.prog uX.1 uX.2:=⟨by kernel_rfl,(show Tryz.prog.underlying _=_ from by kernel_rfl)⟩
@[go_sem] abbrev EZ:Nat×TI:=(4,⟨.bool,0,0,false,[]⟩)
theorem HU:sM Tryz.prog EZ.1 EZ.2:=⟨by kernel_rfl,(show Tryz.prog.underlying _=_ from by kernel_rfl)⟩
@[go_sem] abbrev HV:Nat×TI:=(66,⟨.mp,9,4,false,[]⟩)
theorem M6:sM Tryz.prog HV.1 HV.2:=⟨by kernel_rfl,(show Tryz.prog.underlying _=_ from by kernel_rfl)⟩
@[go_sem] abbrev DP:Nat×TI:=(5,⟨(.int .u8),0,0,false,[]⟩)
theorem GA:sM Tryz.prog DP.1 DP.2:=⟨by kernel_rfl,(show Tryz.prog.underlying _=_ from by kernel_rfl)⟩
@[go_sem] abbrev M7:Nat×TI:=(21,⟨(.int .i32),0,0,false,[]⟩)
theorem UL:sM Tryz.prog M7.1 M7.2:=⟨by kernel_rfl,(show Tryz.prog.underlying _=_ from by kernel_rfl)⟩
@[go_sem] abbrev UM:Nat×TI:=(60,⟨.ref,0,0,false,[]⟩)
theorem aCm:sM Tryz.prog UM.1 UM.2:=⟨by kernel_rfl,(show∃_,_ from⟨_,Tryz.underlying60⟩)⟩
@[go_sem] abbrev yC:Nat×TI:=(69,⟨rO,0,0,false,[(9,9,1),(10,149,2),(11,55,7),(13,3,1)]⟩)
theorem zS:sM Tryz.prog yC.1 yC.2:=⟨by kernel_rfl,(show ((_/\∃_,_/\_)\/_)/\_ from⟨.inl ⟨rfl,_,Tryz.underlying69,(show _/\_/\_/\_ from⟨rfl,by kernel_rfl,by kernel_rfl,(show _/\_/\_/\_ from⟨rfl,by kernel_rfl,by kernel_rfl,(show _/\_/\_/\_ from⟨rfl,by kernel_rfl,by kernel_rfl,(show _/\_/\_/\_ from⟨rfl,by kernel_rfl,by kernel_rfl,(show _/\_/\_/\_ from⟨rfl,by kernel_rfl,by kernel_rfl,(show _/\_/\_/\_ from⟨rfl,by kernel_rfl,by kernel_rfl,(show _/\_/\_/\_ from⟨rfl,by kernel_rfl,by kernel_rfl,(show _/\_/\_/\_ from⟨rfl,by kernel_rfl,by kernel_rfl,trivial⟩)⟩)⟩)⟩)⟩)⟩)⟩)⟩)⟩,(fun h=>absurd h (by decide))⟩)⟩
@[go_sem] abbrev HW:Nat×TI:=(28,⟨(.int .i64),0,0,false,[]⟩)
theorem M8:sM Tryz.prog HW.1 HW.2:=⟨by kernel_rfl,(show Tryz.prog.underlying _=_ from by kernel_rfl)⟩
@[go_sem] abbrev UN:Nat×TI:=(24,⟨(.list (.pair .str (.pair .str .unit))),149,32,true,[]⟩)
theorem aCn:sM Tryz.prog UN.1 UN.2:=⟨by kernel_rfl,(show _/\_/\_ from⟨by kernel_rfl,by kernel_rfl,by kernel_rfl⟩)⟩
@[go_sem] abbrev zT:Nat×TI:=(65,⟨M4,0,1,false,[]⟩)
theorem BE:sM Tryz.prog zT.1 zT.2:=⟨by kernel_rfl,(show ((_/\∃_,_/\_)\/_)/\_ from⟨.inl ⟨rfl,_,Tryz.underlying65,(show _/\_/\_/\_ from⟨rfl,by kernel_rfl,by kernel_rfl,(show _/\_/\_/\_ from⟨rfl,by kernel_rfl,by kernel_rfl,(show _/\_/\_/\_ from⟨rfl,by kernel_rfl,by kernel_rfl,(show _/\_/\_/\_ from⟨rfl,by kernel_rfl,by kernel_rfl,trivial⟩)⟩)⟩)⟩)⟩,(fun _=>⟨by kernel_rfl,1,by decide,(.struct rfl Tryz.underlying65 (by kernel_rfl) (.cons (by decide) rfl (by kernel_rfl) (by kernel_rfl) (.int Tryz.underlying3) (.cons (by decide) rfl (by kernel_rfl) (by kernel_rfl) (.str Tryz.underlying9) (.cons (by decide) rfl (by kernel_rfl) (by kernel_rfl) (.int Tryz.underlying3) (.cons (by decide) rfl (by kernel_rfl) (by kernel_rfl) (.int Tryz.underlying3) .nil)))))⟩)⟩)⟩
@[go_sem] abbrev C5:Nat×TI:=(204,⟨sS,0,0,false,[(3,9,1),(6,149,2)]⟩)
theorem DQ:sM Tryz.prog C5.1 C5.2:=⟨by kernel_rfl,(show ((_/\∃_,_/\_)\/_)/\_ from⟨.inl ⟨rfl,_,Tryz.underlying204,(show _/\_/\_/\_ from⟨rfl,by kernel_rfl,by kernel_rfl,(show _/\_/\_/\_ from⟨rfl,by kernel_rfl,by kernel_rfl,(show _/\_/\_/\_ from⟨rfl,by kernel_rfl,by kernel_rfl,trivial⟩)⟩)⟩)⟩,(fun h=>absurd h (by decide))⟩)⟩
@[go_sem] abbrev UO:Nat×TI:=(205,⟨.fn,0,0,false,[]⟩)
theorem aCo:sM Tryz.prog UO.1 UO.2:=⟨by kernel_rfl,(show∃_ _ _,_ from⟨_,_,_,Tryz.underlying205⟩)⟩
@[go_sem] abbrev UP:Nat×TI:=(207,⟨.mp,9,205,false,[]⟩)
theorem aCp:sM Tryz.prog UP.1 UP.2:=⟨by kernel_rfl,(show Tryz.prog.underlying _=_ from by kernel_rfl)⟩
@[go_sem] abbrev a0D:Nat×TI:=(2,⟨(.int .i64),0,0,false,[]⟩)
theorem aL5:sM Tryz.prog a0D.1 a0D.2:=⟨by kernel_rfl,(show Tryz.prog.underlying _=_ from by kernel_rfl)⟩
@[go_sem] abbrev UQ:Nat×TI:=(241,⟨(.int .u32),0,0,false,[]⟩)
theorem aCq:sM Tryz.prog UQ.1 UQ.2:=⟨by kernel_rfl,(show Tryz.prog.underlying _=_ from by kernel_rfl)⟩
@[go_sem] abbrev JY:Nat×TI:=(67,⟨(.list (.int .i64)),3,8,false,[]⟩)
theorem PM:sM Tryz.prog JY.1 JY.2:=⟨by kernel_rfl,(show _/\_/\_ from⟨by kernel_rfl,by kernel_rfl,by kernel_rfl⟩)⟩
@[go_sem] abbrev DR:Nat×TI:=(55,⟨yT8,0,0,false,[(3,9,1),(6,149,2)]⟩)
theorem GB:sM Tryz.prog DR.1 DR.2:=⟨by kernel_rfl,(show ((_/\∃_,_/\_)\/_)/\_ from⟨.inl ⟨rfl,_,Tryz.underlying55,(show _/\_/\_/\_ from⟨rfl,by kernel_rfl,by kernel_rfl,(show _/\_/\_/\_ from⟨rfl,by kernel_rfl,by kernel_rfl,(show _/\_/\_/\_ from⟨rfl,by kernel_rfl,by kernel_rfl,(show _/\_/\_/\_ from⟨rfl,by kernel_rfl,by kernel_rfl,(show _/\_/\_/\_ from⟨rfl,by kernel_rfl,by kernel_rfl,(show _/\_/\_/\_ from⟨rfl,by kernel_rfl,by kernel_rfl,(show _/\_/\_/\_ from⟨rfl,by kernel_rfl,by kernel_rfl,trivial⟩)⟩)⟩)⟩)⟩)⟩)⟩)⟩,(fun h=>absurd h (by decide))⟩)⟩
@[go_sem] abbrev M9:Nat×TI:=(202,⟨.ref,0,0,false,[]⟩)
theorem UR:sM Tryz.prog M9.1 M9.2:=⟨by kernel_rfl,(show∃_,_ from⟨_,Tryz.underlying202⟩)⟩
@[go_sem] abbrev PN:Nat×TI:=(63,⟨DM,0,1,false,[]⟩)
theorem a0E:sM Tryz.prog PN.1 PN.2:=⟨by kernel_rfl,(show ((_/\∃_,_/\_)\/_)/\_ from⟨.inl ⟨rfl,_,Tryz.underlying63,(show _/\_/\_/\_ from⟨rfl,by kernel_rfl,by kernel_rfl,(show _/\_/\_/\_ from⟨rfl,by kernel_rfl,by kernel_rfl,trivial⟩)⟩)⟩,(fun _=>⟨by kernel_rfl,1,by decide,(.struct rfl Tryz.underlying63 (by kernel_rfl) (.cons (by decide) rfl (by kernel_rfl) (by kernel_rfl) (.str Tryz.underlying9) (.cons (by decide) rfl (by kernel_rfl) (by kernel_rfl) (.int Tryz.underlying3) .nil)))⟩)⟩)⟩
@[go_sem] abbrev a0F:Nat×TI:=(204,⟨aCl,0,0,false,[(3,9,1),(4,9,1),(6,149,2)]⟩)
theorem aL6:sM Tryz.prog a0F.1 a0F.2:=⟨by kernel_rfl,(show ((_/\∃_,_/\_)\/_)/\_ from⟨.inl ⟨rfl,_,Tryz.underlying204,(show _/\_/\_/\_ from⟨rfl,by kernel_rfl,by kernel_rfl,(show _/\_/\_/\_ from⟨rfl,by kernel_rfl,by kernel_rfl,(show _/\_/\_/\_ from⟨rfl,by kernel_rfl,by kernel_rfl,trivial⟩)⟩)⟩)⟩,(fun h=>absurd h (by decide))⟩)⟩
theorem qI:Tryz.prog.follows .mixedOrders=true:=by kernel_rfl
@[go_sem] abbrev MA:Nat×qC:=(135,⟨[.v,.v],a0p,[],[],none⟩)
theorem PO:qJ Tryz.prog MA:=⟨aLj,fun _ h=>by cases h⟩
@[go_sem] abbrev aCr:Nat×qC:=(243,⟨[.v],a0q,[],[],none⟩)
theorem aL7:qJ Tryz.prog aCr:=⟨aLk,fun _ h=>by cases h⟩
@[go_sem] abbrev aCs:Nat×qC:=(173,⟨[.v,.v],a0r,[],[],none⟩)
theorem aL8:qJ Tryz.prog aCs:=⟨aLn,fun _ h=>by cases h⟩
@[go_sem] abbrev US:Nat×qC:=(93,⟨[.p wT [1]],a0s,[],[],none⟩)
theorem a0G:qJ Tryz.prog US:=⟨aLq,fun _ h=>by cases h⟩
@[go_sem] abbrev PP:Nat×qC:=(54,⟨[.p wT [1]],a0u,[],[],none⟩)
theorem UT:qJ Tryz.prog PP:=⟨aLy,fun _ h=>by cases h⟩
@[go_sem] abbrev aCt:Nat×qC:=(240,⟨[.r,.v,.v],a0w,[],[],none⟩)
theorem aL9:qJ Tryz.prog aCt:=⟨aLH,fun _ h=>by cases h⟩
@[go_sem] abbrev aCu:Nat×qC:=(245,⟨[.v,.v],a0A,[],[],none⟩)
theorem aMa:qJ Tryz.prog aCu:=⟨aL2,fun _ h=>by cases h⟩
@[go_sem] abbrev aCv:Nat×qC:=(246,⟨[.v,.v],a0B,[],[],none⟩)
theorem aMb:qJ Tryz.prog aCv:=⟨aL3,fun _ h=>by cases h⟩
@[go_sem] abbrev aCw:Nat×qC:=(165,⟨[.v],a0C,[],[],none⟩)
theorem aMc:qJ Tryz.prog aCw:=⟨aL4,fun _ h=>by cases h⟩
@[go_sem] abbrev a0H:Nat×qC:=(147,⟨[.v],noC,[],[],some aB1⟩)
theorem aMd:qJ Tryz.prog a0H:=aLm
end
theorem xV {σ ρ:Type}(f:σ->Option (σ⊕ρ)) (x:σ):qB f x=(f x).bind fun w=>match w with
  | .inl y=>qB f y
  | .inr r=>some r:=by
 cases h:f x with
 |none=>
  cases h2:qB f x with
  |none=>rfl
  |some r=>
   obtain⟨n,hn⟩:=UF h2;cases n with
   |zero=>cases hn
   |succ n=>unfold iter at hn;rw[h] at hn;cases hn
 |some w=>
  cases w with
  |inl y=>exact EU h
  |inr r=>exact vA h
theorem xW {t:Ty}{l:List t.den}{i:Nat}(h:i<l.length):pU t l (i:Int)=l[i]:=by
 unfold pU;rw[aUv,aT6,aTM h];rfl
theorem yD {l:List UInt8}{i:Nat}(h:i<l.length):pR l (i:Int)=(l[i].toNat:Int):=by
 unfold pR;rw[aUv,aT6,aTM h];rfl
def uA {β:Type}(f:Nat->β) (b:β):Option Nat->β
 |some k=>f k
 |none=>b
theorem a0I {α ρ:Type}{f:Int->Option (Int⊕(Unit⊕ρ))}{l:List α}(p:α->Bool) (g:Nat->ρ)
  (hf: ∀(i:Nat) (h:i<l.length),f i=if p l[i]=true then some (.inr (.inr (g i))) else some (.inl (i+1)))
  (he:f l.length=some (.inr (.inl ()))): ∀(n j:Nat),j+n=l.length->qB f j=some (uA (fun k=> .inr (g (j+k))) (.inl ()) ((l.drop j).findIdx? p))
 |0,j,hj=>by
  have:j=l.length:=by omega
  subst this;rw[aUk,xV,he];rfl
 |n+1,j,hj=>by
  have hlt:j<l.length:=by omega
  rw[xV,hf j hlt,aT2 hlt,aUI];by_cases hp:p l[j]=true
  ·rw[aTD hp,aTD hp];rfl
  ·rw[aTG hp,aTG hp];show qB f ((j:Int)+1)=_;have:=a0I p g hf he n (j+1) (by omega);rw[show ((j:Int)+1)=((j+1:Nat):Int) by omega,this];cases(l.drop (j+1)).findIdx? p with
   |none=>rfl
   |some k=>
    show some (Sum.inr (g (j+1+k)))=some (Sum.inr (g (j+(k+1))));rw[show j+1+k=j+(k+1) by omega]
theorem BF {α ρ:Type}{f:Int->Option (Int⊕(Unit⊕ρ))}{l:List α}(p:α->Bool) (g:Nat->ρ)
  (hf: ∀(i:Nat) (h:i<l.length),f i=if p l[i]=true then some (.inr (.inr (g i))) else some (.inl (i+1)))
  (he:f l.length=some (.inr (.inl ()))):qB f 0=some (uA (fun k=> .inr (g k)) (.inl ()) (l.findIdx? p)):=by
 have:=a0I p g hf he l.length 0 (by omega);simpa using this
theorem aCx {s:List UInt8}{i:Nat}(h:i<s.length) (ha:s[i].toNat<128):u6 s i=(s[i].toNat:Int)/\zI s i=i+1:=by
 have h1:=Lib.decodeL_drop ⟨s.toArray⟩ i;have h2:(⟨s.toArray⟩:ByteArray).data.toList.drop i=s[i]::s.drop (i+1):=by
  show s.drop i=_;rw[aT2 h]
 rw[h2,Lib.decodeL_ascii _ _ ha] at h1;unfold u6 zI YA;rw[<-h1,aTD h];exact⟨rfl,rfl⟩
theorem aMe {n b0 b1 b2 b3:Nat}(h:128<=b0):128<=(Lib.decodeN n b0 b1 b2 b3).1:=by
 unfold Lib.decodeN
 repeat' split
 all_goals first|omega|(dsimp only;omega)
theorem aCy {s:List UInt8}{i:Nat}(h:i<s.length) (ha:128<=s[i].toNat):128<=u6 s i:=by
 unfold u6;rw[Lib.decode_at];have:(⟨s.toArray⟩:ByteArray).get! i=s[i]:=by
  show s.toArray[i]! =_;simp [h]
 rw[this];exact Int.ofNat_le.2 (aMe ha)
theorem aCz {ρ:Type}{f:Nat->Option (Nat⊕(Unit⊕ρ))}{s:List UInt8}(p:Int->Bool) (g:Nat->ρ) (hb: ∀c,128<=c->p c=true)
  (hf: ∀(i:Nat) (h:i<s.length),f i=if p (u6 s i)=true then some (.inr (.inr (g i))) else some (.inl (zI s i)))
  (he:f s.length=some (.inr (.inl ()))): ∀(n j:Nat),j+n=s.length->qB f j=some (uA (fun k=> .inr (g (j+k))) (.inl ()) ((s.drop j).findIdx? (fun b=>p b.toNat)))
 |0,j,hj=>by
  have:j=s.length:=by omega
  subst this;rw[aUk,xV,he];rfl
 |n+1,j,hj=>by
  have hlt:j<s.length:=by omega
  rw[xV,hf j hlt,aT2 hlt,aUI];by_cases ha:s[j].toNat<128
  ·obtain⟨e1,e2⟩:=aCx hlt ha;rw[e1,e2];by_cases hp:p (s[j].toNat:Int)=true
   ·rw[aTD hp,aTD hp];rfl
   ·rw[aTG hp,aTG hp];show qB f (j+1)=_;rw[aCz p g hb hf he n (j+1) (by omega)];cases(s.drop (j+1)).findIdx? (fun b=>p b.toNat) with
    |none=>rfl
    |some k=>
     show some (Sum.inr (g (j+1+k)))=some (Sum.inr (g (j+(k+1))));rw[show j+1+k=j+(k+1) by omega]
  ·rw[aTD (hb _ (aCy hlt (by omega))),aTD (hb _ (by omega))];rfl
theorem aCA {ρ:Type}{f:Nat->Option (Nat⊕(Unit⊕ρ))}{s:List UInt8}(p:Int->Bool) (g:Nat->ρ) (hb: ∀c,128<=c->p c=true)
  (hf: ∀(i:Nat) (h:i<s.length),f i=if p (u6 s i)=true then some (.inr (.inr (g i))) else some (.inl (zI s i)))
  (he:f s.length=some (.inr (.inl ()))):qB f 0=some (uA (fun k=> .inr (g k)) (.inl ()) (s.findIdx? (fun b=>p b.toNat))):=by
 have:=aCz p g hb hf he s.length 0 (by omega);simpa using this
def pS {α:Type}(l:List α):Prop:=l.length<=4000000000
noncomputable section
def PQ (O:qZ) (Z:(List UInt8)):Int→Option (Int⊕(Unit⊕(Int×Bool))):=fun aA=>if (decide (aA<(O.2.2.2.1.length:Int)))=true then if 0≤aA∧aA<(O.2.2.2.1.length:Int) then if (decide ((pU rN O.2.2.2.1 aA).1=Z))=true then some (.inr (.inr ((aA,true)))) else if pE (aA+(1:Int)) then some (.inl (aA+(1:Int))) else none else none else some (.inr (.inl ()))
def GC (O:qZ) (Z:(List UInt8)):Option (Int×Bool):=rW (qB (PQ O Z) (0:Int)) fun _=>some (((0:Int),false))
section
variable (O:qZ) (Z:(List UInt8))
abbrev a0J:List pD:=[(.val wH O,none),(.val .str Z,none)]
abbrev a0K:List pC:=[]
@[go_sem] def a0L:pJ:=⟨[((GC O Z)).isSome=true],[(.val (.int .i64) ((val (GC O Z)).1),none),(.val .bool ((val (GC O Z)).2),none)],[]⟩
def aCB:List pD→List pC→Option pJ:=qP (V:=(qZ×(List UInt8))) (fun x=>a0J x.1 x.2) (fun x=>a0K) fun x=>a0L x.1 x.2
@[go_sem] theorem aRF:aCB (no_index (a0J O Z)) (no_index a0K)=some (a0L O Z):=qQ (fun⟨a0,a1⟩ ⟨b0,b1⟩ h1 h2=>by cases h1;cases h2;rfl) (O,Z)
end
@[go_sem] abbrev aCC:Nat×qC:=(37,⟨[.v,.v],aCB,[],[],none⟩)
theorem HX:qG Tryz.prog [rP,DN,zR,yZ] (qE []):=⟨⟨rQ,⟨G8,⟨BD,⟨AL,trivial⟩⟩⟩⟩,qS,qI⟩
theorem aMf:qJ Tryz.prog aCC:=by
 refine qR HX Tryz.func37 (c:=_) rfl (N:=23) (by kernel_rfl) (ts:=[(4,none),(5,none)]) rfl (fun _ _=>rfl) ?_;intro⟨O,Z⟩ hs hrow;dsimp only[a0J,a0K,a0L,qM,pN,pW,qH,qO,Nat.reduceAdd] at hs hrow⊢;have hz:=hs;obtain⟨z0,hC0⟩:=aTF.1 hz
 try rw[r8 hC0]
 clear hz hs;unfold GC at hC0;refine pB HX ?_;refine pP ?_;refine pB HX ?_;refine rC ?_;obtain⟨y1,hy1,hC0⟩:=uI hC0;refine t7 0 (fun s=> ∃v,y1= .inl v∧s=(fun _=>⟨[],[],0,23,0⟩) v) ?_ ?_
 ·refine t6 hy1 (fun x=>⟨[(1,(.val .str Z,none)),(2,(.val .ref (some (0,0)),none)),(6,(.val (.int .i64) x,none))],[(0,.cells wH O [])],1,23,0⟩) ⟨[1,2,6],[(0,0)]⟩ (by rfl) ?_;intro aA w1 n1 hC1 hN1;unfold PQ at hC1;dsimp only at hC1⊢;refine pP ?_;refine pB HX ?_;refine pO hC1 (fun hC1 hc1=> ?_) (fun hC1 hc1=> ?_)
  ·refine qD (pL (pP (rC ?_)));obtain⟨hg1,hC1⟩:=pI hC1;refine pB HX ?_ (hp:=by exact hg1);refine pO hC1 (fun hC1 hc2=> ?_) (fun hC1 hc2=> ?_)
   ·refine pB HX ?_;refine pK (rE (qW (uL (uK (rE (qW ?_))))));cases hC1;cases hN1;dsimp only at hC0;cases hC0;exact⟨[],by rfl,by rfl,by rfl⟩
   ·refine qD (qY (pL ?_));obtain⟨hg2,hC1⟩:=pI hC1;refine qU HX ?_ (hp:=by exact hg2);cases hC1;exact s7 ⟨⟨[1,2,6],[(0,0)]⟩,_,by rfl,hN1⟩
  ·refine sO (sW (sQ ?_));cases hC1;cases hN1;exact sP ⟨⟨[],[]⟩,_,rfl,by rfl⟩
 ·rintro _ ⟨v,rfl,rfl⟩;dsimp only at hC0⊢;refine sZ (pL ?_);refine pB HX ?_;refine pK ?_;cases hC0;exact⟨[],by rfl,by rfl,by rfl⟩
attribute [irreducible] GC
def aCD (O:HS):Unit:=()
section
variable (O:HS)
abbrev a0M:List pD:=[(.val G6 O,none)]
abbrev a0N:List pC:=[]
@[go_sem] def a0O:pJ:=⟨[],[(.val .clo (some (92,[(0,0)])),none)],[.cells G6 O []]⟩
def aCE:List pD→List pC→Option pJ:=qP (V:=HS) (fun x=>a0M x) (fun x=>a0N) fun x=>a0O x
@[go_sem] theorem aRG:aCE (no_index (a0M O)) (no_index a0N)=some (a0O O):=qQ (fun a0 b0 h1 h2=>by cases h1;cases h2;rfl) O
end
@[go_sem] abbrev aCF:Nat×qC:=(50,⟨[.v],aCE,[],[],none⟩)
theorem a0P:qG Tryz.prog [M5] (qE []):=⟨⟨UK,trivial⟩,qS,qI⟩
theorem aMg:qJ Tryz.prog aCF:=by
 refine qR a0P Tryz.func50 (c:=_) rfl (N:=4) (by kernel_rfl) (ts:=[(2,none)]) rfl (fun _ _=>rfl) ?_;intro O hs hrow;dsimp only[a0M,a0N,a0O,qM,pN,pW,qH,qO,Nat.reduceAdd] at hs hrow⊢;obtain⟨z0,hC0⟩: ∃z,(aCD O)=z:=⟨_,rfl⟩
 try rw[hC0]
 unfold aCD at hC0;refine pB a0P ?_;refine pB a0P ?_;refine pK ?_;cases hC0;exact⟨[(0,0)],by rfl,by rfl,by rfl⟩
def CV (O:((List Int)×Unit)) (Z:(List UInt8)):Option Unit:=if List.length O.1+Z.length≤140737488355328 then some (()) else none
section
variable (O:(List UInt8)) (Z:((List Int)×Unit)) (aA:Nat)
abbrev a0Q:List pD:=[(.val .ref (some (0,0)),none),(.val .str O,none)]
abbrev a0R:List pC:=[.cells wT ((some (0,0)),Z) [(1,1)],.grow 5 1 aA]
@[go_sem] def a0S:pJ:=⟨[aA=(Z.1.length),((CV Z O)).isSome=true],[(.val (.int .i64) (O.length:Int),none),(.any,none)],[.cells wT ((some (0,0)),((Z.1++sJ O),())) [(1,1)],.grow 5 1 ((Z.1++sJ O).length)]⟩
def aCG:List pD→List pC→Option pJ:=qP (V:=((List UInt8)×((List Int)×Unit)×Nat)) (fun x=>a0Q x.1) (fun x=>a0R x.2.1 x.2.2) fun x=>a0S x.1 x.2.1 x.2.2
@[go_sem] theorem aRH:aCG (no_index (a0Q O)) (no_index (a0R Z aA))=some (a0S O Z aA):=qQ (fun⟨a0,a1,a2⟩ ⟨b0,b1,b2⟩ h1 h2=>by cases h1;cases h2;rfl) (O,Z,aA)
end
@[go_sem] abbrev UU:Nat×qC:=(53,⟨[.p wT [1],.v],aCG,[],[],none⟩)
theorem PR:qG Tryz.prog [rP,EY,G9] (qE [US]):=⟨⟨rQ,⟨HT,⟨JX,trivial⟩⟩⟩,pM a0G qS,qI⟩
theorem a0T:qJ Tryz.prog UU:=by
 refine qR PR Tryz.func53 (c:=_) rfl (N:=19) (by kernel_rfl) (ts:=[(4,none),(5,none)]) rfl (fun _ _=>rfl) ?_;intro⟨O,Z,aA⟩ hs hrow;dsimp only[a0Q,a0R,a0S,qM,pN,pW,qH,qO,Nat.reduceAdd] at hs hrow⊢;obtain⟨rfl,hz⟩:=hs;obtain⟨z0,hC0⟩:=aTF.1 hz
 try rw[r8 hC0]
 clear hz;unfold CV at hC0;refine pB PR ?_;refine pB PR ?_ (hp:=by first|rfl|trivial)
 obtain⟨hg1,hC0⟩:=pI hC0;refine pB PR ?_ (hp:=by exact⟨by first|rfl|trivial,hg1⟩)
 refine pB PR ?_;refine pK ?_;cases hC0;exact⟨[(0,0),(1,1)],by rfl,by rfl,by rfl⟩
attribute [irreducible] CV
def HY (O:(List (List UInt8))):(Int×Int)→Option ((Int×Int)⊕Int):=fun(Z,aA)=>if ((decide (aA<(O.length:Int)))&&(decide (Z<(1099511627776:Int))))=true then if 0≤aA∧aA<(O.length:Int) then if pE (Z+((pU .str O aA).length:Int)) then if pE (aA+(1:Int)) then some (.inl ((Z+((pU .str O aA).length:Int)),(aA+(1:Int)))) else none else none else none else some (.inr Z)
def HZ (O:(List pV)):(Int×Int)→Option ((Int×Int)⊕Int):=fun(Z,aA)=>if ((decide (aA<(O.length:Int)))&&(decide (Z<(1099511627776:Int))))=true then if 0≤aA∧aA<(O.length:Int) then if pE (Z+(((pU (.pair .str (.pair .str .unit)) O aA).1).length:Int)) then if 0≤aA∧aA<(O.length:Int) then if pE ((Z+(((pU (.pair .str (.pair .str .unit)) O aA).1).length:Int))+(((pU (.pair .str (.pair .str .unit)) O aA).2.1).length:Int)) then if pE (aA+(1:Int)) then some (.inl (((Z+(((pU (.pair .str (.pair .str .unit)) O aA).1).length:Int))+(((pU (.pair .str (.pair .str .unit)) O aA).2.1).length:Int)),(aA+(1:Int)))) else none else none else none else none else none else some (.inr Z)
def yE (O:(List (List UInt8))) (Z:(List pV)):Option Int:=if pE ((O.length:Int)+(Z.length:Int)) then rH (qB (HY O) (((O.length:Int)+(Z.length:Int)),(0:Int))) fun aA=>rH (qB (HZ Z) (aA,(0:Int))) fun aB=>some (aB) else none
section
variable (O:(List (List UInt8))) (Z:(List pV))
abbrev a0U:List pD:=[(.val (.list .str) O,none),(.val (.list (.pair .str (.pair .str .unit))) Z,none)]
abbrev a0V:List pC:=[]
@[go_sem] def a0W:pJ:=⟨[((yE O Z)).isSome=true],[(.val (.int .i64) (val (yE O Z)),none)],[]⟩
def aCH:List pD→List pC→Option pJ:=qP (V:=((List (List UInt8))×(List pV))) (fun x=>a0U x.1 x.2) (fun x=>a0V) fun x=>a0W x.1 x.2
@[go_sem] theorem aRI:aCH (no_index (a0U O Z)) (no_index a0V)=some (a0W O Z):=qQ (fun⟨a0,a1⟩ ⟨b0,b1⟩ h1 h2=>by cases h1;cases h2;rfl) (O,Z)
end
@[go_sem] abbrev a0X:Nat×qC:=(57,⟨[.v,.v],aCH,[],[],none⟩)
theorem CW:qG Tryz.prog [rP,uW,w5,C3] (qE []):=⟨⟨rQ,⟨vJ,⟨wU,⟨DO,trivial⟩⟩⟩⟩,qS,qI⟩
theorem aCI:qJ Tryz.prog a0X:=by
 refine qR CW Tryz.func57 (c:=_) rfl (N:=56) (by kernel_rfl) (ts:=[(4,none)]) rfl (fun _ _=>rfl) ?_;intro⟨O,Z⟩ hs hrow;dsimp only[a0U,a0V,a0W,qM,pN,pW,qH,qO,Nat.reduceAdd] at hs hrow⊢;have hz:=hs;obtain⟨z0,hC0⟩:=aTF.1 hz
 try rw[r8 hC0]
 clear hz hs;unfold yE at hC0;refine pB CW ?_;obtain⟨hg1,hC0⟩:=pI hC0;refine pB CW ?_ (hp:=by exact hg1);refine pP ?_;refine pB CW ?_;refine rC ?_;obtain⟨aA,hy1,hC0⟩:=pF hC0;refine t7 0 (fun s=>s=(fun x=>⟨[(1,(.val (.list (.pair .str (.pair .str .unit))) Z,none)),(5,(.val (.int .i64) x,none))],[],0,56,0⟩) aA) ?_ ?_
 ·refine t6 hy1 (fun x=>⟨[(0,(.val (.list .str) O,none)),(1,(.val (.list (.pair .str (.pair .str .unit))) Z,none)),(5,(.val (.int .i64) x.1,none)),(6,(.val (.int .i64) x.2,none))],[],0,56,0⟩) ⟨[0,1,5,6],[]⟩ (by rfl) ?_;intro x1 w1 n1 hC1 hN1;obtain⟨aB,aC⟩:=x1;unfold HY at hC1;dsimp only at hC1⊢;refine pP ?_;refine pB CW ?_ (hp:=by exact⟨fun hh=>hh,(fun hh=>rL hh)⟩);refine pO hC1 (fun hC1 hc1=> ?_) (fun hC1 hc1=> ?_)
  ·refine qD (pL (pP (rC ?_)));obtain⟨hg2,hC1⟩:=pI hC1;obtain⟨hg3,hC1⟩:=pI hC1;refine qU CW ?_ (hp:=by exact⟨hg2,hg3⟩);refine qY (pL ?_);obtain⟨hg4,hC1⟩:=pI hC1;refine qU CW ?_ (hp:=by exact hg4);cases hC1;exact s7 ⟨⟨[0,1,5,6],[]⟩,_,by rfl,hN1⟩
  ·refine sO (sW (sQ ?_));cases hC1;cases hN1;exact sP ⟨⟨[1,5],[]⟩,by rfl⟩
 ·rintro _ rfl;dsimp only at hC0⊢;refine sZ (pL (pP ?_));refine pB CW ?_;refine rC ?_;obtain⟨aD,hy1,hC0⟩:=pF hC0;refine t7 2 (fun s=>s=(fun x=>⟨[(5,(.val (.int .i64) x,none))],[],0,56,0⟩) aD) ?_ ?_
  ·refine t6 hy1 (fun x=>⟨[(1,(.val (.list (.pair .str (.pair .str .unit))) Z,none)),(5,(.val (.int .i64) x.1,none)),(7,(.val (.int .i64) x.2,none))],[],0,56,0⟩) ⟨[1,5,7],[]⟩ (by rfl) ?_;intro x1 w1 n1 hC1 hN1;obtain⟨aE,aF⟩:=x1;unfold HZ at hC1;dsimp only at hC1⊢;refine pP ?_;refine pB CW ?_ (hp:=by exact⟨fun hh=>hh,(fun hh=>rL hh)⟩);refine pO hC1 (fun hC1 hc2=> ?_) (fun hC1 hc2=> ?_)
   ·refine qD (pL (pP (rC ?_)));obtain⟨hg5,hC1⟩:=pI hC1;obtain⟨hg6,hC1⟩:=pI hC1;obtain⟨hg7,hC1⟩:=pI hC1;obtain⟨hg8,hC1⟩:=pI hC1;refine G5 CW ?_ (hp:=by exact⟨hg5,hg6,hg7,hg8⟩);refine qY (pL ?_);obtain⟨hg9,hC1⟩:=pI hC1;refine qU CW ?_ (hp:=by exact hg9);cases hC1;exact s7 ⟨⟨[1,5,7],[]⟩,_,by rfl,hN1⟩
   ·refine sO (sW (sQ ?_));cases hC1;cases hN1;exact sP ⟨⟨[5],[]⟩,by rfl⟩
  ·rintro _ rfl;dsimp only at hC0⊢;refine sZ (pL ?_);refine pB CW ?_;refine pK ?_;cases hC0;exact⟨[],by rfl,by rfl,by rfl⟩
attribute [irreducible] yE
def UV (O:(List (List UInt8))) (Z:(List (List UInt8))):Int→Option (Int⊕(Unit⊕Bool)):=fun aA=>if (decide (aA<(O.length:Int)))=true then if 0≤aA∧aA<(O.length:Int) then if 0≤aA∧aA<(Z.length:Int) then if (!decide ((pU .str O aA)=(pU .str Z aA)))=true then some (.inr (.inr (false))) else if pE (aA+(1:Int)) then some (.inl (aA+(1:Int))) else none else none else none else some (.inr (.inl ()))
def vL (O:(List (List UInt8))) (Z:(List (List UInt8))):Option Bool:=if (!decide ((O.length:Int)=(Z.length:Int)))=true then some (false) else rW (qB (UV O Z) (0:Int)) fun _=>some (true)
section
variable (O:(List (List UInt8))) (Z:(List (List UInt8)))
abbrev a0Y:List pD:=[(.val (.list .str) O,none),(.val (.list .str) Z,none)]
abbrev a0Z:List pC:=[]
@[go_sem] def a00:pJ:=⟨[((vL O Z)).isSome=true],[(.val .bool (val (vL O Z)),none)],[]⟩
def aCJ:List pD→List pC→Option pJ:=qP (V:=((List (List UInt8))×(List (List UInt8)))) (fun x=>a0Y x.1 x.2) (fun x=>a0Z) fun x=>a00 x.1 x.2
@[go_sem] theorem aRJ:aCJ (no_index (a0Y O Z)) (no_index a0Z)=some (a00 O Z):=qQ (fun⟨a0,a1⟩ ⟨b0,b1⟩ h1 h2=>by cases h1;cases h2;rfl) (O,Z)
end
@[go_sem] abbrev a01:Nat×qC:=(87,⟨[.v,.v],aCJ,[],[],none⟩)
theorem F0:qG Tryz.prog [rP,uW] (qE []):=⟨⟨rQ,⟨vJ,trivial⟩⟩,qS,qI⟩
theorem aCK:qJ Tryz.prog a01:=by
 refine qR F0 Tryz.func87 (c:=_) rfl (N:=26) (by kernel_rfl) (ts:=[(4,none)]) rfl (fun _ _=>rfl) ?_;intro⟨O,Z⟩ hs hrow;dsimp only[a0Y,a0Z,a00,qM,pN,pW,qH,qO,Nat.reduceAdd] at hs hrow⊢;have hz:=hs;obtain⟨z0,hC0⟩:=aTF.1 hz
 try rw[r8 hC0]
 clear hz hs;unfold vL at hC0;refine pB F0 ?_;refine pP ?_;refine pB F0 ?_;refine pO hC0 (fun hC0 hc1=> ?_) (fun hC0 hc1=> ?_)
 ·refine pB F0 ?_;refine pK (qW ?_);cases hC0;exact⟨[],by rfl,by rfl,by rfl⟩
 ·refine qD (pL (pP ?_));refine pB F0 ?_;refine rC ?_;obtain⟨y1,hy1,hC0⟩:=uI hC0;refine t7 0 (fun s=> ∃v,y1= .inl v∧s=(fun _=>⟨[],[],0,26,0⟩) v) ?_ ?_
  ·refine t6 hy1 (fun x=>⟨[(0,(.val (.list .str) O,none)),(1,(.val (.list .str) Z,none)),(5,(.val (.int .i64) x,none))],[],0,26,0⟩) ⟨[0,1,5],[]⟩ (by rfl) ?_;intro aA w1 n1 hC1 hN1;unfold UV at hC1;dsimp only at hC1⊢;refine pP ?_;refine pB F0 ?_;refine pO hC1 (fun hC1 hc2=> ?_) (fun hC1 hc2=> ?_)
   ·refine qD (pL (pP (rC ?_)));obtain⟨hg1,hC1⟩:=pI hC1;obtain⟨hg2,hC1⟩:=pI hC1;refine xD F0 ?_ (hp:=by exact⟨hg1,hg2⟩);refine pO hC1 (fun hC1 hc3=> ?_) (fun hC1 hc3=> ?_)
    ·refine pB F0 ?_;refine pK (rE (qW (uL (uK (rE (qW ?_))))));cases hC1;cases hN1;dsimp only at hC0;cases hC0;exact⟨[],by rfl,by rfl,by rfl⟩
    ·refine qD (qY (pL ?_));obtain⟨hg3,hC1⟩:=pI hC1;refine qU F0 ?_ (hp:=by exact hg3);cases hC1;exact s7 ⟨⟨[0,1,5],[]⟩,_,by rfl,hN1⟩
   ·refine sO (sW (sQ ?_));cases hC1;cases hN1;exact sP ⟨⟨[],[]⟩,_,rfl,by rfl⟩
  ·rintro _ ⟨v,rfl,rfl⟩;dsimp only at hC0⊢;refine sZ (pL ?_);refine pB F0 ?_;refine pK ?_;cases hC0;exact⟨[],by rfl,by rfl,by rfl⟩
attribute [irreducible] vL
end
noncomputable section
def UW (O:(List pV)) (Z:(List pV)):Int→Option (Int⊕(Unit⊕Bool)):=fun aA=>if (decide (aA<(O.length:Int)))=true then if 0≤aA∧aA<(O.length:Int) then if 0≤aA∧aA<(Z.length:Int) then if (!((decide ((pU (.pair .str (.pair .str .unit)) O aA).1=(pU (.pair .str (.pair .str .unit)) Z aA).1))&&(decide ((pU (.pair .str (.pair .str .unit)) O aA).2.1=(pU (.pair .str (.pair .str .unit)) Z aA).2.1))))=true then some (.inr (.inr (false))) else if pE (aA+(1:Int)) then some (.inl (aA+(1:Int))) else none else none else none else some (.inr (.inl ()))
def yF (O:(List pV)) (Z:(List pV)):Option Bool:=if (!decide ((O.length:Int)=(Z.length:Int)))=true then some (false) else rW (qB (UW O Z) (0:Int)) fun _=>some (true)
section
variable (O:(List pV)) (Z:(List pV))
abbrev a02:List pD:=[(.val (.list (.pair .str (.pair .str .unit))) O,none),(.val (.list (.pair .str (.pair .str .unit))) Z,none)]
abbrev a03:List pC:=[]
@[go_sem] def a04:pJ:=⟨[((yF O Z)).isSome=true],[(.val .bool (val (yF O Z)),none)],[]⟩
def aCL:List pD→List pC→Option pJ:=qP (V:=((List pV)×(List pV))) (fun x=>a02 x.1 x.2) (fun x=>a03) fun x=>a04 x.1 x.2
@[go_sem] theorem aRK:aCL (no_index (a02 O Z)) (no_index a03)=some (a04 O Z):=qQ (fun⟨a0,a1⟩ ⟨b0,b1⟩ h1 h2=>by cases h1;cases h2;rfl) (O,Z)
end
@[go_sem] abbrev a05:Nat×qC:=(88,⟨[.v,.v],aCL,[],[],none⟩)
theorem F1:qG Tryz.prog [w5,C3] (qE []):=⟨⟨wU,⟨DO,trivial⟩⟩,qS,qI⟩
theorem aCM:qJ Tryz.prog a05:=by
 refine qR F1 Tryz.func88 (c:=_) rfl (N:=26) (by kernel_rfl) (ts:=[(4,none)]) rfl (fun _ _=>rfl) ?_;intro⟨O,Z⟩ hs hrow;dsimp only[a02,a03,a04,qM,pN,pW,qH,qO,Nat.reduceAdd] at hs hrow⊢;have hz:=hs;obtain⟨z0,hC0⟩:=aTF.1 hz
 try rw[r8 hC0]
 clear hz hs;unfold yF at hC0;refine pB F1 ?_;refine pP ?_;refine pB F1 ?_;refine pO hC0 (fun hC0 hc1=> ?_) (fun hC0 hc1=> ?_)
 ·refine pB F1 ?_;refine pK (qW ?_);cases hC0;exact⟨[],by rfl,by rfl,by rfl⟩
 ·refine qD (pL (pP ?_));refine pB F1 ?_;refine rC ?_;obtain⟨y1,hy1,hC0⟩:=uI hC0;refine t7 0 (fun s=> ∃v,y1= .inl v∧s=(fun _=>⟨[],[],0,26,0⟩) v) ?_ ?_
  ·refine t6 hy1 (fun x=>⟨[(0,(.val (.list (.pair .str (.pair .str .unit))) O,none)),(1,(.val (.list (.pair .str (.pair .str .unit))) Z,none)),(5,(.val (.int .i64) x,none))],[],0,26,0⟩) ⟨[0,1,5],[]⟩ (by rfl) ?_;intro aA w1 n1 hC1 hN1;unfold UW at hC1;dsimp only at hC1⊢;refine pP ?_;refine pB F1 ?_;refine pO hC1 (fun hC1 hc2=> ?_) (fun hC1 hc2=> ?_)
   ·refine qD (pL (pP (rC ?_)));obtain⟨hg1,hC1⟩:=pI hC1;obtain⟨hg2,hC1⟩:=pI hC1;refine xD F1 ?_ (hp:=by exact⟨hg1,hg2⟩);refine pO hC1 (fun hC1 hc3=> ?_) (fun hC1 hc3=> ?_)
    ·refine pB F1 ?_;refine pK (rE (qW (uL (uK (rE (qW ?_))))));cases hC1;cases hN1;dsimp only at hC0;cases hC0;exact⟨[],by rfl,by rfl,by rfl⟩
    ·refine qD (qY (pL ?_));obtain⟨hg3,hC1⟩:=pI hC1;refine qU F1 ?_ (hp:=by exact hg3);cases hC1;exact s7 ⟨⟨[0,1,5],[]⟩,_,by rfl,hN1⟩
   ·refine sO (sW (sQ ?_));cases hC1;cases hN1;exact sP ⟨⟨[],[]⟩,_,rfl,by rfl⟩
  ·rintro _ ⟨v,rfl,rfl⟩;dsimp only at hC0⊢;refine sZ (pL ?_);refine pB F1 ?_;refine pK ?_;cases hC0;exact⟨[],by rfl,by rfl,by rfl⟩
attribute [irreducible] yF
def MB (O:rD) (Z:rD):Option Unit:=if ((((((decide (O.1=Z.1))&&(decide (O.2.1=Z.2.1)))&&(decide (O.2.2.1=Z.2.2.1)))&&(decide (O.2.2.2.2.2.1=Z.2.2.2.2.2.1)))==true)=true→((vL O.2.2.2.1 Z.2.2.2.1)).isSome=true) then if (((((((decide (O.1=Z.1))&&(decide (O.2.1=Z.2.1)))&&(decide (O.2.2.1=Z.2.2.1)))&&(decide (O.2.2.2.2.2.1=Z.2.2.2.2.2.1)))&&(val (vL O.2.2.2.1 Z.2.2.2.1)))==true)=true→((vL O.2.2.2.2.1 Z.2.2.2.2.1)).isSome=true) then if ((((((((decide (O.1=Z.1))&&(decide (O.2.1=Z.2.1)))&&(decide (O.2.2.1=Z.2.2.1)))&&(decide (O.2.2.2.2.2.1=Z.2.2.2.2.2.1)))&&(val (vL O.2.2.2.1 Z.2.2.2.1)))&&(val (vL O.2.2.2.2.1 Z.2.2.2.2.1)))==true)=true→((yF O.2.2.2.2.2.2.1 Z.2.2.2.2.2.2.1)).isSome=true) then some (()) else none else none else none
section
variable (O:rD) (Z:rD)
abbrev a06:List pD:=[(.val rN O,none),(.val rN Z,none)]
abbrev a07:List pC:=[]
@[go_sem] def a08:pJ:=⟨[((MB O Z)).isSome=true],[(.val .bool (((((((decide (O.1=Z.1))&&(decide (O.2.1=Z.2.1)))&&(decide (O.2.2.1=Z.2.2.1)))&&(decide (O.2.2.2.2.2.1=Z.2.2.2.2.2.1)))&&(val (vL O.2.2.2.1 Z.2.2.2.1)))&&(val (vL O.2.2.2.2.1 Z.2.2.2.2.1)))&&(val (yF O.2.2.2.2.2.2.1 Z.2.2.2.2.2.2.1))),none)],[]⟩
def aCN:List pD→List pC→Option pJ:=qP (V:=(rD×rD)) (fun x=>a06 x.1 x.2) (fun x=>a07) fun x=>a08 x.1 x.2
@[go_sem] theorem aRL:aCN (no_index (a06 O Z)) (no_index a07)=some (a08 O Z):=qQ (fun⟨a0,a1⟩ ⟨b0,b1⟩ h1 h2=>by cases h1;cases h2;rfl) (O,Z)
end
@[go_sem] abbrev aCO:Nat×qC:=(89,⟨[.v,.v],aCN,[],[],none⟩)
theorem a09:qG Tryz.prog [uX,rP,uW,w5,yZ] (qE [a01,a05]):=⟨⟨vK,⟨rQ,⟨vJ,⟨wU,⟨AL,trivial⟩⟩⟩⟩⟩,pM aCK (pM aCM qS),qI⟩
theorem aMh:qJ Tryz.prog aCO:=by
 refine qR a09 Tryz.func89 (c:=_) rfl (N:=52) (by kernel_rfl) (ts:=[(4,none)]) rfl (fun _ _=>rfl) ?_;intro⟨O,Z⟩ hs hrow;dsimp only[a06,a07,a08,qM,pN,pW,qH,qO,Nat.reduceAdd] at hs hrow⊢;have hz:=hs;obtain⟨z0,hC0⟩:=aTF.1 hz
 try rw[r8 hC0]
 clear hz hs;unfold MB at hC0;refine pB a09 ?_;obtain⟨hg1,hC0⟩:=pI hC0;obtain⟨hg2,hC0⟩:=pI hC0;obtain⟨hg3,hC0⟩:=pI hC0;refine pB a09 ?_ (hp:=by exact⟨fun hh=>hh,fun hh=>hh,fun hh=>hh,fun hh=>hh,fun hh=>rL hh,fun hh=>hh,fun hh=>hh,fun hh=>hh,fun hh=>hh,fun hh=>rL hh,fun hh=>hh,fun hh=>hh,fun hh=>hh,fun hh=>hh,fun hh=>rL hh,fun hh=>hh,fun hh=>hh,fun hh=>hh,fun hh=>hh,hg1,fun hh=>rL hh,fun hh=>hh,fun hh=>hh,fun hh=>hh,fun hh=>hh,hg2,fun hh=>rL hh,fun hh=>hh,fun hh=>hh,fun hh=>hh,fun hh=>hh,hg3,(fun hh=>rL hh)⟩);refine pK ?_;cases hC0;exact⟨[],by rfl,by rfl,by rfl⟩
attribute [irreducible] MB
def aCP:Unit:=()
section
abbrev a1a:List pD:=[]
abbrev a1b:List pC:=[]
@[go_sem] def a1c:pJ:=⟨[],[(.val (.list .str) ([([110,101,119]:List UInt8),([102,117,122,122,121]:List UInt8),([116,114,97,110,115,108,97,116,101,100]:List UInt8),([114,101,118,105,101,119,101,100]:List UInt8),([111,98,115,111,108,101,116,101]:List UInt8)]:List (List UInt8)),some 0)],[.grow 9 1 (([([110,101,119]:List UInt8),([102,117,122,122,121]:List UInt8),([116,114,97,110,115,108,97,116,101,100]:List UInt8),([114,101,118,105,101,119,101,100]:List UInt8),([111,98,115,111,108,101,116,101]:List UInt8)]:List (List UInt8)).length)]⟩
def aCQ:List pD→List pC→Option pJ:=qP (V:=Unit) (fun x=>a1a) (fun x=>a1b) fun x=>a1c
@[go_sem] theorem aRM:aCQ (no_index a1a) (no_index a1b)=some a1c:=qQ (fun _ _ h1 h2=>by cases h1;cases h2;rfl) ()
end
@[go_sem] abbrev PS:Nat×qC:=(111,⟨[],aCQ,[],[],none⟩)
theorem a1d:qG Tryz.prog [uW] (qE []):=⟨⟨vJ,trivial⟩,qS,qI⟩
theorem a1e:qJ Tryz.prog PS:=by
 refine qR a1d Tryz.func111 (c:=_) rfl (N:=2) (by kernel_rfl) (ts:=[(0,none)]) rfl (fun _ _=>rfl) ?_;intro⟨⟩ hs hrow;dsimp only[a1a,a1b,a1c,qM,pN,pW,qH,qO,Nat.reduceAdd] at hs hrow⊢;obtain⟨z0,hC0⟩: ∃z,aCP=z:=⟨_,rfl⟩
 try rw[hC0]
 unfold aCP at hC0;refine pB a1d ?_;refine pB a1d ?_;refine pK ?_;cases hC0;exact⟨[(0,32)],by rfl,by rfl,by rfl⟩
def a1f (O:Int):Option Unit:=if 0≤O∧O<(([([110,101,119]:List UInt8),([102,117,122,122,121]:List UInt8),([116,114,97,110,115,108,97,116,101,100]:List UInt8),([114,101,118,105,101,119,101,100]:List UInt8),([111,98,115,111,108,101,116,101]:List UInt8)]:List (List UInt8)).length:Int) then some (()) else none
attribute [irreducible] a1f
end
noncomputable section
def PT (O:(List UInt8)):Nat→Option (Nat⊕(Unit⊕Bool)):=fun Z=>if (decide (Z<O.length))=true then if (decide (Z<O.length))=true then if (((((decide ((u6 O Z)<(97:Int)))||(decide ((122:Int)<(u6 O Z))))&&((decide ((u6 O Z)<(65:Int)))||(decide ((90:Int)<(u6 O Z)))))&&((decide ((u6 O Z)<(48:Int)))||(decide ((57:Int)<(u6 O Z)))))&&(!decide ((u6 O Z)=(45:Int))))=true then some (.inr (.inr (false))) else some (.inl (zI O Z)) else none else some (.inr (.inl ()))
def GD (O:(List UInt8)):Option Bool:=rW (qB (PT O) 0) fun _=>some (((decide ((1:Int)≤(O.length:Int)))&&(decide ((O.length:Int)≤(40:Int)))))
section
variable (O:(List UInt8))
abbrev a1g:List pD:=[(.val .str O,none)]
abbrev a1h:List pC:=[]
@[go_sem] def a1i:pJ:=⟨[((GD O)).isSome=true],[(.val .bool (val (GD O)),none)],[]⟩
def aCR:List pD→List pC→Option pJ:=qP (V:=(List UInt8)) (fun x=>a1g x) (fun x=>a1h) fun x=>a1i x
@[go_sem] theorem aRN:aCR (no_index (a1g O)) (no_index a1h)=some (a1i O):=qQ (fun a0 b0 h1 h2=>by cases h1;cases h2;rfl) O
end
@[go_sem] abbrev a1j:Nat×qC:=(106,⟨[.v],aCR,[],[],none⟩)
theorem I0:qG Tryz.prog [rP] (qE []):=⟨⟨rQ,trivial⟩,qS,qI⟩
theorem aCS:qJ Tryz.prog a1j:=by
 refine qR I0 Tryz.func106 (c:=_) rfl (N:=44) (by kernel_rfl) (ts:=[(2,none)]) rfl (fun _ _=>rfl) ?_;intro O hs hrow;dsimp only[a1g,a1h,a1i,qM,pN,pW,qH,qO,Nat.reduceAdd] at hs hrow⊢;have hz:=hs;obtain⟨z0,hC0⟩:=aTF.1 hz
 try rw[r8 hC0]
 clear hz hs;unfold GD at hC0;refine pB I0 ?_;refine pP ?_;refine pB I0 ?_;refine rC ?_;obtain⟨y1,hy1,hC0⟩:=uI hC0;refine t7 0 (fun s=> ∃v,y1= .inl v∧s=(fun _=>⟨[(0,(.val .str O,none))],[],0,44,0⟩) v) ?_ ?_
 ·refine t6 hy1 (fun x=>⟨[(0,(.val .str O,none)),(6,(.val .ref (some (0,0)),none))],[(0,.iter O x)],1,44,0⟩) ⟨[0,6],[(0,64)]⟩ (by rfl) ?_;intro Z w1 n1 hC1 hN1;unfold PT at hC1;dsimp only at hC1⊢;refine pB I0 ?_;refine pP ?_;refine pO hC1 (fun hC1 hc1=> ?_) (fun hC1 hc1=> ?_)
  ·refine qD (pL (rC ?_));obtain⟨hg1,hC1⟩:=pI hC1;refine pB I0 ?_ (hp:=by exact hg1);refine pB I0 ?_ (hp:=by exact⟨fun hh=>hh,fun hh=>sR hh,fun hh=>hh,fun hh=>hh,fun hh=>hh,fun hh=>hh,fun hG hh=>EW hG hh,fun hh=>rL hh,fun hh=>hh,fun hh=>hh,fun hh=>hh,fun hh=>hh,fun hG hh=>EW hG hh,fun hh=>rL hh,fun hh=>hh,(fun hh=>rL hh)⟩);refine pO hC1 (fun hC1 hc2=> ?_) (fun hC1 hc2=> ?_)
   ·refine pB I0 ?_;refine pK (rE (uL (uK (rE (qW ?_)))));cases hC1;cases hN1;dsimp only at hC0;cases hC0;exact⟨[],by rfl,by rfl,by rfl⟩
   ·refine qD (qY ?_);cases hC1;exact s7 ⟨⟨[0,6],[(0,0)]⟩,_,by rfl,hN1⟩
  ·refine sO (sW (sQ ?_));cases hC1;cases hN1;exact sP ⟨⟨[0],[]⟩,_,rfl,by rfl⟩
 ·rintro _ ⟨v,rfl,rfl⟩;dsimp only at hC0⊢;refine sZ (pL ?_);refine pB I0 ?_ (hp:=by exact⟨fun hh=>hh,fun hh=>hh,(fun hh=>rL hh)⟩);refine pK ?_;cases hC0;exact⟨[],by rfl,by rfl,by rfl⟩
attribute [irreducible] GD
def aCT (O:Int):Unit:=()
section
variable (O:Int)
abbrev a1k:List pD:=[(.val (.int .u8) O,none)]
abbrev a1l:List pC:=[]
@[go_sem] def a1m:pJ:=⟨[],[(.val .bool (((decide ((97:Int)≤O))&&(decide (O≤(122:Int))))||((decide ((65:Int)≤O))&&(decide (O≤(90:Int))))),none)],[]⟩
def aCU:List pD→List pC→Option pJ:=qP (V:=Int) (fun x=>a1k x) (fun x=>a1l) fun x=>a1m x
@[go_sem] theorem aRO:aCU (no_index (a1k O)) (no_index a1l)=some (a1m O):=qQ (fun a0 b0 h1 h2=>by cases h1;cases h2;rfl) O
end
@[go_sem] abbrev a1n:Nat×qC:=(120,⟨[.v],aCU,[],[],none⟩)
theorem a1o:qG Tryz.prog [] (qE []):=⟨trivial,qS,qI⟩
theorem aCV:qJ Tryz.prog a1n:=by
 refine qR a1o Tryz.func120 (c:=_) rfl (N:=17) (by kernel_rfl) (ts:=[(2,none)]) rfl (fun _ _=>rfl) ?_;intro O hs hrow;dsimp only[a1k,a1l,a1m,qM,pN,pW,qH,qO,Nat.reduceAdd] at hs hrow⊢;obtain⟨z0,hC0⟩: ∃z,(aCT O)=z:=⟨_,rfl⟩
 try rw[hC0]
 unfold aCT at hC0;refine pB a1o ?_;refine pB a1o ?_ (hp:=by exact⟨fun hh=>hh,fun hh=>rL hh,fun hh=>hh,fun hh=>hh,fun hh=>hh,fun hh=>hh,fun hG hh=>EV hG hh,(fun hh=>sR hh)⟩);refine pK ?_;cases hC0;exact⟨[],by rfl,by rfl,by rfl⟩
def aCW (O:Int):Unit:=()
section
variable (O:Int)
abbrev a1p:List pD:=[(.val (.int .i32) O,none)]
abbrev a1q:List pC:=[]
@[go_sem] def a1r:pJ:=⟨[],[(.val .bool ((decide ((127:Int)<O))||(((((!(((decide ((97:Int)≤(IntKind.wrap .u8 O)))&&(decide ((IntKind.wrap .u8 O)≤(122:Int))))||((decide ((65:Int)≤(IntKind.wrap .u8 O)))&&(decide ((IntKind.wrap .u8 O)≤(90:Int))))))&&((decide (O<(48:Int)))||(decide ((57:Int)<O))))&&(!decide (O=(45:Int))))&&(!decide (O=(95:Int))))&&(!decide (O=(46:Int))))),none)],[]⟩
def aCX:List pD→List pC→Option pJ:=qP (V:=Int) (fun x=>a1p x) (fun x=>a1q) fun x=>a1r x
@[go_sem] theorem aRP:aCX (no_index (a1p O)) (no_index a1q)=some (a1r O):=qQ (fun a0 b0 h1 h2=>by cases h1;cases h2;rfl) O
end
@[go_sem] abbrev aCY:Nat×qC:=(122,⟨[.v],aCX,[],[],none⟩)
theorem a1s:qG Tryz.prog [DP,M7] (qE [a1n]):=⟨⟨GA,⟨UL,trivial⟩⟩,pM aCV qS,qI⟩
theorem aMi:qJ Tryz.prog aCY:=by
 refine qR a1s Tryz.func122 (c:=_) rfl (N:=31) (by kernel_rfl) (ts:=[(2,none)]) rfl (fun _ _=>rfl) ?_;intro O hs hrow;dsimp only[a1p,a1q,a1r,qM,pN,pW,qH,qO,Nat.reduceAdd] at hs hrow⊢;obtain⟨z0,hC0⟩: ∃z,(aCW O)=z:=⟨_,rfl⟩
 try rw[hC0]
 unfold aCW at hC0;refine pB a1s ?_;refine pB a1s ?_ (hp:=by exact⟨fun hh=>hh,fun hh=>hh,fun hh=>hh,fun hh=>hh,fun hh=>hh,fun hh=>hh,fun hh=>hh,fun hh=>hh,fun hG hh=>EW hG hh,fun hh=>hh,fun hG hh=>EV hG hh,fun hh=>hh,fun hh=>hh,fun hh=>hh,fun hG hh=>EV hG hh,fun hh=>hh,fun hh=>hh,fun hh=>hh,fun hG hh=>EV hG hh,fun hh=>hh,fun hh=>hh,fun hh=>hh,fun hG hh=>EV hG hh,(fun hh=>sR hh)⟩);refine pK ?_;cases hC0;exact⟨[],by rfl,by rfl,by rfl⟩
def aCZ (O:(List UInt8)):Unit:=()
section
variable (O:(List UInt8))
abbrev a1t:List pD:=[(.val .str O,none)]
abbrev a1u:List pC:=[]
@[go_sem] def a1v:pJ:=⟨[],[(.val .bool false,none)],[]⟩
def aC0:List pD→List pC→Option pJ:=qP (V:=(List UInt8)) (fun x=>a1t x) (fun x=>a1u) fun x=>a1v
@[go_sem] theorem aRQ:aC0 (no_index (a1t O)) (no_index a1u)=some a1v:=qQ (fun a0 b0 h1 h2=>by cases h1;cases h2;rfl) O
end
@[go_sem] abbrev UX:Nat×qC:=(125,⟨[.v],aC0,[],[],none⟩)
theorem a1w:qG Tryz.prog [] (qE []):=⟨trivial,qS,qI⟩
theorem a1x:qJ Tryz.prog UX:=by
 refine qR a1w Tryz.func125 (c:=_) rfl (N:=3) (by kernel_rfl) (ts:=[(2,none)]) rfl (fun _ _=>rfl) ?_;intro O hs hrow;dsimp only[a1t,a1u,a1v,qM,pN,pW,qH,qO,Nat.reduceAdd] at hs hrow⊢;obtain⟨z0,hC0⟩: ∃z,(aCZ O)=z:=⟨_,rfl⟩
 try rw[hC0]
 unfold aCZ at hC0;refine pB a1w ?_;refine pB a1w ?_;refine pK ?_;cases hC0;exact⟨[],by rfl,by rfl,by rfl⟩
def aC1 (O:(List UInt8)):Unit:=()
section
variable (O:(List UInt8))
abbrev a1y:List pD:=[(.val .str O,none)]
abbrev a1z:List pC:=[]
@[go_sem] def a1A:pJ:=⟨[],[(.val .bool ((!decide (O=([]:List UInt8)))&&(decide ((O.length:Int)≤(200:Int)))),none)],[]⟩
def aC2:List pD→List pC→Option pJ:=qP (V:=(List UInt8)) (fun x=>a1y x) (fun x=>a1z) fun x=>a1A x
@[go_sem] theorem aRR:aC2 (no_index (a1y O)) (no_index a1z)=some (a1A O):=qQ (fun a0 b0 h1 h2=>by cases h1;cases h2;rfl) O
end
@[go_sem] abbrev aC3:Nat×qC:=(127,⟨[.v],aC2,[],[],none⟩)
theorem a1B:qG Tryz.prog [rP] (qE []):=⟨⟨rQ,trivial⟩,qS,qI⟩
theorem aMj:qJ Tryz.prog aC3:=by
 refine qR a1B Tryz.func127 (c:=_) rfl (N:=10) (by kernel_rfl) (ts:=[(2,none)]) rfl (fun _ _=>rfl) ?_;intro O hs hrow;dsimp only[a1y,a1z,a1A,qM,pN,pW,qH,qO,Nat.reduceAdd] at hs hrow⊢;obtain⟨z0,hC0⟩: ∃z,(aC1 O)=z:=⟨_,rfl⟩
 try rw[hC0]
 unfold aC1 at hC0;refine pB a1B ?_;refine pB a1B ?_ (hp:=by exact⟨fun hh=>hh,fun hh=>hh,(fun hh=>rL hh)⟩);refine pK ?_;cases hC0;exact⟨[],by rfl,by rfl,by rfl⟩
def aC4 (O:(List UInt8)) (Z:((List UInt8)×(Int×Unit))) (aA:rS) (aB:Int) (aC:Int) (aD:qZ) (aE:((List Int)×(Int×Unit))) (aF:(List ((List UInt8)×Bool))):Unit:=()
section
variable (O:(List UInt8)) (Z:((List UInt8)×(Int×Unit))) (aA:rS) (aB:Int) (aC:Int) (aD:qZ) (aE:((List Int)×(Int×Unit))) (aF:Nat) (aG:Nat) (aH:(List ((List UInt8)×Bool)))
abbrev a1C:List pD:=[(.val .str O,none),(.val .ref (some (0,0)),none)]
abbrev a1D:List pC:=[.cells .ref (some (1,0)) [],.cells rO (Z,(aA,(aB,(aC,(aD,((some 4),aE)))))) [(11,2),(13,3)],.grow 55 7 aF,.grow 3 1 aG,.map .str .bool aH]
@[go_sem] def a1E:pJ:=⟨[aF=(aD.2.2.2.1.length),aG=(aE.1.length)],[(.val .bool (rV .str .bool aH O),none)],[.cells .ref (some (1,0)) [],.cells rO ((Z.1,(Z.2.1,())),((aA.1,(aA.2.1,(aA.2.2.1,(aA.2.2.2.1,())))),(aB,(aC,((aD.1,(aD.2.1,(aD.2.2.1,(aD.2.2.2.1,())))),((some 4),(aE.1,(aE.2.1,())))))))) [(11,2),(13,3)],.grow 55 7 (aD.2.2.2.1.length),.grow 3 1 (aE.1.length),.map .str .bool aH]⟩
def aC5:List pD→List pC→Option pJ:=qP (V:=((List UInt8)×((List UInt8)×(Int×Unit))×rS×Int×Int×qZ×((List Int)×(Int×Unit))×Nat×Nat×(List ((List UInt8)×Bool)))) (fun x=>a1C x.1) (fun x=>a1D x.2.1 x.2.2.1 x.2.2.2.1 x.2.2.2.2.1 x.2.2.2.2.2.1 x.2.2.2.2.2.2.1 x.2.2.2.2.2.2.2.1 x.2.2.2.2.2.2.2.2.1 x.2.2.2.2.2.2.2.2.2) fun x=>a1E x.1 x.2.1 x.2.2.1 x.2.2.2.1 x.2.2.2.2.1 x.2.2.2.2.2.1 x.2.2.2.2.2.2.1 x.2.2.2.2.2.2.2.1 x.2.2.2.2.2.2.2.2.1 x.2.2.2.2.2.2.2.2.2
@[go_sem] theorem aRS:aC5 (no_index (a1C O)) (no_index (a1D Z aA aB aC aD aE aF aG aH))=some (a1E O Z aA aB aC aD aE aF aG aH):=qQ (fun⟨a0,a1,a2,a3,a4,a5,a6,a7,a8,a9⟩ ⟨b0,b1,b2,b3,b4,b5,b6,b7,b8,b9⟩ h1 h2=>by cases h1;cases h2;rfl) (O,Z,aA,aB,aC,aD,aE,aF,aG,aH)
end
@[go_sem] abbrev aC6:Nat×qC:=(128,⟨[.v,.p .ref []],aC5,[(0,0,.p rO [11,13]),(1,12,.m)],[0,1,2,3,4],none⟩)
theorem a1F:qG Tryz.prog [EZ,rP,UM,HV,yC] (qE []):=⟨⟨HU,⟨rQ,⟨aCm,⟨M6,⟨zS,trivial⟩⟩⟩⟩⟩,qS,qI⟩
theorem aMk:qJ Tryz.prog aC6:=by
 refine qR a1F Tryz.func128 (c:=_) rfl (N:=10) (by kernel_rfl) (ts:=[(3,none)]) rfl (fun _ _=>rfl) ?_;intro⟨O,Z,aA,aB,aC,aD,aE,aF,aG,aH⟩ hs hrow;dsimp only[a1C,a1D,a1E,qM,pN,pW,qH,qO,Nat.reduceAdd] at hs hrow⊢;obtain⟨rfl,rfl⟩:=hs;obtain⟨z0,hC0⟩: ∃z,(aC4 O Z aA aB aC aD aE aH)=z:=⟨_,rfl⟩
 try rw[hC0]
 unfold aC4 at hC0;refine pB a1F ?_;refine pB a1F ?_;refine pK ?_;cases hC0;exact⟨[(0,0),(1,1),(2,2),(3,3),(4,4)],by rfl,by rfl,by rfl⟩
def xX (O:G7) (Z:rS) (aA:Int):(Int×Int):=if (decide (O.2.2.2.1=(0:Int)))=true then (Z.2.2.1,aA) else (O.2.2.1,O.2.2.2.1)
def aC7 (O:Int):Unit:=()
section
variable (O:Int)
abbrev a1G:List pD:=[(.val (.int .i64) O,none)]
abbrev a1H:List pC:=[]
@[go_sem] def a1I:pJ:=⟨[],[(.val .bool ((decide ((1:Int)≤O))&&(decide (O≤(4:Int)))),none)],[]⟩
def aC8:List pD→List pC→Option pJ:=qP (V:=Int) (fun x=>a1G x) (fun x=>a1H) fun x=>a1I x
@[go_sem] theorem aRT:aC8 (no_index (a1G O)) (no_index a1H)=some (a1I O):=qQ (fun a0 b0 h1 h2=>by cases h1;cases h2;rfl) O
end
@[go_sem] abbrev UY:Nat×qC:=(164,⟨[.v],aC8,[],[],none⟩)
theorem a1J:qG Tryz.prog [] (qE []):=⟨trivial,qS,qI⟩
theorem a1K:qJ Tryz.prog UY:=by
 refine qR a1J Tryz.func164 (c:=_) rfl (N:=9) (by kernel_rfl) (ts:=[(2,none)]) rfl (fun _ _=>rfl) ?_;intro O hs hrow;dsimp only[a1G,a1H,a1I,qM,pN,pW,qH,qO,Nat.reduceAdd] at hs hrow⊢;obtain⟨z0,hC0⟩: ∃z,(aC7 O)=z:=⟨_,rfl⟩
 try rw[hC0]
 unfold aC7 at hC0;refine pB a1J ?_;refine pB a1J ?_ (hp:=by exact⟨fun hh=>hh,(fun hh=>rL hh)⟩);refine pK ?_;cases hC0;exact⟨[],by rfl,by rfl,by rfl⟩
end
noncomputable section
def MC (O:(List UInt8)) (Z:Int) (aA:(List UInt8)):Option Unit:=if pE ((O.length:Int)-Z) then if (((decide ((aA.length:Int)≤((O.length:Int)-Z)))==true)=true→pE (Z+(aA.length:Int))) then if (((decide ((aA.length:Int)≤((O.length:Int)-Z)))==true)=true→0≤Z∧Z≤(Z+(aA.length:Int))∧(Z+(aA.length:Int))≤(O.length:Int)) then some (()) else none else none else none
attribute [irreducible] MC
def UZ (O:(List UInt8)):Int→Option (Int⊕(Unit⊕Int)):=fun Z=>if (decide (Z≤(4:Int)))=true then (a1f Z).bind fun aA=>if (decide ((pU .str ([([110,101,119]:List UInt8),([102,117,122,122,121]:List UInt8),([116,114,97,110,115,108,97,116,101,100]:List UInt8),([114,101,118,105,101,119,101,100]:List UInt8),([111,98,115,111,108,101,116,101]:List UInt8)]:List (List UInt8)) Z)=O))=true then some (.inr (.inr (Z))) else if pE (Z+(1:Int)) then some (.inl (Z+(1:Int))) else none else some (.inr (.inl ()))
def MD (O:(List UInt8)):Option Int:=rW (qB (UZ O) (0:Int)) fun _=>some ((-1:Int))
attribute [irreducible] MD
end
noncomputable section
def V0 (O:(List pV)) (Z:(List UInt8)):Int→Option (Int⊕(Unit⊕((List UInt8)×Bool))):=fun aA=>if (decide (aA<(O.length:Int)))=true then if 0≤aA∧aA<(O.length:Int) then if (decide ((pU (.pair .str (.pair .str .unit)) O aA).1=Z))=true then if 0≤aA∧aA<(O.length:Int) then some (.inr (.inr (((pU (.pair .str (.pair .str .unit)) O aA).2.1,true)))) else none else if pE (aA+(1:Int)) then some (.inl (aA+(1:Int))) else none else none else some (.inr (.inl ()))
def V1 (O:(List pV)) (Z:(List UInt8)):Option ((List UInt8)×Bool):=rW (qB (V0 O Z) (0:Int)) fun _=>some ((([]:List UInt8),false))
attribute [irreducible] V1
def V2 (O:(List pV)) (Z:(List UInt8)) (aA:(List UInt8)):Int→Option (Int⊕(Unit⊕(List pV))):=fun aB=>if (decide (aB<((((([]:List pV)++O).length):Nat):Int)))=true then if 0≤aB∧aB<((((([]:List pV)++O).length):Nat):Int) then if (decide ((pU (.pair .str (.pair .str .unit)) (([]:List pV)++O) aB).1=Z))=true then if 0≤aB∧aB<((((([]:List pV)++O).length):Nat):Int) then some (.inr (.inr ((List.set (([]:List pV)++O) (Int.toNat aB) ((pU (.pair .str (.pair .str .unit)) (([]:List pV)++O) aB).1,(aA,(pU (.pair .str (.pair .str .unit)) (([]:List pV)++O) aB).2.2)))))) else none else if pE (aB+(1:Int)) then some (.inl (aB+(1:Int))) else none else none else some (.inr (.inl ()))
def ME (O:(List pV)) (Z:(List UInt8)):Int→Option (Int⊕Int):=fun aA=>if (((decide (aA<(O.length:Int)))==true)=true→0≤aA∧aA<(O.length:Int)) then if ((decide (aA<(O.length:Int)))&&(Op.bytesLess (pU (.pair .str (.pair .str .unit)) O aA).1 Z||decide ((pU (.pair .str (.pair .str .unit)) O aA).1=Z)))=true then if pE (aA+(1:Int)) then some (.inl (aA+(1:Int))) else none else some (.inr aA) else none
def V3 (O:(List pV)) (Z:(List UInt8)) (aA:(List UInt8)):Option (List pV):=if (0+O.length)*32≤140737488355328 then rW (qB (V2 O Z aA) (0:Int)) fun _=>rH (qB (ME O Z) (0:Int)) fun aB=>if 0≤(0:Int)∧(0:Int)≤aB∧aB≤(O.length:Int) then if (0+(pT O (0:Int) aB).length)*32≤140737488355328 then if (((([]:List pV)++(pT O (0:Int) aB)).length)+([(Z,(aA,()))]:List pV).length)*32≤140737488355328 then if 0≤aB∧aB≤(O.length:Int)∧(O.length:Int)≤(O.length:Int) then if ((((([]:List pV)++(pT O (0:Int) aB))++([(Z,(aA,()))]:List pV)).length)+(pT O aB (O.length:Int)).length)*32≤140737488355328 then some ((((([]:List pV)++(pT O (0:Int) aB))++([(Z,(aA,()))]:List pV))++(pT O aB (O.length:Int)))) else none else none else none else none else none else none
attribute [irreducible] V3
def MF (O:(List UInt8)):Nat→Option (Nat⊕(Unit⊕Bool)):=fun Z=>if (decide (Z<O.length))=true then if (decide (Z<O.length))=true then if (decide (Z<O.length))=true then if ((decide ((97:Int)≤(u6 O Z)))&&(decide ((u6 O Z)≤(122:Int))))=true then some (.inl (zI O Z)) else if ((decide ((0:Int)<((Z:Nat):Int)))&&(((((decide ((48:Int)≤(u6 O Z)))&&(decide ((u6 O Z)≤(57:Int))))||(decide ((u6 O Z)=(45:Int))))||(decide ((u6 O Z)=(95:Int))))||(decide ((u6 O Z)=(46:Int)))))=true then some (.inl (zI O Z)) else some (.inr (.inr (false))) else none else none else some (.inr (.inl ()))
def CX (O:(List UInt8)):Option Bool:=rW (qB (MF O) 0) fun _=>some (((decide ((1:Int)≤(O.length:Int)))&&(decide ((O.length:Int)≤(40:Int)))))
section
variable (O:(List UInt8))
abbrev a1L:List pD:=[(.val .str O,none)]
abbrev a1M:List pC:=[]
@[go_sem] def a1N:pJ:=⟨[((CX O)).isSome=true],[(.val .bool (val (CX O)),none)],[]⟩
def aC9:List pD→List pC→Option pJ:=qP (V:=(List UInt8)) (fun x=>a1L x) (fun x=>a1M) fun x=>a1N x
@[go_sem] theorem aRU:aC9 (no_index (a1L O)) (no_index a1M)=some (a1N O):=qQ (fun a0 b0 h1 h2=>by cases h1;cases h2;rfl) O
end
@[go_sem] abbrev JZ:Nat×qC:=(162,⟨[.v],aC9,[],[],none⟩)
theorem F2:qG Tryz.prog [rP] (qE []):=⟨⟨rQ,trivial⟩,qS,qI⟩
theorem V4:qJ Tryz.prog JZ:=by
 refine qR F2 Tryz.func162 (c:=_) rfl (N:=51) (by kernel_rfl) (ts:=[(2,none)]) rfl (fun _ _=>rfl) ?_;intro O hs hrow;dsimp only[a1L,a1M,a1N,qM,pN,pW,qH,qO,Nat.reduceAdd] at hs hrow⊢;have hz:=hs;obtain⟨z0,hC0⟩:=aTF.1 hz
 try rw[r8 hC0]
 clear hz hs;unfold CX at hC0;refine pB F2 ?_;refine pP ?_;refine pB F2 ?_;refine rC ?_;obtain⟨y1,hy1,hC0⟩:=uI hC0;refine t7 0 (fun s=> ∃v,y1= .inl v∧s=(fun _=>⟨[(0,(.val .str O,none))],[],0,51,0⟩) v) ?_ ?_
 ·refine t6 hy1 (fun x=>⟨[(0,(.val .str O,none)),(7,(.val .ref (some (0,0)),none))],[(0,.iter O x)],1,51,0⟩) ⟨[0,7],[(0,64)]⟩ (by rfl) ?_;intro Z w1 n1 hC1 hN1;unfold MF at hC1;dsimp only at hC1⊢;refine pB F2 ?_;refine pP ?_;refine pO hC1 (fun hC1 hc1=> ?_) (fun hC1 hc1=> ?_)
  ·refine qD (pL (rC ?_));obtain⟨hg1,hC1⟩:=pI hC1;obtain⟨hg2,hC1⟩:=pI hC1;refine pB F2 ?_ (hp:=by exact⟨hg1,hg2⟩);refine pB F2 ?_ (hp:=by exact⟨fun hh=>hh,(fun hh=>rL hh)⟩);refine rC ?_;refine pB F2 ?_;refine pO hC1 (fun hC1 hc2=> ?_) (fun hC1 hc2=> ?_)
   ·refine qD (qY (qY ?_));cases hC1;exact s7 ⟨⟨[0,7],[(0,0)]⟩,_,by rfl,hN1⟩
   ·refine pB F2 ?_ (hp:=by exact⟨fun hh=>hh,fun hh=>hh,fun hh=>hh,fun hh=>hh,fun hG hh=>EV hG hh,fun hh=>hh,fun hh=>hh,fun hh=>hh,fun hG hh=>EW hG hh,fun hh=>hh,fun hh=>hh,fun hh=>hh,fun hG hh=>EW hG hh,fun hh=>hh,fun hh=>hh,fun hh=>hh,fun hG hh=>EW hG hh,(fun hh=>rL hh)⟩);refine pO hC1 (fun hC1 hc3=> ?_) (fun hC1 hc3=> ?_)
    ·refine qD (qY (qY ?_));cases hC1;exact s7 ⟨⟨[0,7],[(0,0)]⟩,_,by rfl,hN1⟩
    ·refine pB F2 ?_;refine pK (rE (rE (uL (uK (rE (qW ?_))))));cases hC1;cases hN1;dsimp only at hC0;cases hC0;exact⟨[],by rfl,by rfl,by rfl⟩
  ·refine sO (sW (sQ ?_));cases hC1;cases hN1;exact sP ⟨⟨[0],[]⟩,_,rfl,by rfl⟩
 ·rintro _ ⟨v,rfl,rfl⟩;dsimp only at hC0⊢;refine sZ (pL ?_);refine pB F2 ?_ (hp:=by exact⟨fun hh=>hh,fun hh=>hh,(fun hh=>rL hh)⟩);refine pK ?_;cases hC0;exact⟨[],by rfl,by rfl,by rfl⟩
attribute [irreducible] CX
def PU (O:(List (List UInt8))):Int→Option (Int⊕(Unit⊕Bool)):=fun Z=>if (decide (Z<(O.length:Int)))=true then if 0≤Z∧Z<(O.length:Int) then (CX (pU .str O Z)).bind fun aA=>if ((((!aA)==false)&&((decide ((0:Int)<Z))==true))=true→pE (Z- (1:Int))) then if ((((!aA)==false)&&((decide ((0:Int)<Z))==true))=true→0≤(Z- (1:Int))∧(Z- (1:Int))<(O.length:Int)) then if ((!aA)||((decide ((0:Int)<Z))&&(!Op.bytesLess (pU .str O (Z- (1:Int))) (pU .str O Z))))=true then some (.inr (.inr (false))) else if pE (Z+(1:Int)) then some (.inl (Z+(1:Int))) else none else none else none else none else some (.inr (.inl ()))
def GE (O:(List (List UInt8))):Option Bool:=rW (qB (PU O) (0:Int)) fun _=>some ((decide ((O.length:Int)≤(20:Int))))
section
variable (O:(List (List UInt8)))
abbrev a1O:List pD:=[(.val (.list .str) O,none)]
abbrev a1P:List pC:=[]
@[go_sem] def a1Q:pJ:=⟨[((GE O)).isSome=true],[(.val .bool (val (GE O)),none)],[]⟩
def aDa:List pD→List pC→Option pJ:=qP (V:=(List (List UInt8))) (fun x=>a1O x) (fun x=>a1P) fun x=>a1Q x
@[go_sem] theorem aRV:aDa (no_index (a1O O)) (no_index a1P)=some (a1Q O):=qQ (fun a0 b0 h1 h2=>by cases h1;cases h2;rfl) O
end
@[go_sem] abbrev aDb:Nat×qC:=(163,⟨[.v],aDa,[],[],none⟩)
theorem GF:qG Tryz.prog [rP,uW] (qE [JZ]):=⟨⟨rQ,⟨vJ,trivial⟩⟩,pM V4 qS,qI⟩
theorem aMl:qJ Tryz.prog aDb:=by
 refine qR GF Tryz.func163 (c:=_) rfl (N:=32) (by kernel_rfl) (ts:=[(2,none)]) rfl (fun _ _=>rfl) ?_;intro O hs hrow;dsimp only[a1O,a1P,a1Q,qM,pN,pW,qH,qO,Nat.reduceAdd] at hs hrow⊢;have hz:=hs;obtain⟨z0,hC0⟩:=aTF.1 hz
 try rw[r8 hC0]
 clear hz hs;unfold GE at hC0;refine pB GF ?_;refine pP ?_;refine pB GF ?_;refine rC ?_;obtain⟨y1,hy1,hC0⟩:=uI hC0;refine t7 0 (fun s=> ∃v,y1= .inl v∧s=(fun _=>⟨[(0,(.val (.list .str) O,none))],[],0,32,0⟩) v) ?_ ?_
 ·refine t6 hy1 (fun x=>⟨[(0,(.val (.list .str) O,none)),(5,(.val (.list .str) O,none)),(6,(.val (.int .i64) (O.length:Int),none)),(7,(.val (.int .i64) x,none))],[],0,32,0⟩) ⟨[0,5,6,7],[]⟩ (by rfl) ?_;intro Z w1 n1 hC1 hN1;unfold PU at hC1;dsimp only at hC1⊢;refine pB GF ?_;refine pP ?_;refine pO hC1 (fun hC1 hc1=> ?_) (fun hC1 hc1=> ?_)
  ·refine qD (pL (pP (rC ?_)));obtain⟨hg1,hC1⟩:=pI hC1;refine pB GF ?_ (hp:=by exact hg1);obtain⟨aA,hv2,hw2,hC1⟩:=pZ hC1
   try simp only[go_sem] at hw2
   obtain⟨hg3,hC1⟩:=pI hC1;obtain⟨hg4,hC1⟩:=pI hC1;refine pB GF ?_ (hp:=by exact⟨pY hv2,fun hh=>hh,fun hh=>hh,fun hh=>hh,hg3,fun hh=>hh,fun hh=>hh,hg4,fun hh=>hh,fun hh=>hh,fun hh=>hh,fun hh=>hh,fun hG hh=>EV hG hh,(fun hh=>sR hh)⟩) (h:=by simp only[go_sem,hw2];rfl);refine pO hC1 (fun hC1 hc2=> ?_) (fun hC1 hc2=> ?_)
   ·refine pB GF ?_;refine pK (rE (qW (uL (uK (rE (qW ?_))))));cases hC1;cases hN1;dsimp only at hC0;cases hC0;exact⟨[],by rfl,by rfl,by rfl⟩
   ·refine qD (qY (pL ?_));obtain⟨hg5,hC1⟩:=pI hC1;refine qU GF ?_ (hp:=by exact hg5);cases hC1;exact s7 ⟨⟨[0,5,6,7],[]⟩,_,by rfl,hN1⟩
  ·refine sO (sW (sQ ?_));cases hC1;cases hN1;exact sP ⟨⟨[0],[]⟩,_,rfl,by rfl⟩
 ·rintro _ ⟨v,rfl,rfl⟩;dsimp only at hC0⊢;refine sZ (pL ?_);refine pB GF ?_;refine pK ?_;cases hC0;exact⟨[],by rfl,by rfl,by rfl⟩
attribute [irreducible] GE
def aDc (O:Int):Unit:=()
section
variable (O:Int)
abbrev a1R:List pD:=[(.val (.int .u8) O,none)]
abbrev a1S:List pC:=[]
@[go_sem] def a1T:pJ:=⟨[],[(.val .bool ((decide ((97:Int)≤O))&&(decide (O≤(122:Int)))),none)],[]⟩
def aDd:List pD→List pC→Option pJ:=qP (V:=Int) (fun x=>a1R x) (fun x=>a1S) fun x=>a1T x
@[go_sem] theorem aRW:aDd (no_index (a1R O)) (no_index a1S)=some (a1T O):=qQ (fun a0 b0 h1 h2=>by cases h1;cases h2;rfl) O
end
@[go_sem] abbrev a1U:Nat×qC:=(169,⟨[.v],aDd,[],[],none⟩)
theorem a1V:qG Tryz.prog [] (qE []):=⟨trivial,qS,qI⟩
theorem aDe:qJ Tryz.prog a1U:=by
 refine qR a1V Tryz.func169 (c:=_) rfl (N:=9) (by kernel_rfl) (ts:=[(2,none)]) rfl (fun _ _=>rfl) ?_;intro O hs hrow;dsimp only[a1R,a1S,a1T,qM,pN,pW,qH,qO,Nat.reduceAdd] at hs hrow⊢;obtain⟨z0,hC0⟩: ∃z,(aDc O)=z:=⟨_,rfl⟩
 try rw[hC0]
 unfold aDc at hC0;refine pB a1V ?_;refine pB a1V ?_ (hp:=by exact⟨fun hh=>hh,(fun hh=>rL hh)⟩);refine pK ?_;cases hC0;exact⟨[],by rfl,by rfl,by rfl⟩
end
noncomputable section
def aDf (O:Int):Unit:=()
section
variable (O:Int)
abbrev a1W:List pD:=[(.val (.int .u8) O,none)]
abbrev a1X:List pC:=[]
@[go_sem] def a1Y:pJ:=⟨[],[(.val .bool ((decide ((48:Int)≤O))&&(decide (O≤(57:Int)))),none)],[]⟩
def aDg:List pD→List pC→Option pJ:=qP (V:=Int) (fun x=>a1W x) (fun x=>a1X) fun x=>a1Y x
@[go_sem] theorem aRX:aDg (no_index (a1W O)) (no_index a1X)=some (a1Y O):=qQ (fun a0 b0 h1 h2=>by cases h1;cases h2;rfl) O
end
@[go_sem] abbrev a1Z:Nat×qC:=(170,⟨[.v],aDg,[],[],none⟩)
theorem a2a:qG Tryz.prog [] (qE []):=⟨trivial,qS,qI⟩
theorem aDh:qJ Tryz.prog a1Z:=by
 refine qR a2a Tryz.func170 (c:=_) rfl (N:=9) (by kernel_rfl) (ts:=[(2,none)]) rfl (fun _ _=>rfl) ?_;intro O hs hrow;dsimp only[a1W,a1X,a1Y,qM,pN,pW,qH,qO,Nat.reduceAdd] at hs hrow⊢;obtain⟨z0,hC0⟩: ∃z,(aDf O)=z:=⟨_,rfl⟩
 try rw[hC0]
 unfold aDf at hC0;refine pB a2a ?_;refine pB a2a ?_ (hp:=by exact⟨fun hh=>hh,(fun hh=>rL hh)⟩);refine pK ?_;cases hC0;exact⟨[],by rfl,by rfl,by rfl⟩
def aDi (O:((List UInt8)×(Int×Unit))) (Z:rS) (aA:Int) (aB:Int) (aC:qZ) (aD:((List Int)×(Int×Unit))) (aE:Int) (aF:(List UInt8)) (aG:(List ((List UInt8)×Bool))):Unit:=()
section
variable (O:Int) (Z:(List UInt8)) (aA:((List UInt8)×(Int×Unit))) (aB:rS) (aC:Int) (aD:Int) (aE:qZ) (aF:((List Int)×(Int×Unit))) (aG:Nat) (aH:Nat) (aI:(List ((List UInt8)×Bool)))
abbrev a2b:List pD:=[(.val .ref (some (0,0)),none),(.val (.int .i64) O,none),(.val .str Z,none)]
abbrev a2c:List pC:=[.cells rO (aA,(aB,(aC,(aD,(aE,((some 3),aF)))))) [(11,1),(13,2)],.grow 55 7 aG,.grow 3 1 aH,.map .str .bool aI]
@[go_sem] def a2d:pJ:=⟨[aG=(aE.2.2.2.1.length),aH=(aF.1.length)],[(.val .bool (((decide (aD=(0:Int)))&&(decide (aB.1=O)))&&(decide (aB.2.1=Z))),none)],[.cells rO ((aA.1,(aA.2.1,())),((aB.1,(aB.2.1,(aB.2.2.1,(aB.2.2.2.1,())))),(aC,(aD,((aE.1,(aE.2.1,(aE.2.2.1,(aE.2.2.2.1,())))),((some 3),(aF.1,(aF.2.1,())))))))) [(11,1),(13,2)],.grow 55 7 (aE.2.2.2.1.length),.grow 3 1 (aF.1.length),.map .str .bool aI]⟩
def aDj:List pD→List pC→Option pJ:=qP (V:=(Int×(List UInt8)×((List UInt8)×(Int×Unit))×rS×Int×Int×qZ×((List Int)×(Int×Unit))×Nat×Nat×(List ((List UInt8)×Bool)))) (fun x=>a2b x.1 x.2.1) (fun x=>a2c x.2.2.1 x.2.2.2.1 x.2.2.2.2.1 x.2.2.2.2.2.1 x.2.2.2.2.2.2.1 x.2.2.2.2.2.2.2.1 x.2.2.2.2.2.2.2.2.1 x.2.2.2.2.2.2.2.2.2.1 x.2.2.2.2.2.2.2.2.2.2) fun x=>a2d x.1 x.2.1 x.2.2.1 x.2.2.2.1 x.2.2.2.2.1 x.2.2.2.2.2.1 x.2.2.2.2.2.2.1 x.2.2.2.2.2.2.2.1 x.2.2.2.2.2.2.2.2.1 x.2.2.2.2.2.2.2.2.2.1 x.2.2.2.2.2.2.2.2.2.2
@[go_sem] theorem aRY:aDj (no_index (a2b O Z)) (no_index (a2c aA aB aC aD aE aF aG aH aI))=some (a2d O Z aA aB aC aD aE aF aG aH aI):=qQ (fun⟨a0,a1,a2,a3,a4,a5,a6,a7,a8,a9,a10⟩ ⟨b0,b1,b2,b3,b4,b5,b6,b7,b8,b9,b10⟩ h1 h2=>by cases h1;cases h2;rfl) (O,Z,aA,aB,aC,aD,aE,aF,aG,aH,aI)
end
@[go_sem] abbrev aDk:Nat×qC:=(176,⟨[.p rO [11,13],.v,.v],aDj,[(0,12,.m)],[0,1,2,3],none⟩)
theorem a2e:qG Tryz.prog [uX,rP,HW,zT,yC] (qE []):=⟨⟨vK,⟨rQ,⟨M8,⟨BE,⟨zS,trivial⟩⟩⟩⟩⟩,qS,qI⟩
theorem aMm:qJ Tryz.prog aDk:=by
 refine qR a2e Tryz.func176 (c:=_) rfl (N:=30) (by kernel_rfl) (ts:=[(6,none)]) rfl (fun _ _=>rfl) ?_;intro⟨O,Z,aA,aB,aC,aD,aE,aF,aG,aH,aI⟩ hs hrow;dsimp only[a2b,a2c,a2d,qM,pN,pW,qH,qO,Nat.reduceAdd] at hs hrow⊢;obtain⟨rfl,rfl⟩:=hs;obtain⟨z0,hC0⟩: ∃z,(aDi aA aB aC aD aE aF O Z aI)=z:=⟨_,rfl⟩
 try rw[hC0]
 unfold aDi at hC0;refine pB a2e ?_;refine pB a2e ?_ (hp:=by exact⟨fun hh=>hh,fun hh=>hh,fun hh=>hh,fun hh=>hh,fun hh=>hh,fun hh=>hh,fun hh=>rL hh,fun hh=>hh,fun hh=>hh,fun hh=>hh,fun hh=>hh,fun hh=>hh,fun hh=>hh,(fun hh=>rL hh)⟩);refine pK ?_;cases hC0;exact⟨[(0,0),(1,1),(2,2),(3,3)],by rfl,by rfl,by rfl⟩
def uB (O:((List UInt8)×(Int×Unit))) (Z:rS) (aA:Int) (aB:Int) (aC:qZ) (aD:((List Int)×(Int×Unit))) (aE:Int) (aF:(List ((List UInt8)×Bool))):(Int×Int):=if (decide (aB=(0:Int)))=true then (Z.2.2.1,aE) else (aA,aB)
section
variable (O:Int) (Z:((List UInt8)×(Int×Unit))) (aA:rS) (aB:Int) (aC:Int) (aD:qZ) (aE:((List Int)×(Int×Unit))) (aF:Nat) (aG:Nat) (aH:(List ((List UInt8)×Bool)))
abbrev a2f:List pD:=[(.val .ref (some (0,0)),none),(.val (.int .i64) O,none)]
abbrev a2g:List pC:=[.cells rO (Z,(aA,(aB,(aC,(aD,((some 3),aE)))))) [(11,1),(13,2)],.grow 55 7 aF,.grow 3 1 aG,.map .str .bool aH]
@[go_sem] def a2h:pJ:=⟨[aF=(aD.2.2.2.1.length),aG=(aE.1.length)],[],[.cells rO ((Z.1,(Z.2.1,())),((aA.1,(aA.2.1,(aA.2.2.1,(aA.2.2.2.1,())))),((uB Z aA aB aC aD aE O aH).1,((uB Z aA aB aC aD aE O aH).2,((aD.1,(aD.2.1,(aD.2.2.1,(aD.2.2.2.1,())))),((some 3),(aE.1,(aE.2.1,())))))))) [(11,1),(13,2)],.grow 55 7 (aD.2.2.2.1.length),.grow 3 1 (aE.1.length),.map .str .bool aH]⟩
def aDl:List pD→List pC→Option pJ:=qP (V:=(Int×((List UInt8)×(Int×Unit))×rS×Int×Int×qZ×((List Int)×(Int×Unit))×Nat×Nat×(List ((List UInt8)×Bool)))) (fun x=>a2f x.1) (fun x=>a2g x.2.1 x.2.2.1 x.2.2.2.1 x.2.2.2.2.1 x.2.2.2.2.2.1 x.2.2.2.2.2.2.1 x.2.2.2.2.2.2.2.1 x.2.2.2.2.2.2.2.2.1 x.2.2.2.2.2.2.2.2.2) fun x=>a2h x.1 x.2.1 x.2.2.1 x.2.2.2.1 x.2.2.2.2.1 x.2.2.2.2.2.1 x.2.2.2.2.2.2.1 x.2.2.2.2.2.2.2.1 x.2.2.2.2.2.2.2.2.1 x.2.2.2.2.2.2.2.2.2
@[go_sem] theorem aRZ:aDl (no_index (a2f O)) (no_index (a2g Z aA aB aC aD aE aF aG aH))=some (a2h O Z aA aB aC aD aE aF aG aH):=qQ (fun⟨a0,a1,a2,a3,a4,a5,a6,a7,a8,a9⟩ ⟨b0,b1,b2,b3,b4,b5,b6,b7,b8,b9⟩ h1 h2=>by cases h1;cases h2;rfl) (O,Z,aA,aB,aC,aD,aE,aF,aG,aH)
end
@[go_sem] abbrev zU:Nat×qC:=(177,⟨[.p rO [11,13],.v],aDl,[(0,12,.m)],[1,2,3],none⟩)
theorem a2i:qG Tryz.prog [uX,HW,zT,yC] (qE []):=⟨⟨vK,⟨M8,⟨BE,⟨zS,trivial⟩⟩⟩⟩,qS,qI⟩
theorem F3:qJ Tryz.prog zU:=by
 refine qR a2i Tryz.func177 (c:=_) rfl (N:=21) (by kernel_rfl) (ts:=[]) rfl (fun _ _=>rfl) ?_;intro⟨O,Z,aA,aB,aC,aD,aE,aF,aG,aH⟩ hs hrow;dsimp only[a2f,a2g,a2h,qM,pN,pW,qH,qO,Nat.reduceAdd] at hs hrow⊢;obtain⟨rfl,rfl⟩:=hs;obtain⟨z0,hC0⟩: ∃z,(uB Z aA aB aC aD aE O aH)=z:=⟨_,rfl⟩
 try rw[hC0]
 unfold uB at hC0;refine pB a2i ?_;refine pO hC0 (fun hC0 hc1=> ?_) (fun hC0 hc1=> ?_)
 ·refine qU a2i ?_;cases hC0;exact⟨[(0,0),(1,1),(2,2),(3,3)],by rfl,by rfl,by rfl⟩
 ·refine qD ?_;cases hC0;exact⟨[(0,0),(1,1),(2,2),(3,3)],by rfl,by rfl,by rfl⟩
def wV (O:(List UInt8)) (Z:(List UInt8)) (aA:(List UInt8)) (aB:(List (List UInt8))) (aC:(Int×((List pV)×Unit))) (aD:Bool) (aE:(List (List UInt8))) (aF:(List ((List UInt8)×Bool))):(List ((List UInt8)×(Option Nat))):=if aD=true then (sL .str .fn ([102,108,97,103]:List UInt8) (some 218) (sL .str .fn ([115,116,97,116,101]:List UInt8) (some 217) (sL .str .fn ([116,97,114,103,101,116]:List UInt8) (some 216) (sL .str .fn ([115,111,117,114,99,101]:List UInt8) (some 215) (sL .str .fn ([102,105,101,108,100]:List UInt8) (some 214) (sL .str .fn ([99,111,109,109,101,110,116]:List UInt8) (some 213) ([]:List ((List UInt8)×(Option Nat))))))))) else (sL .str .fn ([102,105,101,108,100]:List UInt8) (some 214) (sL .str .fn ([99,111,109,109,101,110,116]:List UInt8) (some 213) ([]:List ((List UInt8)×(Option Nat)))))
section
variable (O:(List UInt8)) (Z:(List UInt8)) (aA:(List UInt8)) (aB:(List (List UInt8))) (aC:Nat) (aD:(Int×((List pV)×Unit))) (aE:Bool) (aF:Nat) (aG:Nat) (aH:(List (List UInt8))) (aI:Nat) (aJ:(List ((List UInt8)×Bool)))
abbrev a2j:List pD:=[(.val .ref (some (0,0)),none)]
abbrev a2k:List pC:=[.cells sS ((O,(Z,(aA,(aB,((some (3,aC)),aD))))),(aE,((some 4),()))) [(3,1),(6,2)],.grow 9 1 aF,.grow 149 2 aG,.row 9 .str aH aI,.map .str .bool aJ]
@[go_sem] def a2l:pJ:=⟨[aF=(aB.length),aG=(aD.2.1.length),aC=aI],[(.val .mp (some 5),none)],[.cells sS ((O,(Z,(aA,(aB,((some (3,(aH.length))),(aD.1,(aD.2.1,()))))))),(aE,((some 4),()))) [(3,1),(6,2)],.grow 9 1 (aB.length),.grow 149 2 (aD.2.1.length),.row 9 .str aH (aH.length),.map .str .bool aJ,.map .str .fn (wV O Z aA aB aD aE aH aJ)]⟩
def aDm:List pD→List pC→Option pJ:=qP (V:=((List UInt8)×(List UInt8)×(List UInt8)×(List (List UInt8))×Nat×(Int×((List pV)×Unit))×Bool×Nat×Nat×(List (List UInt8))×Nat×(List ((List UInt8)×Bool)))) (fun x=>a2j) (fun x=>a2k x.1 x.2.1 x.2.2.1 x.2.2.2.1 x.2.2.2.2.1 x.2.2.2.2.2.1 x.2.2.2.2.2.2.1 x.2.2.2.2.2.2.2.1 x.2.2.2.2.2.2.2.2.1 x.2.2.2.2.2.2.2.2.2.1 x.2.2.2.2.2.2.2.2.2.2.1 x.2.2.2.2.2.2.2.2.2.2.2) fun x=>a2l x.1 x.2.1 x.2.2.1 x.2.2.2.1 x.2.2.2.2.1 x.2.2.2.2.2.1 x.2.2.2.2.2.2.1 x.2.2.2.2.2.2.2.1 x.2.2.2.2.2.2.2.2.1 x.2.2.2.2.2.2.2.2.2.1 x.2.2.2.2.2.2.2.2.2.2.1 x.2.2.2.2.2.2.2.2.2.2.2
@[go_sem] theorem aR0:aDm (no_index a2j) (no_index (a2k O Z aA aB aC aD aE aF aG aH aI aJ))=some (a2l O Z aA aB aC aD aE aF aG aH aI aJ):=qQ (fun⟨a0,a1,a2,a3,a4,a5,a6,a7,a8,a9,a10,a11⟩ ⟨b0,b1,b2,b3,b4,b5,b6,b7,b8,b9,b10,b11⟩ h1 h2=>by cases h1;cases h2;rfl) (O,Z,aA,aB,aC,aD,aE,aF,aG,aH,aI,aJ)
end
@[go_sem] abbrev a2m:Nat×qC:=(179,⟨[.p sS [3,6]],aDm,[(0,4,.r),(0,8,.m)],[0,1,2,3,4],none⟩)
theorem aDn:qG Tryz.prog [] (qE []):=⟨trivial,qS,qI⟩
theorem MG:qG Tryz.prog [EZ,rP,C5,UO,UP] (qE []):=⟨⟨HU,⟨rQ,⟨DQ,⟨aCo,⟨aCp,trivial⟩⟩⟩⟩⟩,aDn.Γ,qI⟩
theorem aMn:qJ Tryz.prog a2m:=by
 refine qR aDn Tryz.func179 (c:=_) rfl (N:=15) (by kernel_rfl) (ts:=[(2,none)]) rfl (fun _ _=>rfl) ?_;intro⟨O,Z,aA,aB,aC,aD,aE,aF,aG,aH,aI,aJ⟩ hs hrow;dsimp only[a2j,a2k,a2l,qM,pN,pW,qH,qO,Nat.reduceAdd] at hs hrow⊢;obtain⟨rfl,rfl,rfl⟩:=hs;obtain⟨rfl,_⟩:=hrow;obtain⟨z0,hC0⟩: ∃z,(wV O Z aA aB aD aE aH aJ)=z:=⟨_,rfl⟩
 try rw[hC0]
 unfold wV at hC0;refine pB MG ?_;refine pB MG ?_;refine pP ?_;refine pB MG ?_;refine pO hC0 (fun hC0 hc1=> ?_) (fun hC0 hc1=> ?_)
 ·refine qU MG ?_;refine pL ?_;refine pB MG ?_;refine pK ?_;cases hC0;exact⟨[(0,0),(1,1),(2,2),(3,3),(4,4),(5,37)],by rfl,by rfl,by rfl⟩
 ·refine qD (pL ?_);refine pB MG ?_;refine pK ?_;cases hC0;exact⟨[(0,0),(1,1),(2,2),(3,3),(4,4),(5,37)],by rfl,by rfl,by rfl⟩
def MH (O:(List UInt8)) (Z:(List UInt8)):Option Unit:=if (((decide ((Z.length:Int)≤(O.length:Int)))==true)=true→0≤(0:Int)∧(0:Int)≤(Z.length:Int)∧(Z.length:Int)≤(O.length:Int)) then some (()) else none
section
variable (O:(List UInt8)) (Z:(List UInt8))
abbrev a2n:List pD:=[(.val .str O,none),(.val .str Z,none)]
abbrev a2o:List pC:=[]
@[go_sem] def a2p:pJ:=⟨[((MH O Z)).isSome=true],[(.val .bool ((decide ((Z.length:Int)≤(O.length:Int)))&&(decide ((pT O (0:Int) (Z.length:Int))=Z))),none)],[]⟩
def aDo:List pD→List pC→Option pJ:=qP (V:=((List UInt8)×(List UInt8))) (fun x=>a2n x.1 x.2) (fun x=>a2o) fun x=>a2p x.1 x.2
@[go_sem] theorem aR1:aDo (no_index (a2n O Z)) (no_index a2o)=some (a2p O Z):=qQ (fun⟨a0,a1⟩ ⟨b0,b1⟩ h1 h2=>by cases h1;cases h2;rfl) (O,Z)
end
@[go_sem] abbrev a2q:Nat×qC:=(183,⟨[.v,.v],aDo,[],[],none⟩)
theorem a2r:qG Tryz.prog [rP] (qE []):=⟨⟨rQ,trivial⟩,qS,qI⟩
theorem aDp:qJ Tryz.prog a2q:=by
 refine qR a2r Tryz.func183 (c:=_) rfl (N:=18) (by kernel_rfl) (ts:=[(4,none)]) rfl (fun _ _=>rfl) ?_;intro⟨O,Z⟩ hs hrow;dsimp only[a2n,a2o,a2p,qM,pN,pW,qH,qO,Nat.reduceAdd] at hs hrow⊢;have hz:=hs;obtain⟨z0,hC0⟩:=aTF.1 hz
 try rw[r8 hC0]
 clear hz hs;unfold MH at hC0;refine pB a2r ?_;obtain⟨hg1,hC0⟩:=pI hC0;refine pB a2r ?_ (hp:=by exact⟨fun hh=>hh,fun hh=>hh,fun hh=>hh,hg1,fun hh=>hh,fun hh=>hh,(fun hh=>rL hh)⟩);refine pK ?_;cases hC0;exact⟨[],by rfl,by rfl,by rfl⟩
attribute [irreducible] MH
def MI (O:(List UInt8)) (Z:(List UInt8)):Option ((List UInt8)×Bool):=(MH O Z).bind fun aA=>if (!((decide ((Z.length:Int)≤(O.length:Int)))&&(decide ((pT O (0:Int) (Z.length:Int))=Z))))=true then some ((O,false)) else if 0≤(Z.length:Int)∧(Z.length:Int)≤(O.length:Int)∧(O.length:Int)≤(O.length:Int) then some (((pT O (Z.length:Int) (O.length:Int)),true)) else none
section
variable (O:(List UInt8)) (Z:(List UInt8))
abbrev a2s:List pD:=[(.val .str O,none),(.val .str Z,none)]
abbrev a2t:List pC:=[]
@[go_sem] def a2u:pJ:=⟨[((MI O Z)).isSome=true],[(.val .str ((val (MI O Z)).1),none),(.val .bool ((val (MI O Z)).2),none)],[]⟩
def aDq:List pD→List pC→Option pJ:=qP (V:=((List UInt8)×(List UInt8))) (fun x=>a2s x.1 x.2) (fun x=>a2t) fun x=>a2u x.1 x.2
@[go_sem] theorem aR2:aDq (no_index (a2s O Z)) (no_index a2t)=some (a2u O Z):=qQ (fun⟨a0,a1⟩ ⟨b0,b1⟩ h1 h2=>by cases h1;cases h2;rfl) (O,Z)
end
@[go_sem] abbrev aDr:Nat×qC:=(184,⟨[.v,.v],aDq,[],[],none⟩)
theorem PV:qG Tryz.prog [rP] (qE [a2q]):=⟨⟨rQ,trivial⟩,pM aDp qS,qI⟩
theorem aMo:qJ Tryz.prog aDr:=by
 refine qR PV Tryz.func184 (c:=_) rfl (N:=15) (by kernel_rfl) (ts:=[(4,none),(5,none)]) rfl (fun _ _=>rfl) ?_;intro⟨O,Z⟩ hs hrow;dsimp only[a2s,a2t,a2u,qM,pN,pW,qH,qO,Nat.reduceAdd] at hs hrow⊢;have hz:=hs;obtain⟨z0,hC0⟩:=aTF.1 hz
 try rw[r8 hC0]
 clear hz hs;unfold MI at hC0;refine pB PV ?_;refine pP ?_;obtain⟨aA,hv1,hw1,hC0⟩:=pZ hC0
 try simp only[go_sem] at hw1
 refine pB PV ?_ (hp:=by exact(pY hv1)) (h:=by simp only[go_sem,hw1];rfl);refine pO hC0 (fun hC0 hc1=> ?_) (fun hC0 hc1=> ?_)
 ·refine pB PV ?_;refine pK (qW ?_);cases hC0;exact⟨[],by rfl,by rfl,by rfl⟩
 ·refine qD (pL ?_);obtain⟨hg2,hC0⟩:=pI hC0;refine pB PV ?_ (hp:=by exact hg2);refine pK ?_;cases hC0;exact⟨[],by rfl,by rfl,by rfl⟩
attribute [irreducible] MI
end
noncomputable section
def PW (O:(List (List UInt8))) (Z:(List UInt8)):Int→Option (Int⊕(Unit⊕Int)):=fun aA=>if (decide (aA<(O.length:Int)))=true then if 0≤aA∧aA<(O.length:Int) then if (decide (Z=(pU .str O aA)))=true then some (.inr (.inr (aA))) else if pE (aA+(1:Int)) then some (.inl (aA+(1:Int))) else none else none else some (.inr (.inl ()))
def C6 (O:(List (List UInt8))) (Z:(List UInt8)):Option Int:=rW (qB (PW O Z) (0:Int)) fun _=>some ((-1:Int))
section
variable (O:(List (List UInt8))) (Z:(List UInt8))
abbrev a2v:List pD:=[(.val (.list .str) O,none),(.val .str Z,none)]
abbrev a2w:List pC:=[]
@[go_sem] def a2x:pJ:=⟨[((C6 O Z)).isSome=true],[(.val (.int .i64) (val (C6 O Z)),none)],[]⟩
def aDs:List pD→List pC→Option pJ:=qP (V:=((List (List UInt8))×(List UInt8))) (fun x=>a2v x.1 x.2) (fun x=>a2w) fun x=>a2x x.1 x.2
@[go_sem] theorem aR3:aDs (no_index (a2v O Z)) (no_index a2w)=some (a2x O Z):=qQ (fun⟨a0,a1⟩ ⟨b0,b1⟩ h1 h2=>by cases h1;cases h2;rfl) (O,Z)
end
@[go_sem] abbrev V5:Nat×qC:=(193,⟨[.v,.v],aDs,[],[],none⟩)
theorem GG:qG Tryz.prog [rP,uW] (qE []):=⟨⟨rQ,⟨vJ,trivial⟩⟩,qS,qI⟩
theorem aDt:qJ Tryz.prog V5:=by
 refine qR GG Tryz.func193 (c:=_) rfl (N:=19) (by kernel_rfl) (ts:=[(4,none)]) rfl (fun _ _=>rfl) ?_;intro⟨O,Z⟩ hs hrow;dsimp only[a2v,a2w,a2x,qM,pN,pW,qH,qO,Nat.reduceAdd] at hs hrow⊢;have hz:=hs;obtain⟨z0,hC0⟩:=aTF.1 hz
 try rw[r8 hC0]
 clear hz hs;unfold C6 at hC0;refine pB GG ?_;refine pP ?_;refine pB GG ?_;refine rC ?_;obtain⟨y1,hy1,hC0⟩:=uI hC0;refine t7 0 (fun s=> ∃v,y1= .inl v∧s=(fun _=>⟨[],[],0,19,0⟩) v) ?_ ?_
 ·refine t6 hy1 (fun x=>⟨[(0,(.val (.list .str) O,none)),(1,(.val .str Z,none)),(7,(.val (.int .i64) (O.length:Int),none)),(8,(.val (.int .i64) x,none))],[],0,19,0⟩) ⟨[0,1,7,8],[]⟩ (by rfl) ?_;intro aA w1 n1 hC1 hN1;unfold PW at hC1;dsimp only at hC1⊢;refine pB GG ?_;refine pP ?_;refine pO hC1 (fun hC1 hc1=> ?_) (fun hC1 hc1=> ?_)
  ·refine qD (pL (pP (rC ?_)));refine pB GG ?_;obtain⟨hg1,hC1⟩:=pI hC1;refine pB GG ?_ (hp:=by exact hg1);refine pO hC1 (fun hC1 hc2=> ?_) (fun hC1 hc2=> ?_)
   ·refine pB GG ?_;refine pK (rE (qW (uL (uK (rE (qW ?_))))));cases hC1;cases hN1;dsimp only at hC0;cases hC0;exact⟨[],by rfl,by rfl,by rfl⟩
   ·refine qD (qY (pL ?_));obtain⟨hg2,hC1⟩:=pI hC1;refine qU GG ?_ (hp:=by exact hg2);cases hC1;exact s7 ⟨⟨[0,1,7,8],[]⟩,_,by rfl,hN1⟩
  ·refine sO (sW (sQ ?_));cases hC1;cases hN1;exact sP ⟨⟨[],[]⟩,_,rfl,by rfl⟩
 ·rintro _ ⟨v,rfl,rfl⟩;dsimp only at hC0⊢;refine sZ (pL ?_);refine pB GG ?_;refine pK ?_;cases hC0;exact⟨[],by rfl,by rfl,by rfl⟩
attribute [irreducible] C6
def MJ (O:Int) (Z:(List UInt8)) (aA:Int):Int→Option (Int⊕(Unit⊕Int)):=fun aB=>if (decide (aB<(Z.length:Int)))=true then if 0≤aB∧aB<(Z.length:Int) then if (decide ((pR Z aB)=aA))=true then some (.inr (.inr (aB))) else if (((!decide (O=(4:Int)))==true)=true→0≤aB∧aB<(Z.length:Int)) then if ((!decide (O=(4:Int)))&&(decide ((pR Z aB)=(92:Int))))=true then if pE (aB+(1:Int)) then if pE ((aB+(1:Int))+(1:Int)) then some (.inl ((aB+(1:Int))+(1:Int))) else none else none else if pE (aB+(1:Int)) then some (.inl (aB+(1:Int))) else none else none else none else some (.inr (.inl ()))
def MK (O:Int) (Z:(List UInt8)) (aA:Int):Option Int:=if (!((decide ((1:Int)≤O))&&(decide (O≤(4:Int)))))=true then some ((-1:Int)) else rW (qB (MJ O Z aA) (0:Int)) fun _=>some ((-1:Int))
attribute [irreducible] MK
def PX (O:(List UInt8)):Option Unit:=if List.length O≤9223372036854775807 then some (()) else none
section
variable (O:(List UInt8))
abbrev a2y:List pD:=[(.val .str O,none)]
abbrev a2z:List pC:=[]
@[go_sem] def a2A:pJ:=⟨[((PX O)).isSome=true],[(.val .bool (Lib.validD O),none)],[]⟩
def aDu:List pD→List pC→Option pJ:=qP (V:=(List UInt8)) (fun x=>a2y x) (fun x=>a2z) fun x=>a2A x
@[go_sem] theorem aR4:aDu (no_index (a2y O)) (no_index a2z)=some (a2A O):=qQ (fun a0 b0 h1 h2=>by cases h1;cases h2;rfl) O
end
@[go_sem] abbrev aDv:Nat×qC:=(198,⟨[.v],aDu,[],[],none⟩)
theorem a2B:qG Tryz.prog [] (qE [aCr]):=⟨trivial,pM aL7 qS,qI⟩
theorem aMp:qJ Tryz.prog aDv:=by
 refine qR a2B Tryz.func198 (c:=_) rfl (N:=5) (by kernel_rfl) (ts:=[(2,none)]) rfl (fun _ _=>rfl) ?_;intro O hs hrow;dsimp only[a2y,a2z,a2A,qM,pN,pW,qH,qO,Nat.reduceAdd] at hs hrow⊢;have hz:=hs;obtain⟨z0,hC0⟩:=aTF.1 hz
 try rw[r8 hC0]
 clear hz hs;unfold PX at hC0;refine pB a2B ?_;obtain⟨hg1,hC0⟩:=pI hC0;refine pB a2B ?_ (hp:=by exact hg1);refine pK ?_;cases hC0;exact⟨[],by rfl,by rfl,by rfl⟩
attribute [irreducible] PX
def aDw (O:Int):Unit:=()
section
variable (O:Int)
abbrev a2C:List pD:=[(.val (.int .u8) O,none)]
abbrev a2D:List pC:=[]
@[go_sem] def a2E:pJ:=⟨[],[(.val .bool ((decide (O<(32:Int)))||(decide (O=(127:Int)))),none)],[]⟩
def aDx:List pD→List pC→Option pJ:=qP (V:=Int) (fun x=>a2C x) (fun x=>a2D) fun x=>a2E x
@[go_sem] theorem aR5:aDx (no_index (a2C O)) (no_index a2D)=some (a2E O):=qQ (fun a0 b0 h1 h2=>by cases h1;cases h2;rfl) O
end
@[go_sem] abbrev aDy:Nat×qC:=(199,⟨[.v],aDx,[],[],none⟩)
theorem a2F:qG Tryz.prog [] (qE []):=⟨trivial,qS,qI⟩
theorem aMq:qJ Tryz.prog aDy:=by
 refine qR a2F Tryz.func199 (c:=_) rfl (N:=9) (by kernel_rfl) (ts:=[(2,none)]) rfl (fun _ _=>rfl) ?_;intro O hs hrow;dsimp only[a2C,a2D,a2E,qM,pN,pW,qH,qO,Nat.reduceAdd] at hs hrow⊢;obtain⟨z0,hC0⟩: ∃z,(aDw O)=z:=⟨_,rfl⟩
 try rw[hC0]
 unfold aDw at hC0;refine pB a2F ?_;refine pB a2F ?_ (hp:=by exact⟨fun hh=>hh,(fun hh=>sR hh)⟩);refine pK ?_;cases hC0;exact⟨[],by rfl,by rfl,by rfl⟩
def PY (O:Int) (Z:Int):Option Unit:=if 0≤(IntKind.wrap .i64 O)∧(IntKind.wrap .i64 O)<256∧a0z (16:Int) then if pE (Z- ((w4 (IntKind.wrap .i64 O) (16:Int)).length:Int)) then if 0≤(Z- ((w4 (IntKind.wrap .i64 O) (16:Int)).length:Int))∧(Z- ((w4 (IntKind.wrap .i64 O) (16:Int)).length:Int))≤140737488355328∧(([48]:List UInt8).length:Int)*(Z- ((w4 (IntKind.wrap .i64 O) (16:Int)).length:Int))≤140737488355328 then if (((JW ([48]:List UInt8) (Z- ((w4 (IntKind.wrap .i64 O) (16:Int)).length:Int)))++(w4 (IntKind.wrap .i64 O) (16:Int))).length:Int)≤9223372036854775807 then some (()) else none else none else none else none
section
variable (O:Int) (Z:Int)
abbrev a2G:List pD:=[(.val (.int .u8) O,none),(.val (.int .i64) Z,none)]
abbrev a2H:List pC:=[]
@[go_sem] def a2I:pJ:=⟨[((PY O Z)).isSome=true],[(.val .str ((JW ([48]:List UInt8) (Z- ((w4 (IntKind.wrap .i64 O) (16:Int)).length:Int)))++(w4 (IntKind.wrap .i64 O) (16:Int))),none)],[]⟩
def aDz:List pD→List pC→Option pJ:=qP (V:=(Int×Int)) (fun x=>a2G x.1 x.2) (fun x=>a2H) fun x=>a2I x.1 x.2
@[go_sem] theorem aR6:aDz (no_index (a2G O Z)) (no_index a2H)=some (a2I O Z):=qQ (fun⟨a0,a1⟩ ⟨b0,b1⟩ h1 h2=>by cases h1;cases h2;rfl) (O,Z)
end
@[go_sem] abbrev aDA:Nat×qC:=(201,⟨[.v,.v],aDz,[],[],none⟩)
theorem V6:qG Tryz.prog [a0D,DP,rP] (qE [aCu,aCv]):=⟨⟨aL5,⟨GA,⟨rQ,trivial⟩⟩⟩,pM aMa (pM aMb qS),qI⟩
theorem aMr:qJ Tryz.prog aDA:=by
 refine qR V6 Tryz.func201 (c:=_) rfl (N:=16) (by kernel_rfl) (ts:=[(4,none)]) rfl (fun _ _=>rfl) ?_;intro⟨O,Z⟩ hs hrow;dsimp only[a2G,a2H,a2I,qM,pN,pW,qH,qO,Nat.reduceAdd] at hs hrow⊢;have hz:=hs;obtain⟨z0,hC0⟩:=aTF.1 hz
 try rw[r8 hC0]
 clear hz hs;unfold PY at hC0;refine pB V6 ?_;obtain⟨hg1,hC0⟩:=pI hC0;refine pB V6 ?_ (hp:=by exact hg1);obtain⟨hg2,hC0⟩:=pI hC0;obtain⟨hg3,hC0⟩:=pI hC0;obtain⟨hg4,hC0⟩:=pI hC0;refine pB V6 ?_ (hp:=by exact⟨hg2,hg3,hg4⟩);refine pK ?_;cases hC0;exact⟨[],by rfl,by rfl,by rfl⟩
attribute [irreducible] PY
def V7 (O:Int) (Z:(List UInt8)):Int→Option (Int⊕(Unit⊕Bool)):=fun aA=>if (decide (aA<(Z.length:Int)))=true then if 0≤aA∧aA<(Z.length:Int) then if (decide ((pR Z aA)=O))=true then some (.inr (.inr (true))) else if pE (aA+(1:Int)) then some (.inl (aA+(1:Int))) else none else none else some (.inr (.inl ()))
def DS (O:Int) (Z:(List UInt8)):Option Bool:=rW (qB (V7 O Z) (0:Int)) fun _=>some (false)
attribute [irreducible] DS
def a2J (O:Int):Option Unit:=if 0≤(IntKind.wrap .i64 (Int.tdiv O (16:Int)))∧(IntKind.wrap .i64 (Int.tdiv O (16:Int)))<(([48,49,50,51,52,53,54,55,56,57,97,98,99,100,101,102]:List UInt8).length:Int) then if 0≤(Int.tmod O (16:Int))∧(Int.tmod O (16:Int))<(([48,49,50,51,52,53,54,55,56,57,97,98,99,100,101,102]:List UInt8).length:Int) then some (()) else none else none
attribute [irreducible] a2J
end
noncomputable section
def aDB (O:Int):Unit:=()
section
variable (O:Int)
abbrev a2K:List pD:=[(.val (.int .i64) O,none)]
abbrev a2L:List pC:=[]
@[go_sem] def a2M:pJ:=⟨[],[(.val .bool (((decide ((0:Int)≤O))&&(decide (O≤(1114111:Int))))&&((decide (O<(55296:Int)))||(decide ((57343:Int)<O)))),none)],[]⟩
def aDC:List pD→List pC→Option pJ:=qP (V:=Int) (fun x=>a2K x) (fun x=>a2L) fun x=>a2M x
@[go_sem] theorem aR7:aDC (no_index (a2K O)) (no_index a2L)=some (a2M O):=qQ (fun a0 b0 h1 h2=>by cases h1;cases h2;rfl) O
end
@[go_sem] abbrev a2N:Nat×qC:=(205,⟨[.v],aDC,[],[],none⟩)
theorem a2O:qG Tryz.prog [] (qE []):=⟨trivial,qS,qI⟩
theorem aDD:qJ Tryz.prog a2N:=by
 refine qR a2O Tryz.func205 (c:=_) rfl (N:=17) (by kernel_rfl) (ts:=[(2,none)]) rfl (fun _ _=>rfl) ?_;intro O hs hrow;dsimp only[a2K,a2L,a2M,qM,pN,pW,qH,qO,Nat.reduceAdd] at hs hrow⊢;obtain⟨z0,hC0⟩: ∃z,(aDB O)=z:=⟨_,rfl⟩
 try rw[hC0]
 unfold aDB at hC0;refine pB a2O ?_;refine pB a2O ?_ (hp:=by exact⟨fun hh=>hh,fun hh=>rL hh,fun hh=>hh,fun hh=>hh,fun hh=>hh,fun hh=>hh,fun hG hh=>EW hG hh,(fun hh=>rL hh)⟩);refine pK ?_;cases hC0;exact⟨[],by rfl,by rfl,by rfl⟩
def BG (O:Int):Option (List UInt8):=if (decide (O<(128:Int)))=true then some ((s5 ([(IntKind.wrap .u8 O)]:List Int))) else if (decide (O<(2048:Int)))=true then if pE ((192:Int)+(IntKind.wrap .i64 (Int.tdiv O (64:Int)))) then if pE ((128:Int)+(Int.tmod O (64:Int))) then some ((s5 ([(IntKind.wrap .u8 ((192:Int)+(IntKind.wrap .i64 (Int.tdiv O (64:Int))))),(IntKind.wrap .u8 ((128:Int)+(Int.tmod O (64:Int))))]:List Int))) else none else none else if (decide (O<(65536:Int)))=true then if pE ((224:Int)+(IntKind.wrap .i64 (Int.tdiv O (4096:Int)))) then if pE ((128:Int)+(Int.tmod (IntKind.wrap .i64 (Int.tdiv O (64:Int))) (64:Int))) then if pE ((128:Int)+(Int.tmod O (64:Int))) then some ((s5 ([(IntKind.wrap .u8 ((224:Int)+(IntKind.wrap .i64 (Int.tdiv O (4096:Int))))),(IntKind.wrap .u8 ((128:Int)+(Int.tmod (IntKind.wrap .i64 (Int.tdiv O (64:Int))) (64:Int)))),(IntKind.wrap .u8 ((128:Int)+(Int.tmod O (64:Int))))]:List Int))) else none else none else none else if pE ((240:Int)+(IntKind.wrap .i64 (Int.tdiv O (262144:Int)))) then if pE ((128:Int)+(Int.tmod (IntKind.wrap .i64 (Int.tdiv O (4096:Int))) (64:Int))) then if pE ((128:Int)+(Int.tmod (IntKind.wrap .i64 (Int.tdiv O (64:Int))) (64:Int))) then if pE ((128:Int)+(Int.tmod O (64:Int))) then some ((s5 ([(IntKind.wrap .u8 ((240:Int)+(IntKind.wrap .i64 (Int.tdiv O (262144:Int))))),(IntKind.wrap .u8 ((128:Int)+(Int.tmod (IntKind.wrap .i64 (Int.tdiv O (4096:Int))) (64:Int)))),(IntKind.wrap .u8 ((128:Int)+(Int.tmod (IntKind.wrap .i64 (Int.tdiv O (64:Int))) (64:Int)))),(IntKind.wrap .u8 ((128:Int)+(Int.tmod O (64:Int))))]:List Int))) else none else none else none else none
section
variable (O:Int)
abbrev a2P:List pD:=[(.val (.int .i64) O,none)]
abbrev a2Q:List pC:=[]
@[go_sem] def a2R:pJ:=⟨[((BG O)).isSome=true],[(.val .str (val (BG O)),none)],[]⟩
def aDE:List pD→List pC→Option pJ:=qP (V:=Int) (fun x=>a2P x) (fun x=>a2Q) fun x=>a2R x
@[go_sem] theorem aR8:aDE (no_index (a2P O)) (no_index a2Q)=some (a2R O):=qQ (fun a0 b0 h1 h2=>by cases h1;cases h2;rfl) O
end
@[go_sem] abbrev a2S:Nat×qC:=(206,⟨[.v],aDE,[],[],none⟩)
theorem GH:qG Tryz.prog [uX,DP,rP,EY] (qE []):=⟨⟨vK,⟨GA,⟨rQ,⟨HT,trivial⟩⟩⟩⟩,qS,qI⟩
theorem aDF:qJ Tryz.prog a2S:=by
 refine qR GH Tryz.func206 (c:=_) rfl (N:=61) (by kernel_rfl) (ts:=[(2,none)]) rfl (fun _ _=>rfl) ?_;intro O hs hrow;dsimp only[a2P,a2Q,a2R,qM,pN,pW,qH,qO,Nat.reduceAdd] at hs hrow⊢;have hz:=hs;obtain⟨z0,hC0⟩:=aTF.1 hz
 try rw[r8 hC0]
 clear hz hs;unfold BG at hC0;refine pB GH ?_;refine pP (rC ?_);refine pB GH ?_;refine pO hC0 (fun hC0 hc1=> ?_) (fun hC0 hc1=> ?_)
 ·refine pB GH ?_;refine pK (rE (qW ?_));cases hC0;exact⟨[],by rfl,by rfl,by rfl⟩
 ·refine pB GH ?_;refine pO hC0 (fun hC0 hc2=> ?_) (fun hC0 hc2=> ?_)
  ·obtain⟨hg1,hC0⟩:=pI hC0;obtain⟨hg2,hC0⟩:=pI hC0;refine pB GH ?_ (hp:=by exact⟨show (64:Int)≠0 from by decide,hg1,show (64:Int)≠0 from by decide,hg2⟩);refine pK (rE (qW ?_));cases hC0;exact⟨[],by rfl,by rfl,by rfl⟩
  ·refine pB GH ?_;refine pO hC0 (fun hC0 hc3=> ?_) (fun hC0 hc3=> ?_)
   ·obtain⟨hg3,hC0⟩:=pI hC0;obtain⟨hg4,hC0⟩:=pI hC0;obtain⟨hg5,hC0⟩:=pI hC0;refine pB GH ?_ (hp:=by exact⟨show (4096:Int)≠0 from by decide,hg3,show (64:Int)≠0 from by decide,show (64:Int)≠0 from by decide,hg4,show (64:Int)≠0 from by decide,hg5⟩);refine pK (rE (qW ?_));cases hC0;exact⟨[],by rfl,by rfl,by rfl⟩
   ·refine qD (qY (pL ?_));obtain⟨hg6,hC0⟩:=pI hC0;obtain⟨hg7,hC0⟩:=pI hC0;obtain⟨hg8,hC0⟩:=pI hC0;obtain⟨hg9,hC0⟩:=pI hC0;refine pB GH ?_ (hp:=by exact⟨show (262144:Int)≠0 from by decide,hg6,show (4096:Int)≠0 from by decide,show (64:Int)≠0 from by decide,hg7,show (64:Int)≠0 from by decide,show (64:Int)≠0 from by decide,hg8,show (64:Int)≠0 from by decide,hg9⟩);refine pK ?_;cases hC0;exact⟨[],by rfl,by rfl,by rfl⟩
attribute [irreducible] BG
def DT (O:(List UInt8)) (Z:Int):(Int×Int)→Option ((Int×Int)⊕(Int⊕(Int×Int))):=fun(aA,aB)=>if (decide (aB<Z))=true then if 0≤aB∧aB<(O.length:Int) then if (((decide ((pR O aB)<(128:Int)))==false)=true→0≤aB∧aB<(O.length:Int)) then if ((decide ((pR O aB)<(128:Int)))||(decide ((191:Int)<(pR O aB))))=true then some (.inr (.inr (((65533:Int),(1:Int))))) else if pE ((64:Int)*aA) then if 0≤aB∧aB<(O.length:Int) then if pE (((64:Int)*aA)+(IntKind.wrap .i64 (pR O aB))) then if pE ((((64:Int)*aA)+(IntKind.wrap .i64 (pR O aB)))- (128:Int)) then if pE (aB+(1:Int)) then some (.inl (((((64:Int)*aA)+(IntKind.wrap .i64 (pR O aB)))- (128:Int)),(aB+(1:Int)))) else none else none else none else none else none else none else none else some (.inr (.inl aA))
def I1 (O:(List UInt8)):Option (Int×Int):=if 0≤(0:Int)∧(0:Int)<(O.length:Int) then rW (σ:=(Int×Int)) (if (decide ((IntKind.wrap .i64 (pR O (0:Int)))<(128:Int)))=true then some (.inr (((IntKind.wrap .i64 (pR O (0:Int))),(1:Int)))) else if ((decide ((192:Int)≤(IntKind.wrap .i64 (pR O (0:Int)))))&&(decide ((IntKind.wrap .i64 (pR O (0:Int)))<(224:Int))))=true then if pE ((IntKind.wrap .i64 (pR O (0:Int)))- (192:Int)) then some (.inl (((IntKind.wrap .i64 (pR O (0:Int)))- (192:Int)),(2:Int))) else none else if ((decide ((224:Int)≤(IntKind.wrap .i64 (pR O (0:Int)))))&&(decide ((IntKind.wrap .i64 (pR O (0:Int)))<(240:Int))))=true then if pE ((IntKind.wrap .i64 (pR O (0:Int)))- (224:Int)) then some (.inl (((IntKind.wrap .i64 (pR O (0:Int)))- (224:Int)),(3:Int))) else none else if ((decide ((240:Int)≤(IntKind.wrap .i64 (pR O (0:Int)))))&&(decide ((IntKind.wrap .i64 (pR O (0:Int)))<(248:Int))))=true then if pE ((IntKind.wrap .i64 (pR O (0:Int)))- (240:Int)) then some (.inl (((IntKind.wrap .i64 (pR O (0:Int)))- (240:Int)),(4:Int))) else none else some (.inr (((65533:Int),(1:Int)))) ) fun(Z,aA)=>if (decide ((O.length:Int)<aA))=true then some (((65533:Int),(1:Int))) else rW (qB (DT O aA) (Z,(1:Int))) fun aB=>if (((!(((decide ((0:Int)≤aB))&&(decide (aB≤(1114111:Int))))&&((decide (aB<(55296:Int)))||(decide ((57343:Int)<aB)))))==false)=true→((BG aB)).isSome=true) then if (((!(((decide ((0:Int)≤aB))&&(decide (aB≤(1114111:Int))))&&((decide (aB<(55296:Int)))||(decide ((57343:Int)<aB)))))==false)=true→0≤(0:Int)∧(0:Int)≤aA∧aA≤(O.length:Int)) then if ((!(((decide ((0:Int)≤aB))&&(decide (aB≤(1114111:Int))))&&((decide (aB<(55296:Int)))||(decide ((57343:Int)<aB)))))||(!decide ((val (BG aB))=(pT O (0:Int) aA))))=true then some (((65533:Int),(1:Int))) else some ((aB,aA)) else none else none else none
section
variable (O:(List UInt8))
abbrev a2T:List pD:=[(.val .str O,none)]
abbrev a2U:List pC:=[]
@[go_sem] def a2V:pJ:=⟨[((I1 O)).isSome=true],[(.val (.int .i64) ((val (I1 O)).1),none),(.val (.int .i64) ((val (I1 O)).2),none)],[]⟩
def aDG:List pD→List pC→Option pJ:=qP (V:=(List UInt8)) (fun x=>a2T x) (fun x=>a2U) fun x=>a2V x
@[go_sem] theorem aR9:aDG (no_index (a2T O)) (no_index a2U)=some (a2V O):=qQ (fun a0 b0 h1 h2=>by cases h1;cases h2;rfl) O
end
@[go_sem] abbrev aDH:Nat×qC:=(207,⟨[.v],aDG,[],[],none⟩)
theorem w6:qG Tryz.prog [uX,DP,rP] (qE [a2N,a2S]):=⟨⟨vK,⟨GA,⟨rQ,trivial⟩⟩⟩,pM aDD (pM aDF qS),qI⟩
theorem aMs:qJ Tryz.prog aDH:=by
 refine qR w6 Tryz.func207 (c:=_) rfl (N:=81) (by kernel_rfl) (ts:=[(2,none),(3,none)]) rfl (fun _ _=>rfl) ?_;intro O hs hrow;dsimp only[a2T,a2U,a2V,qM,pN,pW,qH,qO,Nat.reduceAdd] at hs hrow⊢;have hz:=hs;obtain⟨z0,hC0⟩:=aTF.1 hz
 try rw[r8 hC0]
 clear hz hs;unfold I1 at hC0;refine pB w6 ?_;obtain⟨hg1,hC0⟩:=pI hC0;refine pB w6 ?_ (hp:=by exact hg1);refine pP ?_;obtain⟨y1,hC1,hC0⟩:=uI hC0;refine BB (fun s=> ∃v,y1= .inl v∧s=(fun x=>⟨[(0,(.val .str O,none)),(4,(.val (.int .i64) x.1,none)),(5,(.val (.int .i64) x.2,none))],[],0,81,0⟩) v) ?_ ?_
 ·refine rC ?_;refine pB w6 ?_;refine pO hC1 (fun hC1 hc1=> ?_) (fun hC1 hc1=> ?_)
  ·refine pB w6 ?_;refine pK (rE (a0o (qW ?_)));cases hC1;dsimp only at hC0;cases hC0;exact⟨[],by rfl,by rfl,by rfl⟩
  ·refine pB w6 ?_ (hp:=by exact⟨fun hh=>hh,(fun hh=>rL hh)⟩);refine pO hC1 (fun hC1 hc2=> ?_) (fun hC1 hc2=> ?_)
   ·obtain⟨hg2,hC1⟩:=pI hC1;refine qU w6 ?_ (hp:=by exact hg2);refine qY ?_;cases hC1;exact uE ⟨⟨[0,4,5],[]⟩,_,rfl,by rfl⟩
   ·refine pB w6 ?_ (hp:=by exact⟨fun hh=>hh,(fun hh=>rL hh)⟩);refine pO hC1 (fun hC1 hc3=> ?_) (fun hC1 hc3=> ?_)
    ·obtain⟨hg3,hC1⟩:=pI hC1;refine qU w6 ?_ (hp:=by exact hg3);refine qY ?_;cases hC1;exact uE ⟨⟨[0,4,5],[]⟩,_,rfl,by rfl⟩
    ·refine pB w6 ?_ (hp:=by exact⟨fun hh=>hh,(fun hh=>rL hh)⟩);refine pO hC1 (fun hC1 hc4=> ?_) (fun hC1 hc4=> ?_)
     ·obtain⟨hg4,hC1⟩:=pI hC1;refine qU w6 ?_ (hp:=by exact hg4);refine qY ?_;cases hC1;exact uE ⟨⟨[0,4,5],[]⟩,_,rfl,by rfl⟩
     ·refine pB w6 ?_;refine pK (rE (a0o (qW ?_)));cases hC1;dsimp only at hC0;cases hC0;exact⟨[],by rfl,by rfl,by rfl⟩
 ·rintro _ ⟨v,rfl,rfl⟩;obtain⟨Z,aA⟩:=v;dsimp only at hC0⊢;refine pL (pP ?_);refine pB w6 ?_;refine pO hC0 (fun hC0 hc5=> ?_) (fun hC0 hc5=> ?_)
  ·refine pB w6 ?_;refine pK (qW ?_);cases hC0;exact⟨[],by rfl,by rfl,by rfl⟩
  ·refine qD (pL (pP ?_));refine pB w6 ?_;refine rC ?_;obtain⟨y1,hy1,hC0⟩:=uI hC0;refine t7 1 (fun s=> ∃v,y1= .inl v∧s=(fun x=>⟨[(0,(.val .str O,none)),(4,(.val (.int .i64) x,none)),(5,(.val (.int .i64) aA,none))],[],0,81,0⟩) v) ?_ ?_
   ·refine t6 hy1 (fun x=>⟨[(0,(.val .str O,none)),(4,(.val (.int .i64) x.1,none)),(5,(.val (.int .i64) aA,none)),(6,(.val (.int .i64) x.2,none))],[],0,81,0⟩) ⟨[0,4,5,6],[]⟩ (by rfl) ?_;intro x1 w1 n1 hC1 hN1;obtain⟨aB,aC⟩:=x1;unfold DT at hC1;dsimp only at hC1⊢;refine pP ?_;refine pB w6 ?_;refine pO hC1 (fun hC1 hc6=> ?_) (fun hC1 hc6=> ?_)
    ·refine qD (pL (pP (rC (pP ?_))));obtain⟨hg5,hC1⟩:=pI hC1;obtain⟨hg6,hC1⟩:=pI hC1;refine pB w6 ?_ (hp:=by exact⟨hg5,fun hh=>hh,fun hh=>hh,hg6,fun hh=>hh,(fun hh=>sR hh)⟩);refine pO hC1 (fun hC1 hc7=> ?_) (fun hC1 hc7=> ?_)
     ·refine pB w6 ?_;refine pK (qW (rE (qW (uL (uK (rE (qW ?_)))))));cases hC1;cases hN1;dsimp only at hC0;cases hC0;exact⟨[],by rfl,by rfl,by rfl⟩
     ·refine qD (pL ?_);obtain⟨hg7,hC1⟩:=pI hC1;obtain⟨hg8,hC1⟩:=pI hC1;obtain⟨hg9,hC1⟩:=pI hC1;obtain⟨hg10,hC1⟩:=pI hC1;refine qU w6 ?_ (hp:=by exact⟨hg7,hg8,hg9,hg10⟩);refine qY (pL ?_);obtain⟨hg11,hC1⟩:=pI hC1;refine qU w6 ?_ (hp:=by exact hg11);cases hC1;exact s7 ⟨⟨[0,4,5,6],[]⟩,_,by rfl,hN1⟩
    ·refine sO (sW (sQ ?_));cases hC1;cases hN1;exact sP ⟨⟨[0,4,5],[]⟩,_,rfl,by rfl⟩
   ·rintro _ ⟨aD,rfl,rfl⟩;dsimp only at hC0⊢;refine sZ (pL (pP ?_));obtain⟨hg12,hC0⟩:=pI hC0;obtain⟨hg13,hC0⟩:=pI hC0;refine xD w6 ?_ (hp:=by exact⟨fun hh=>hh,hg12,fun hh=>hh,fun hh=>hh,hg13,fun hh=>hh,fun hh=>hh,(fun hh=>sR hh)⟩);refine pO hC0 (fun hC0 hc8=> ?_) (fun hC0 hc8=> ?_)
    ·refine pB w6 ?_;refine pK (qW ?_);cases hC0;exact⟨[],by rfl,by rfl,by rfl⟩
    ·refine qD (pL ?_);refine pB w6 ?_;refine pK ?_;cases hC0;exact⟨[],by rfl,by rfl,by rfl⟩
attribute [irreducible] I1
def K0 (O:Int) (Z:Int):Bool:=if (decide (O=(1:Int)))=true then (decide (Z=(10:Int))) else rM (σ:=Bool) (if (decide (O=(2:Int)))=true then (decide (O=(2:Int))) else (decide (O=(3:Int))) ) fun aA=>if aA=true then ((decide (Z=(10:Int)))||(decide (Z=(34:Int)))) else ((decide (Z=(60:Int)))||(decide (Z=(34:Int))))
section
variable (O:Int) (Z:Int)
abbrev a2W:List pD:=[(.val (.int .i64) O,none),(.val (.int .u8) Z,none)]
abbrev a2X:List pC:=[]
@[go_sem] def a2Y:pJ:=⟨[],[(.val .bool (K0 O Z),none)],[]⟩
def aDI:List pD→List pC→Option pJ:=qP (V:=(Int×Int)) (fun x=>a2W x.1 x.2) (fun x=>a2X) fun x=>a2Y x.1 x.2
@[go_sem] theorem aSa:aDI (no_index (a2W O Z)) (no_index a2X)=some (a2Y O Z):=qQ (fun⟨a0,a1⟩ ⟨b0,b1⟩ h1 h2=>by cases h1;cases h2;rfl) (O,Z)
end
@[go_sem] abbrev aDJ:Nat×qC:=(211,⟨[.v,.v],aDI,[],[],none⟩)
theorem GI:qG Tryz.prog [] (qE []):=⟨trivial,qS,qI⟩
theorem aMt:qJ Tryz.prog aDJ:=by
 refine qR GI Tryz.func211 (c:=_) rfl (N:=25) (by kernel_rfl) (ts:=[(4,none)]) rfl (fun _ _=>rfl) ?_;intro⟨O,Z⟩ hs hrow;dsimp only[a2W,a2X,a2Y,qM,pN,pW,qH,qO,Nat.reduceAdd] at hs hrow⊢;obtain⟨z0,hC0⟩: ∃z,(K0 O Z)=z:=⟨_,rfl⟩
 try rw[hC0]
 unfold K0 at hC0;refine pB GI ?_;refine pP ?_;refine pB GI ?_;refine rC ?_;refine pB GI ?_;refine pO hC0 (fun hC0 hc1=> ?_) (fun hC0 hc1=> ?_)
 ·refine pB GI ?_;refine pK (rE (qW ?_));cases hC0;exact⟨[],by rfl,by rfl,by rfl⟩
 ·refine pP ?_;refine pB GI ?_;obtain⟨aA,hC1,hC0⟩:=vY hC0;refine BB (fun s=>s=(fun x=>⟨[(1,(.val (.int .u8) Z,none)),(10,(.val .bool x,none))],[],0,25,0⟩) aA) ?_ ?_
  ·refine pO hC1 (fun hC1 hc2=> ?_) (fun hC1 hc2=> ?_)
   ·refine qD ?_;cases hC1;exact uE ⟨⟨[1,10],[]⟩,by rfl⟩
   ·refine qU GI ?_;cases hC1;exact uE ⟨⟨[1,10],[]⟩,by rfl⟩
  ·rintro _ rfl;dsimp only at hC0⊢;refine pL ?_;refine pO hC0 (fun hC0 hc3=> ?_) (fun hC0 hc3=> ?_)
   ·refine pB GI ?_ (hp:=by exact⟨fun hh=>hh,(fun hh=>sR hh)⟩);refine pK (rE (qW ?_));cases hC0;exact⟨[],by rfl,by rfl,by rfl⟩
   ·refine qD (qY (pL ?_));refine pB GI ?_ (hp:=by exact⟨fun hh=>hh,(fun hh=>sR hh)⟩);refine pK ?_;cases hC0;exact⟨[],by rfl,by rfl,by rfl⟩
def K1 (O:((List Int)×Unit)) (Z:Int):Option Unit:=if (O.1.length+([Z]:List Int).length)*1≤140737488355328 then some (()) else none
section
variable (O:Int) (Z:((List Int)×Unit)) (aA:Nat)
abbrev a2Z:List pD:=[(.val .ref (some (0,0)),none),(.val (.int .u8) O,none)]
abbrev a23:List pC:=[.cells wT ((some (0,0)),Z) [(1,1)],.grow 5 1 aA]
@[go_sem] def a24:pJ:=⟨[aA=(Z.1.length),((K1 Z O)).isSome=true],[(.any,none)],[.cells wT ((some (0,0)),((Z.1++([O]:List Int)),())) [(1,1)],.grow 5 1 ((Z.1++([O]:List Int)).length)]⟩
def aDK:List pD→List pC→Option pJ:=qP (V:=(Int×((List Int)×Unit)×Nat)) (fun x=>a2Z x.1) (fun x=>a23 x.2.1 x.2.2) fun x=>a24 x.1 x.2.1 x.2.2
@[go_sem] theorem aSb:aDK (no_index (a2Z O)) (no_index (a23 Z aA))=some (a24 O Z aA):=qQ (fun⟨a0,a1,a2⟩ ⟨b0,b1,b2⟩ h1 h2=>by cases h1;cases h2;rfl) (O,Z,aA)
end
@[go_sem] abbrev aDL:Nat×qC:=(212,⟨[.p wT [1],.v],aDK,[],[],none⟩)
theorem PZ:qG Tryz.prog [EY,G9] (qE [US]):=⟨⟨HT,⟨JX,trivial⟩⟩,pM a0G qS,qI⟩
theorem aMu:qJ Tryz.prog aDL:=by
 refine qR PZ Tryz.func212 (c:=_) rfl (N:=17) (by kernel_rfl) (ts:=[(4,none)]) rfl (fun _ _=>rfl) ?_;intro⟨O,Z,aA⟩ hs hrow;dsimp only[a2Z,a23,a24,qM,pN,pW,qH,qO,Nat.reduceAdd] at hs hrow⊢;obtain⟨rfl,hz⟩:=hs;obtain⟨z0,hC0⟩:=aTF.1 hz
 try rw[r8 hC0]
 clear hz;unfold K1 at hC0;refine pB PZ ?_;refine pB PZ ?_ (hp:=by first|rfl|trivial)
 obtain⟨hg1,hC0⟩:=pI hC0;refine pB PZ ?_ (hp:=by exact⟨by first|rfl|trivial,hg1⟩)
 refine pB PZ ?_;refine pK ?_;cases hC0;exact⟨[(0,0),(1,1)],by rfl,by rfl,by rfl⟩
attribute [irreducible] K1
end
noncomputable section
def aDM (O:pV) (Z:(List UInt8)):Unit:=()
section
variable (O:pV) (Z:(List UInt8))
abbrev a25:List pD:=[(.val (.pair .str (.pair .str .unit)) O,none),(.val .ref (some (0,0)),none)]
abbrev a26:List pC:=[.cells .str Z []]
@[go_sem] def a27:pJ:=⟨[],[(.val .bool (!(Op.bytesLess O.1 Z||decide (O.1=Z))),none)],[.cells .str Z []]⟩
def aDN:List pD→List pC→Option pJ:=qP (V:=(pV×(List UInt8))) (fun x=>a25 x.1) (fun x=>a26 x.2) fun x=>a27 x.1 x.2
@[go_sem] theorem aSc:aDN (no_index (a25 O)) (no_index (a26 Z))=some (a27 O Z):=qQ (fun⟨a0,a1⟩ ⟨b0,b1⟩ h1 h2=>by cases h1;cases h2;rfl) (O,Z)
end
@[go_sem] abbrev aDO:Nat×qC:=(239,⟨[.v,.p .str []],aDN,[],[0],none⟩)
theorem a28:qG Tryz.prog [rP,C3] (qE []):=⟨⟨rQ,⟨DO,trivial⟩⟩,qS,qI⟩
theorem aMv:qJ Tryz.prog aDO:=by
 refine qR a28 Tryz.func239 (c:=_) rfl (N:=8) (by kernel_rfl) (ts:=[(3,none)]) rfl (fun _ _=>rfl) ?_;intro⟨O,Z⟩ hs hrow;dsimp only[a25,a26,a27,qM,pN,pW,qH,qO,Nat.reduceAdd] at hs hrow⊢;obtain⟨z0,hC0⟩: ∃z,(aDM O Z)=z:=⟨_,rfl⟩
 try rw[hC0]
 unfold aDM at hC0;refine pB a28 ?_;refine pB a28 ?_;refine pK ?_;cases hC0;exact⟨[(0,0)],by rfl,by rfl,by rfl⟩
def ML (O:(List UInt8)) (Z:Int):(Int×Int)→Option ((Int×Int)⊕(Int⊕(Int×Bool))):=fun(aA,aB)=>if (decide (aB<(O.length:Int)))=true then if 0≤aB∧aB<(O.length:Int) then if 0≤aB∧aB<(O.length:Int) then if (((decide ((65:Int)≤(pR O aB)))==true)=true→0≤aB∧aB<(O.length:Int)) then rH (σ:=Int) (if ((decide ((65:Int)≤(pR O aB)))&&(decide ((pR O aB)≤(70:Int))))=true then if 0≤aB∧aB<(O.length:Int) then if pE ((IntKind.wrap .i64 (IntKind.wrap .u8 ((pR O aB)- (65:Int))))+(10:Int)) then some (((IntKind.wrap .i64 (IntKind.wrap .u8 ((pR O aB)- (65:Int))))+(10:Int))) else none else none else some ((tK ([48,49,50,51,52,53,54,55,56,57,97,98,99,100,101,102]:List UInt8) (pR O aB))) ) fun aC=>if ((decide (aC<(0:Int)))||(decide (Z≤aC)))=true then some (.inr (.inr (((0:Int),false)))) else if pE (aA*Z) then if pE ((aA*Z)+aC) then if pE (aB+(1:Int)) then some (.inl (((aA*Z)+aC),(aB+(1:Int)))) else none else none else none else none else none else none else some (.inr (.inl aA))
def F4 (O:(List UInt8)) (Z:Int):Option (Int×Bool):=rW (qB (ML O Z) ((0:Int),(0:Int))) fun aA=>some ((aA,(!decide (O=([]:List UInt8)))))
section
variable (O:(List UInt8)) (Z:Int)
abbrev a29:List pD:=[(.val .str O,none),(.val (.int .i64) Z,none)]
abbrev a3a:List pC:=[]
@[go_sem] def a3b:pJ:=⟨[((F4 O Z)).isSome=true],[(.val (.int .i64) ((val (F4 O Z)).1),none),(.val .bool ((val (F4 O Z)).2),none)],[]⟩
def aDP:List pD→List pC→Option pJ:=qP (V:=((List UInt8)×Int)) (fun x=>a29 x.1 x.2) (fun x=>a3a) fun x=>a3b x.1 x.2
@[go_sem] theorem aSd:aDP (no_index (a29 O Z)) (no_index a3a)=some (a3b O Z):=qQ (fun⟨a0,a1⟩ ⟨b0,b1⟩ h1 h2=>by cases h1;cases h2;rfl) (O,Z)
end
@[go_sem] abbrev a3c:Nat×qC:=(251,⟨[.v,.v],aDP,[],[],none⟩)
theorem BH:qG Tryz.prog [uX,DP,rP] (qE [MA]):=⟨⟨vK,⟨GA,⟨rQ,trivial⟩⟩⟩,pM PO qS,qI⟩
theorem aDQ:qJ Tryz.prog a3c:=by
 refine qR BH Tryz.func251 (c:=_) rfl (N:=50) (by kernel_rfl) (ts:=[(4,none),(5,none)]) rfl (fun _ _=>rfl) ?_;intro⟨O,Z⟩ hs hrow;dsimp only[a29,a3a,a3b,qM,pN,pW,qH,qO,Nat.reduceAdd] at hs hrow⊢;have hz:=hs;obtain⟨z0,hC0⟩:=aTF.1 hz
 try rw[r8 hC0]
 clear hz hs;unfold F4 at hC0;refine pB BH ?_;refine pB BH ?_;refine pP ?_;refine pB BH ?_;refine rC ?_;obtain⟨y1,hy1,hC0⟩:=uI hC0;refine t7 0 (fun s=> ∃v,y1= .inl v∧s=(fun x=>⟨[(0,(.val .str O,none)),(6,(.val (.int .i64) x,none))],[],0,50,0⟩) v) ?_ ?_
 ·refine t6 hy1 (fun x=>⟨[(0,(.val .str O,none)),(1,(.val (.int .i64) Z,none)),(6,(.val (.int .i64) x.1,none)),(10,(.val (.int .i64) (O.length:Int),none)),(11,(.val (.int .i64) x.2,none))],[],0,50,0⟩) ⟨[0,1,6,10,11],[]⟩ (by rfl) ?_;intro x1 w1 n1 hC1 hN1;obtain⟨aA,aB⟩:=x1;unfold ML at hC1;dsimp only at hC1⊢;refine pB BH ?_;refine pP ?_;refine pO hC1 (fun hC1 hc1=> ?_) (fun hC1 hc1=> ?_)
  ·refine qD (pL (pP (rC ?_)));refine pB BH ?_;obtain⟨hg1,hC1⟩:=pI hC1;refine pB BH ?_ (hp:=by exact hg1);refine pP ?_;obtain⟨hg2,hC1⟩:=pI hC1;obtain⟨hg3,hC1⟩:=pI hC1;refine pB BH ?_ (hp:=by exact⟨hg2,fun hh=>hh,fun hh=>hh,hg3,fun hh=>hh,(fun hh=>rL hh)⟩);obtain⟨aC,hC2,hC1⟩:=pF hC1;refine BB (fun s=>s=(fun x=>⟨[(0,(.val .str O,none)),(1,(.val (.int .i64) Z,none)),(6,(.val (.int .i64) aA,none)),(8,(.val (.int .i64) x,none)),(10,(.val (.int .i64) (O.length:Int),none)),(11,(.val (.int .i64) aB,none))],[],0,50,0⟩) aC) ?_ ?_
   ·refine pO hC2 (fun hC2 hc2=> ?_) (fun hC2 hc2=> ?_)
    ·obtain⟨hg4,hC2⟩:=pI hC2;obtain⟨hg5,hC2⟩:=pI hC2;refine qU BH ?_ (hp:=by exact⟨hg4,hg5⟩);cases hC2;exact uE ⟨⟨[0,1,6,8,10,11],[]⟩,by rfl⟩
    ·refine qD ?_;cases hC2;exact uE ⟨⟨[0,1,6,8,10,11],[]⟩,by rfl⟩
   ·rintro _ rfl;dsimp only at hC1⊢;refine pL (pP ?_);refine pB BH ?_ (hp:=by exact⟨fun hh=>hh,fun hh=>hh,(fun hh=>sR hh)⟩);refine pO hC1 (fun hC1 hc3=> ?_) (fun hC1 hc3=> ?_)
    ·refine pB BH ?_;refine pK (qW (rE (qW (uL (uK (rE (qW ?_)))))));cases hC1;cases hN1;dsimp only at hC0;cases hC0;exact⟨[],by rfl,by rfl,by rfl⟩
    ·refine qD (pL ?_);obtain⟨hg6,hC1⟩:=pI hC1;obtain⟨hg7,hC1⟩:=pI hC1;refine qU BH ?_ (hp:=by exact⟨hg6,hg7⟩);refine qY (pL ?_);obtain⟨hg8,hC1⟩:=pI hC1;refine qU BH ?_ (hp:=by exact hg8);cases hC1;exact s7 ⟨⟨[0,1,6,10,11],[]⟩,_,by rfl,hN1⟩
  ·refine sO (sW (sQ ?_));cases hC1;cases hN1;exact sP ⟨⟨[0,6],[]⟩,_,rfl,by rfl⟩
 ·rintro _ ⟨aD,rfl,rfl⟩;dsimp only at hC0⊢;refine sZ (pL ?_);refine pB BH ?_;refine pK ?_;cases hC0;exact⟨[],by rfl,by rfl,by rfl⟩
attribute [irreducible] F4
def V8 (O:(List (List UInt8))) (Z:(List UInt8)):Int→Option (Int⊕(Unit⊕Bool)):=fun aA=>if (decide (aA<(O.length:Int)))=true then if 0≤aA∧aA<(O.length:Int) then if (decide ((pU .str O aA)=Z))=true then some (.inr (.inr (true))) else if pE (aA+(1:Int)) then some (.inl (aA+(1:Int))) else none else none else some (.inr (.inl ()))
def V9 (O:(List (List UInt8))) (Z:(List UInt8)):Option Bool:=rW (qB (V8 O Z) (0:Int)) fun _=>some (false)
attribute [irreducible] V9
def aDR (O:pV) (Z:(List UInt8)):Unit:=()
section
variable (O:pV) (Z:(List UInt8))
abbrev a3d:List pD:=[(.val (.pair .str (.pair .str .unit)) O,none),(.val .ref (some (0,0)),none)]
abbrev a3e:List pC:=[.cells .str Z []]
@[go_sem] def a3f:pJ:=⟨[],[(.val .bool (decide (O.1=Z)),none)],[.cells .str Z []]⟩
def aDS:List pD→List pC→Option pJ:=qP (V:=(pV×(List UInt8))) (fun x=>a3d x.1) (fun x=>a3e x.2) fun x=>a3f x.1 x.2
@[go_sem] theorem aSe:aDS (no_index (a3d O)) (no_index (a3e Z))=some (a3f O Z):=qQ (fun⟨a0,a1⟩ ⟨b0,b1⟩ h1 h2=>by cases h1;cases h2;rfl) (O,Z)
end
@[go_sem] abbrev aDT:Nat×qC:=(267,⟨[.v,.p .str []],aDS,[],[0],none⟩)
theorem a3g:qG Tryz.prog [rP,C3] (qE []):=⟨⟨rQ,⟨DO,trivial⟩⟩,qS,qI⟩
theorem aMw:qJ Tryz.prog aDT:=by
 refine qR a3g Tryz.func267 (c:=_) rfl (N:=8) (by kernel_rfl) (ts:=[(3,none)]) rfl (fun _ _=>rfl) ?_;intro⟨O,Z⟩ hs hrow;dsimp only[a3d,a3e,a3f,qM,pN,pW,qH,qO,Nat.reduceAdd] at hs hrow⊢;obtain⟨z0,hC0⟩: ∃z,(aDR O Z)=z:=⟨_,rfl⟩
 try rw[hC0]
 unfold aDR at hC0;refine pB a3g ?_;refine pB a3g ?_;refine pK ?_;cases hC0;exact⟨[(0,0)],by rfl,by rfl,by rfl⟩
def aDU (O:(List UInt8)):Unit:=()
section
variable (O:(List UInt8))
abbrev a3h:List pD:=[(.val .str O,none)]
abbrev a3i:List pC:=[]
@[go_sem] def a3j:pJ:=⟨[],[(.val .bool true,none)],[]⟩
def aDV:List pD→List pC→Option pJ:=qP (V:=(List UInt8)) (fun x=>a3h x) (fun x=>a3i) fun x=>a3j
@[go_sem] theorem aSf:aDV (no_index (a3h O)) (no_index a3i)=some a3j:=qQ (fun a0 b0 h1 h2=>by cases h1;cases h2;rfl) O
end
@[go_sem] abbrev aDW:Nat×qC:=(278,⟨[.v],aDV,[],[],none⟩)
theorem a3k:qG Tryz.prog [] (qE []):=⟨trivial,qS,qI⟩
theorem aMx:qJ Tryz.prog aDW:=by
 refine qR a3k Tryz.func278 (c:=_) rfl (N:=3) (by kernel_rfl) (ts:=[(2,none)]) rfl (fun _ _=>rfl) ?_;intro O hs hrow;dsimp only[a3h,a3i,a3j,qM,pN,pW,qH,qO,Nat.reduceAdd] at hs hrow⊢;obtain⟨z0,hC0⟩: ∃z,(aDU O)=z:=⟨_,rfl⟩
 try rw[hC0]
 unfold aDU at hC0;refine pB a3k ?_;refine pB a3k ?_;refine pK ?_;cases hC0;exact⟨[],by rfl,by rfl,by rfl⟩
def VA (O:Int) (Z:Int):Option Int:=rH (σ:=Int) (if ((decide ((48:Int)≤O))&&(decide (O≤(57:Int))))=true then some ((IntKind.wrap .i64 (IntKind.wrap .u8 (O- (48:Int))))) else if ((decide ((97:Int)≤O))&&(decide (O≤(102:Int))))=true then if pE ((IntKind.wrap .i64 (IntKind.wrap .u8 (O- (97:Int))))+(10:Int)) then some (((IntKind.wrap .i64 (IntKind.wrap .u8 (O- (97:Int))))+(10:Int))) else none else if ((decide ((65:Int)≤O))&&(decide (O≤(70:Int))))=true then if pE ((IntKind.wrap .i64 (IntKind.wrap .u8 (O- (65:Int))))+(10:Int)) then some (((IntKind.wrap .i64 (IntKind.wrap .u8 (O- (65:Int))))+(10:Int))) else none else some ((-1:Int)) ) fun aA=>if (decide (Z≤aA))=true then some ((-1:Int)) else some (aA)
attribute [irreducible] VA
def aDX (O:Int):Unit:=()
section
variable (O:Int)
abbrev a3l:List pD:=[(.val (.int .i64) O,none)]
abbrev a3m:List pC:=[]
@[go_sem] def a3n:pJ:=⟨[],[(.val .bool (((decide ((0:Int)≤O))&&(decide (O≤(1114111:Int))))&&((decide (O<(55296:Int)))||(decide ((57343:Int)<O)))),none)],[]⟩
def aDY:List pD→List pC→Option pJ:=qP (V:=Int) (fun x=>a3l x) (fun x=>a3m) fun x=>a3n x
@[go_sem] theorem aSg:aDY (no_index (a3l O)) (no_index a3m)=some (a3n O):=qQ (fun a0 b0 h1 h2=>by cases h1;cases h2;rfl) O
end
@[go_sem] abbrev aDZ:Nat×qC:=(289,⟨[.v],aDY,[],[],none⟩)
theorem a3o:qG Tryz.prog [] (qE []):=⟨trivial,qS,qI⟩
theorem aMy:qJ Tryz.prog aDZ:=by
 refine qR a3o Tryz.func289 (c:=_) rfl (N:=17) (by kernel_rfl) (ts:=[(2,none)]) rfl (fun _ _=>rfl) ?_;intro O hs hrow;dsimp only[a3l,a3m,a3n,qM,pN,pW,qH,qO,Nat.reduceAdd] at hs hrow⊢;obtain⟨z0,hC0⟩: ∃z,(aDX O)=z:=⟨_,rfl⟩
 try rw[hC0]
 unfold aDX at hC0;refine pB a3o ?_;refine pB a3o ?_ (hp:=by exact⟨fun hh=>hh,fun hh=>rL hh,fun hh=>hh,fun hh=>hh,fun hh=>hh,fun hh=>hh,fun hG hh=>EW hG hh,(fun hh=>rL hh)⟩);refine pK ?_;cases hC0;exact⟨[],by rfl,by rfl,by rfl⟩
def I2 (O:(List pV)):Option (List pV):=if (0+O.length)*32≤140737488355328 then some ((([]:List pV)++O)) else none
section
variable (O:(List pV))
abbrev a3p:List pD:=[(.val (.list (.pair .str (.pair .str .unit))) O,none)]
abbrev a3q:List pC:=[]
@[go_sem] def a3r:pJ:=⟨[((I2 O)).isSome=true],[(.own 0 ((val (I2 O)).length),none)],[.row 149 (.pair .str (.pair .str .unit)) (val (I2 O)) ((val (I2 O)).length)]⟩
def aD0:List pD→List pC→Option pJ:=qP (V:=(List pV)) (fun x=>a3p x) (fun x=>a3q) fun x=>a3r x
@[go_sem] theorem aSh:aD0 (no_index (a3p O)) (no_index a3q)=some (a3r O):=qQ (fun a0 b0 h1 h2=>by cases h1;cases h2;rfl) O
end
@[go_sem] abbrev aD1:Nat×qC:=(236,⟨[.v],aD0,[],[],none⟩)
theorem Q0:qG Tryz.prog [UN] (qE []):=⟨⟨aCn,trivial⟩,qS,qI⟩
theorem aMz:qJ Tryz.prog aD1:=by
 refine qR Q0 Tryz.func236 (c:=_) rfl (N:=8) (by kernel_rfl) (ts:=[(2,none)]) rfl (fun _ _=>rfl) ?_;intro O hs hrow;dsimp only[a3p,a3q,a3r,qM,pN,pW,qH,qO,Nat.reduceAdd] at hs hrow⊢;have hz:=hs;obtain⟨z0,hC0⟩:=aTF.1 hz
 try rw[r8 hC0]
 clear hz hs;unfold I2 at hC0;refine pB Q0 ?_;refine pP ?_;refine pB Q0 ?_;refine aK1 (by simp only[go_sem];rfl) (fun hnil=> ?_) (fun hnil=> ?_)
 ·subst hnil;obtain⟨_,hC0⟩:=pI hC0;refine pB Q0 ?_;refine pK (qW ?_);cases hC0;exact⟨[(0,96)],by rfl,by rfl,by rfl⟩
 ·refine qD (pL ?_);obtain⟨hg1,hC0⟩:=pI hC0;refine pB Q0 ?_ (hp:=by exact⟨by first|rfl|trivial,hg1⟩)
  refine pK ?_;cases hC0;exact⟨[(0,96)],by rfl,by rfl,by rfl⟩
attribute [irreducible] I2
end
noncomputable section
def K2 (O:(List Int)) (Z:Int):Option (List Int):=if (decide ((IntKind.wrap .u32 Z)≤(2047:Int)))=true then if (O.length+([(bits .or .u8 (192:Int) (IntKind.wrap .u8 (wZ .i32 Z (6:Int)))),(bits .or .u8 (128:Int) (bits .and .u8 (IntKind.wrap .u8 Z) (63:Int)))]:List Int).length)*1≤140737488355328 then some ((O++([(bits .or .u8 (192:Int) (IntKind.wrap .u8 (wZ .i32 Z (6:Int)))),(bits .or .u8 (128:Int) (bits .and .u8 (IntKind.wrap .u8 Z) (63:Int)))]:List Int))) else none else rH (σ:=Bool) (if (decide ((IntKind.wrap .u32 Z)<(55296:Int)))=true then some ((decide ((IntKind.wrap .u32 Z)<(55296:Int)))) else some (((decide ((57343:Int)<(IntKind.wrap .u32 Z)))&&(decide ((IntKind.wrap .u32 Z)≤(65535:Int))))) ) fun aA=>if aA=true then if (O.length+([(bits .or .u8 (224:Int) (IntKind.wrap .u8 (wZ .i32 Z (12:Int)))),(bits .or .u8 (128:Int) (bits .and .u8 (IntKind.wrap .u8 (wZ .i32 Z (6:Int))) (63:Int))),(bits .or .u8 (128:Int) (bits .and .u8 (IntKind.wrap .u8 Z) (63:Int)))]:List Int).length)*1≤140737488355328 then some ((O++([(bits .or .u8 (224:Int) (IntKind.wrap .u8 (wZ .i32 Z (12:Int)))),(bits .or .u8 (128:Int) (bits .and .u8 (IntKind.wrap .u8 (wZ .i32 Z (6:Int))) (63:Int))),(bits .or .u8 (128:Int) (bits .and .u8 (IntKind.wrap .u8 Z) (63:Int)))]:List Int))) else none else if ((decide ((65535:Int)<(IntKind.wrap .u32 Z)))&&(decide ((IntKind.wrap .u32 Z)≤(1114111:Int))))=true then if (O.length+([(bits .or .u8 (240:Int) (IntKind.wrap .u8 (wZ .i32 Z (18:Int)))),(bits .or .u8 (128:Int) (bits .and .u8 (IntKind.wrap .u8 (wZ .i32 Z (12:Int))) (63:Int))),(bits .or .u8 (128:Int) (bits .and .u8 (IntKind.wrap .u8 (wZ .i32 Z (6:Int))) (63:Int))),(bits .or .u8 (128:Int) (bits .and .u8 (IntKind.wrap .u8 Z) (63:Int)))]:List Int).length)*1≤140737488355328 then some ((O++([(bits .or .u8 (240:Int) (IntKind.wrap .u8 (wZ .i32 Z (18:Int)))),(bits .or .u8 (128:Int) (bits .and .u8 (IntKind.wrap .u8 (wZ .i32 Z (12:Int))) (63:Int))),(bits .or .u8 (128:Int) (bits .and .u8 (IntKind.wrap .u8 (wZ .i32 Z (6:Int))) (63:Int))),(bits .or .u8 (128:Int) (bits .and .u8 (IntKind.wrap .u8 Z) (63:Int)))]:List Int))) else none else if (O.length+([(239:Int),(191:Int),(189:Int)]:List Int).length)*1≤140737488355328 then some ((O++([(239:Int),(191:Int),(189:Int)]:List Int))) else none
section
variable (O:(List Int)) (Z:Int) (aA:Nat)
abbrev a3s:List pD:=[(.val (.list (.int .u8)) O,some 0),(.val (.int .i32) Z,none)]
abbrev a3t:List pC:=[.grow 5 1 aA]
@[go_sem] def a3u:pJ:=⟨[aA=(O.length),((K2 O Z)).isSome=true],[(.val (.list (.int .u8)) (val (K2 O Z)),some 0)],[.grow 5 1 ((val (K2 O Z)).length)]⟩
def aD2:List pD→List pC→Option pJ:=qP (V:=((List Int)×Int×Nat)) (fun x=>a3s x.1 x.2.1) (fun x=>a3t x.2.2) fun x=>a3u x.1 x.2.1 x.2.2
@[go_sem] theorem aSi:aD2 (no_index (a3s O Z)) (no_index (a3t aA))=some (a3u O Z aA):=qQ (fun⟨a0,a1,a2⟩ ⟨b0,b1,b2⟩ h1 h2=>by cases h1;cases h2;rfl) (O,Z,aA)
end
@[go_sem] abbrev aD3:Nat×qC:=(300,⟨[.own,.v],aD2,[],[],none⟩)
theorem DU:qG Tryz.prog [DP,M7,EY,UQ] (qE []):=⟨⟨GA,⟨UL,⟨HT,⟨aCq,trivial⟩⟩⟩⟩,qS,qI⟩
theorem aMA:qJ Tryz.prog aD3:=by
 refine qR DU Tryz.func300 (c:=_) rfl (N:=78) (by kernel_rfl) (ts:=[(4,none)]) rfl (fun _ _=>rfl) ?_;intro⟨O,Z,aA⟩ hs hrow;dsimp only[a3s,a3t,a3u,qM,pN,pW,qH,qO,Nat.reduceAdd] at hs hrow⊢;obtain⟨rfl,hz⟩:=hs;obtain⟨z0,hC0⟩:=aTF.1 hz
 try rw[r8 hC0]
 clear hz;unfold K2 at hC0;refine pB DU ?_;refine pB DU ?_;refine rC ?_;refine pB DU ?_;refine pO hC0 (fun hC0 hc1=> ?_) (fun hC0 hc1=> ?_)
 ·obtain⟨hg1,hC0⟩:=pI hC0;refine pB DU ?_ (hp:=by exact⟨show (0:Int)≤(6:Int) from by decide,by first|rfl|trivial,hg1⟩)
  refine pK (rE ?_);cases hC0;exact⟨[(0,0)],by rfl,by rfl,by rfl⟩
 ·refine pP ?_;refine pB DU ?_;obtain⟨aB,hC1,hC0⟩:=pF hC0;refine BB (fun s=>s=(fun x=>⟨[(0,(.val (.list (.int .u8)) O,some 0)),(1,(.val (.int .i32) Z,none)),(5,(.val (.int .u32) (IntKind.wrap .u32 Z),none)),(25,(.val .bool x,none))],[(0,.grow 5 1 (O.length))],1,78,1⟩) aB) ?_ ?_
  ·refine pO hC1 (fun hC1 hc2=> ?_) (fun hC1 hc2=> ?_)
   ·refine qD ?_;cases hC1;exact uE ⟨⟨[0,1,5,25],[(0,0)]⟩,by rfl⟩
   ·refine qU DU ?_ (hp:=by exact⟨fun hh=>hh,(fun hh=>rL hh)⟩);cases hC1;exact uE ⟨⟨[0,1,5,25],[(0,0)]⟩,by rfl⟩
  ·rintro _ rfl;dsimp only at hC0⊢;refine pL ?_;refine pO hC0 (fun hC0 hc3=> ?_) (fun hC0 hc3=> ?_)
   ·obtain⟨hg2,hC0⟩:=pI hC0;refine pB DU ?_ (hp:=by exact⟨show (0:Int)≤(12:Int) from by decide,show (0:Int)≤(6:Int) from by decide,by first|rfl|trivial,hg2⟩)
    refine pK (rE ?_);cases hC0;exact⟨[(0,0)],by rfl,by rfl,by rfl⟩
   ·refine pB DU ?_ (hp:=by exact⟨fun hh=>hh,(fun hh=>rL hh)⟩);refine pO hC0 (fun hC0 hc4=> ?_) (fun hC0 hc4=> ?_)
    ·obtain⟨hg3,hC0⟩:=pI hC0;refine pB DU ?_ (hp:=by exact⟨show (0:Int)≤(18:Int) from by decide,show (0:Int)≤(12:Int) from by decide,show (0:Int)≤(6:Int) from by decide,by first|rfl|trivial,hg3⟩)
     refine pK (rE ?_);cases hC0;exact⟨[(0,0)],by rfl,by rfl,by rfl⟩
    ·obtain⟨hg4,hC0⟩:=pI hC0;refine pB DU ?_ (hp:=by exact⟨by first|rfl|trivial,hg4⟩)
     refine pK (rE ?_);cases hC0;exact⟨[(0,0)],by rfl,by rfl,by rfl⟩
attribute [irreducible] K2
def Q1 (O:(List pV)) (Z:(List UInt8)):Int→Option (Int⊕(Unit⊕Int)):=fun aA=>if (decide (aA<(O.length:Int)))=true then if 0≤aA∧aA<(O.length:Int) then if (decide (((pU (.pair .str (.pair .str .unit)) O aA).1)=Z))=true then some (.inr (.inr (aA))) else if pE (aA+(1:Int)) then some (.inl (aA+(1:Int))) else none else none else some (.inr (.inl ()))
def MM (O:(List pV)) (Z:(List UInt8)):Option Int:=rW (qB (Q1 O Z) (0:Int)) fun _=>some ((-1:Int))
section
variable (O:(List pV)) (Z:(List UInt8))
abbrev a3v:List pD:=[(.val (.list (.pair .str (.pair .str .unit))) O,none),(.val .clo (some (267,[(0,0)])),none)]
abbrev a3w:List pC:=[.cells .str Z []]
@[go_sem] def a3x:pJ:=⟨[((MM O Z)).isSome=true],[(.val (.int .i64) (val (MM O Z)),none)],[.cells .str Z []]⟩
def aD4:List pD→List pC→Option pJ:=qP (V:=((List pV)×(List UInt8))) (fun x=>a3v x.1) (fun x=>a3w x.2) fun x=>a3x x.1 x.2
@[go_sem] theorem aSj:aD4 (no_index (a3v O)) (no_index (a3w Z))=some (a3x O Z):=qQ (fun⟨a0,a1⟩ ⟨b0,b1⟩ h1 h2=>by cases h1;cases h2;rfl) (O,Z)
end
@[go_sem] abbrev aD5:Nat×qC:=(238,⟨[.v,.f [(.str,[])]],aD4,[],[0],none⟩)
theorem GJ:qG Tryz.prog [w5,C3] (qE [aDT]):=⟨⟨wU,⟨DO,trivial⟩⟩,pM aMw qS,qI⟩
theorem aMB:qJ Tryz.prog aD5:=by
 refine qR GJ Tryz.func238 (c:=_) rfl (N:=19) (by kernel_rfl) (ts:=[(4,none)]) rfl (fun _ _=>rfl) ?_;intro⟨O,Z⟩ hs hrow;dsimp only[a3v,a3w,a3x,qM,pN,pW,qH,qO,Nat.reduceAdd] at hs hrow⊢;have hz:=hs;obtain⟨z0,hC0⟩:=aTF.1 hz
 try rw[r8 hC0]
 clear hz hs;unfold MM at hC0;refine pB GJ ?_;refine pP ?_;refine pB GJ ?_;refine rC ?_;obtain⟨y1,hy1,hC0⟩:=uI hC0;refine t7 0 (fun s=> ∃v,y1= .inl v∧s=(fun _=>⟨[],[(0,.cells .str Z [])],1,19,1⟩) v) ?_ ?_
 ·refine t6 hy1 (fun x=>⟨[(0,(.val (.list (.pair .str (.pair .str .unit))) O,none)),(1,(.val .clo (some (267,[(0,0)])),none)),(7,(.val (.int .i64) (O.length:Int),none)),(8,(.val (.int .i64) x,none))],[(0,.cells .str Z [])],1,19,1⟩) ⟨[0,1,7,8],[(0,0)]⟩ (by rfl) ?_;intro aA w1 n1 hC1 hN1;unfold Q1 at hC1;dsimp only at hC1⊢;refine pB GJ ?_;refine pP ?_;refine pO hC1 (fun hC1 hc1=> ?_) (fun hC1 hc1=> ?_)
  ·refine qD (pL (pP (rC ?_)));refine pB GJ ?_;obtain⟨hg1,hC1⟩:=pI hC1;refine pB GJ ?_ (hp:=by exact⟨hg1,(by first|rfl|trivial)⟩)
   refine pO hC1 (fun hC1 hc2=> ?_) (fun hC1 hc2=> ?_)
   ·refine pB GJ ?_;refine pK (rE (qW (uL (uK (rE (qW ?_))))));cases hC1;cases hN1;dsimp only at hC0;cases hC0;exact⟨[(0,0)],by rfl,by rfl,by rfl⟩
   ·refine qD (qY (pL ?_));obtain⟨hg2,hC1⟩:=pI hC1;refine qU GJ ?_ (hp:=by exact hg2);cases hC1;exact s7 ⟨⟨[0,1,7,8],[(0,0)]⟩,_,by rfl,hN1⟩
  ·refine sO (sW (sQ ?_));cases hC1;cases hN1;exact sP ⟨⟨[],[(0,0)]⟩,_,rfl,by rfl⟩
 ·rintro _ ⟨v,rfl,rfl⟩;dsimp only at hC0⊢;refine sZ (pL ?_);refine pB GJ ?_;refine pK ?_;cases hC0;exact⟨[(0,0)],by rfl,by rfl,by rfl⟩
attribute [irreducible] MM
def Q2 (O:(List pV)) (Z:(List UInt8)):Int→Option (Int⊕(Unit⊕Int)):=fun aA=>if (decide (aA<(O.length:Int)))=true then if 0≤aA∧aA<(O.length:Int) then if (!(Op.bytesLess ((pU (.pair .str (.pair .str .unit)) O aA).1) Z||decide (((pU (.pair .str (.pair .str .unit)) O aA).1)=Z)))=true then some (.inr (.inr (aA))) else if pE (aA+(1:Int)) then some (.inl (aA+(1:Int))) else none else none else some (.inr (.inl ()))
def MN (O:(List pV)) (Z:(List UInt8)):Option Int:=rW (qB (Q2 O Z) (0:Int)) fun _=>some ((-1:Int))
section
variable (O:(List pV)) (Z:(List UInt8))
abbrev a3y:List pD:=[(.val (.list (.pair .str (.pair .str .unit))) O,none),(.val .clo (some (239,[(0,0)])),none)]
abbrev a3z:List pC:=[.cells .str Z []]
@[go_sem] def a3A:pJ:=⟨[((MN O Z)).isSome=true],[(.val (.int .i64) (val (MN O Z)),none)],[.cells .str Z []]⟩
def aD6:List pD→List pC→Option pJ:=qP (V:=((List pV)×(List UInt8))) (fun x=>a3y x.1) (fun x=>a3z x.2) fun x=>a3A x.1 x.2
@[go_sem] theorem aSk:aD6 (no_index (a3y O)) (no_index (a3z Z))=some (a3A O Z):=qQ (fun⟨a0,a1⟩ ⟨b0,b1⟩ h1 h2=>by cases h1;cases h2;rfl) (O,Z)
end
@[go_sem] abbrev aD7:Nat×qC:=(238,⟨[.v,.f [(.str,[])]],aD6,[],[0],none⟩)
theorem GK:qG Tryz.prog [w5,C3] (qE [aDO]):=⟨⟨wU,⟨DO,trivial⟩⟩,pM aMv qS,qI⟩
theorem aMC:qJ Tryz.prog aD7:=by
 refine qR GK Tryz.func238 (c:=_) rfl (N:=19) (by kernel_rfl) (ts:=[(4,none)]) rfl (fun _ _=>rfl) ?_;intro⟨O,Z⟩ hs hrow;dsimp only[a3y,a3z,a3A,qM,pN,pW,qH,qO,Nat.reduceAdd] at hs hrow⊢;have hz:=hs;obtain⟨z0,hC0⟩:=aTF.1 hz
 try rw[r8 hC0]
 clear hz hs;unfold MN at hC0;refine pB GK ?_;refine pP ?_;refine pB GK ?_;refine rC ?_;obtain⟨y1,hy1,hC0⟩:=uI hC0;refine t7 0 (fun s=> ∃v,y1= .inl v∧s=(fun _=>⟨[],[(0,.cells .str Z [])],1,19,1⟩) v) ?_ ?_
 ·refine t6 hy1 (fun x=>⟨[(0,(.val (.list (.pair .str (.pair .str .unit))) O,none)),(1,(.val .clo (some (239,[(0,0)])),none)),(7,(.val (.int .i64) (O.length:Int),none)),(8,(.val (.int .i64) x,none))],[(0,.cells .str Z [])],1,19,1⟩) ⟨[0,1,7,8],[(0,0)]⟩ (by rfl) ?_;intro aA w1 n1 hC1 hN1;unfold Q2 at hC1;dsimp only at hC1⊢;refine pB GK ?_;refine pP ?_;refine pO hC1 (fun hC1 hc1=> ?_) (fun hC1 hc1=> ?_)
  ·refine qD (pL (pP (rC ?_)));refine pB GK ?_;obtain⟨hg1,hC1⟩:=pI hC1;refine pB GK ?_ (hp:=by exact⟨hg1,(by first|rfl|trivial)⟩)
   refine pO hC1 (fun hC1 hc2=> ?_) (fun hC1 hc2=> ?_)
   ·refine pB GK ?_;refine pK (rE (qW (uL (uK (rE (qW ?_))))));cases hC1;cases hN1;dsimp only at hC0;cases hC0;exact⟨[(0,0)],by rfl,by rfl,by rfl⟩
   ·refine qD (qY (pL ?_));obtain⟨hg2,hC1⟩:=pI hC1;refine qU GK ?_ (hp:=by exact hg2);cases hC1;exact s7 ⟨⟨[0,1,7,8],[(0,0)]⟩,_,by rfl,hN1⟩
  ·refine sO (sW (sQ ?_));cases hC1;cases hN1;exact sP ⟨⟨[],[(0,0)]⟩,_,rfl,by rfl⟩
 ·rintro _ ⟨v,rfl,rfl⟩;dsimp only at hC0⊢;refine sZ (pL ?_);refine pB GK ?_;refine pK ?_;cases hC0;exact⟨[(0,0)],by rfl,by rfl,by rfl⟩
attribute [irreducible] MN
def Q3 (O:(List UInt8)) (Z:Bool):Nat→Option (Nat⊕(Unit⊕Int)):=fun aA=>if (decide (aA<O.length))=true then if (decide (aA<O.length))=true then if (decide (aA<O.length))=true then if (((decide ((127:Int)<(u6 O aA)))||(((((!(((decide ((97:Int)≤(IntKind.wrap .u8 (u6 O aA))))&&(decide ((IntKind.wrap .u8 (u6 O aA))≤(122:Int))))||((decide ((65:Int)≤(IntKind.wrap .u8 (u6 O aA))))&&(decide ((IntKind.wrap .u8 (u6 O aA))≤(90:Int))))))&&((decide ((u6 O aA)<(48:Int)))||(decide ((57:Int)<(u6 O aA)))))&&(!decide ((u6 O aA)=(45:Int))))&&(!decide ((u6 O aA)=(95:Int))))&&(!decide ((u6 O aA)=(46:Int)))))==Z)=true then some (.inr (.inr (((aA:Nat):Int)))) else some (.inl (zI O aA)) else none else none else some (.inr (.inl ()))
def MO (O:(List UInt8)) (Z:Bool):Option Int:=rW (qB (Q3 O Z) 0) fun _=>some ((-1:Int))
section
variable (O:(List UInt8)) (Z:Bool)
abbrev a3B:List pD:=[(.val .str O,none),(.val .clo (some (122,[])),none),(.val .bool Z,none)]
abbrev a3C:List pC:=[]
@[go_sem] def a3D:pJ:=⟨[((MO O Z)).isSome=true],[(.val (.int .i64) (val (MO O Z)),none)],[]⟩
def aD8:List pD→List pC→Option pJ:=qP (V:=((List UInt8)×Bool)) (fun x=>a3B x.1 x.2) (fun x=>a3C) fun x=>a3D x.1 x.2
@[go_sem] theorem aSl:aD8 (no_index (a3B O Z)) (no_index a3C)=some (a3D O Z):=qQ (fun⟨a0,a1⟩ ⟨b0,b1⟩ h1 h2=>by cases h1;cases h2;rfl) (O,Z)
end
@[go_sem] abbrev aD9:Nat×qC:=(175,⟨[.v,.v,.v],aD8,[],[],none⟩)
theorem I3:qG Tryz.prog [EZ,rP] (qE [aCY]):=⟨⟨HU,⟨rQ,trivial⟩⟩,pM aMi qS,qI⟩
theorem aMD:qJ Tryz.prog aD9:=by
 refine qR I3 Tryz.func175 (c:=_) rfl (N:=21) (by kernel_rfl) (ts:=[(6,none)]) rfl (fun _ _=>rfl) ?_;intro⟨O,Z⟩ hs hrow;dsimp only[a3B,a3C,a3D,qM,pN,pW,qH,qO,Nat.reduceAdd] at hs hrow⊢;have hz:=hs;obtain⟨z0,hC0⟩:=aTF.1 hz
 try rw[r8 hC0]
 clear hz hs;unfold MO at hC0;refine pB I3 ?_;refine pP ?_;refine pB I3 ?_;refine rC ?_;obtain⟨y1,hy1,hC0⟩:=uI hC0;refine t7 0 (fun s=> ∃v,y1= .inl v∧s=(fun _=>⟨[],[],0,21,0⟩) v) ?_ ?_
 ·refine t6 hy1 (fun x=>⟨[(1,(.val .clo (some (122,[])),none)),(2,(.val .bool Z,none)),(10,(.val .ref (some (0,0)),none))],[(0,.iter O x)],1,21,0⟩) ⟨[1,2,10],[(0,64)]⟩ (by rfl) ?_;intro aA w1 n1 hC1 hN1;unfold Q3 at hC1;dsimp only at hC1⊢;refine pB I3 ?_;refine pP ?_;refine pO hC1 (fun hC1 hc1=> ?_) (fun hC1 hc1=> ?_)
  ·refine qD (pL (rC ?_));obtain⟨hg1,hC1⟩:=pI hC1;obtain⟨hg2,hC1⟩:=pI hC1;refine pB I3 ?_ (hp:=by exact⟨hg1,hg2⟩);refine pB I3 ?_;refine pO hC1 (fun hC1 hc2=> ?_) (fun hC1 hc2=> ?_)
   ·refine pB I3 ?_;refine pK (rE (uL (uK (rE (qW ?_)))));cases hC1;cases hN1;dsimp only at hC0;cases hC0;exact⟨[],by rfl,by rfl,by rfl⟩
   ·refine qD (qY ?_);cases hC1;exact s7 ⟨⟨[1,2,10],[(0,0)]⟩,_,by rfl,hN1⟩
  ·refine sO (sW (sQ ?_));cases hC1;cases hN1;exact sP ⟨⟨[],[]⟩,_,rfl,by rfl⟩
 ·rintro _ ⟨v,rfl,rfl⟩;dsimp only at hC0⊢;refine sZ (pL ?_);refine pB I3 ?_;refine pK ?_;cases hC0;exact⟨[],by rfl,by rfl,by rfl⟩
attribute [irreducible] MO
end
noncomputable section
def K3 (O:(List UInt8)):Option Int:=(MO O true).bind fun Z=>some (Z)
section
variable (O:(List UInt8))
abbrev a3E:List pD:=[(.val .str O,none),(.val .clo (some (122,[])),none)]
abbrev a3F:List pC:=[]
@[go_sem] def a3G:pJ:=⟨[((K3 O)).isSome=true],[(.val (.int .i64) (val (K3 O)),none)],[]⟩
def aEa:List pD→List pC→Option pJ:=qP (V:=(List UInt8)) (fun x=>a3E x) (fun x=>a3F) fun x=>a3G x
@[go_sem] theorem aSm:aEa (no_index (a3E O)) (no_index a3F)=some (a3G O):=qQ (fun a0 b0 h1 h2=>by cases h1;cases h2;rfl) O
end
@[go_sem] abbrev aEb:Nat×qC:=(121,⟨[.v,.v],aEa,[],[],none⟩)
theorem a3H:qG Tryz.prog [] (qE [aD9]):=⟨trivial,pM aMD qS,qI⟩
theorem aME:qJ Tryz.prog aEb:=by
 refine qR a3H Tryz.func121 (c:=_) rfl (N:=8) (by kernel_rfl) (ts:=[(4,none)]) rfl (fun _ _=>rfl) ?_;intro O hs hrow;dsimp only[a3E,a3F,a3G,qM,pN,pW,qH,qO,Nat.reduceAdd] at hs hrow⊢;have hz:=hs;obtain⟨z0,hC0⟩:=aTF.1 hz
 try rw[r8 hC0]
 clear hz hs;unfold K3 at hC0;refine pB a3H ?_;obtain⟨Z,hv1,hw1,hC0⟩:=pZ hC0
 try simp only[go_sem] at hw1
 refine pB a3H ?_ (hp:=by exact(pY hv1)) (h:=by simp only[go_sem,hw1];rfl);refine pK ?_;cases hC0;exact⟨[],by rfl,by rfl,by rfl⟩
attribute [irreducible] K3
def VB:(Int×List UInt8)→(List Int)→Option ((List Int)⊕(List UInt8)):=fun O Z=>(CV (Z,()) O.2).bind fun aA=>some (.inl (Z++sJ O.2))
def K4 (O:HS):Option (List UInt8):=if List.length O.2.1≤4611686018427387904 then rW (DL (VB) (C2 O) ([]:List Int)) fun Z=>some ((s5 Z)) else none
section
variable (O:HS)
abbrev a3I:List pD:=[(.val G6 O,none)]
abbrev a3J:List pC:=[]
@[go_sem] def a3K:pJ:=⟨[((K4 O)).isSome=true],[(.val .str (val (K4 O)),none)],[]⟩
def aEc:List pD→List pC→Option pJ:=qP (V:=HS) (fun x=>a3I x) (fun x=>a3J) fun x=>a3K x
@[go_sem] theorem aSn:aEc (no_index (a3I O)) (no_index a3J)=some (a3K O):=qQ (fun a0 b0 h1 h2=>by cases h1;cases h2;rfl) O
end
@[go_sem] abbrev aEd:Nat×qC:=(25,⟨[.v],aEc,[],[],none⟩)
theorem K5:qG Tryz.prog [M5,G9] (qE [aCF,UU,PP]):=⟨⟨UK,⟨JX,trivial⟩⟩,pM aMg (pM a0T (pM UT qS)),qI⟩
theorem aMF:qJ Tryz.prog aEd:=by
 refine qR K5 Tryz.func25 (c:=_) rfl (N:=13) (by kernel_rfl) (ts:=[(2,none)]) rfl (fun _ _=>rfl) ?_;intro O hs hrow;dsimp only[a3I,a3J,a3K,qM,pN,pW,qH,qO,Nat.reduceAdd] at hs hrow⊢;have hz:=hs;obtain⟨z0,hC0⟩:=aTF.1 hz
 try rw[r8 hC0]
 clear hz hs;unfold K4 at hC0;refine pB K5 ?_;refine pB K5 ?_;refine pP ?_;refine pB K5 ?_;refine rC ?_;obtain⟨hgF2,hC0⟩:=pI hC0;obtain⟨y1,hy1,hC0⟩:=uI hC0;refine aLM aLU aLP (by rfl) (by rfl) hgF2 hy1 [(3,(.val .ref (some (0,0)),none))] (fun Z=>[(3,(.val .ref (some (0,0)),none)),(5,(.val .str Z.2,none))]) (fun x=>[.cells wT ((some (0,0)),(x,())) [(1,1)],.grow 5 1 (x.length)]) 1 ⟨[3],[(0,64),(1,65)]⟩ (by rfl) (by rfl) (by rfl) (by rfl) (aVs (by rfl)) (fun _=>aVs rfl) (fun _=>by rfl) (fun _=>rfl) (by rfl) ?_ ?_
 ·intro Z aA w1 hC1 hN1;refine⟨?_,?_⟩
  ·dsimp only[PJ,aCf,sU,pN,pW,Nat.reduceAdd,List.toList_toArray];refine qU K5 ?_;exact aLN ⟨[3,5],[(0,0),(1,1)]⟩ (by rfl)
  ·unfold VB at hC1;dsimp only[pN,pW,Nat.reduceAdd] at hC1⊢;refine rC ?_;obtain⟨aB,hv1,hw1,hC1⟩:=pZ hC1
   try simp only[go_sem] at hw1
   refine qU K5 ?_ (hp:=by exact⟨by first|rfl|trivial,(pY hv1)⟩) (h:=by simp only[go_sem,hw1];rfl)
   refine qY ?_;cases hC1;exact aLO ⟨[],[(0,0),(1,1)]⟩ _ rfl (by rfl)
 ·rintro aA rfl;dsimp only[pN,pW,Nat.reduceAdd] at hC0⊢;refine qY (pL ?_);refine pB K5 ?_ (hp:=by first|rfl|trivial)
  refine pK ?_;cases hC0;exact⟨[],by rfl,by rfl,by rfl⟩
attribute [irreducible] K4
def MP (O:rD):Option Unit:=if pE ((O.1.length:Int)+(O.2.1.length:Int)) then if pE (((O.1.length:Int)+(O.2.1.length:Int))+(O.2.2.1.length:Int)) then if (((decide ((((O.1.length:Int)+(O.2.1.length:Int))+(O.2.2.1.length:Int))≤(6000:Int)))==true)=true→((yE O.2.2.2.1 O.2.2.2.2.2.2.1)).isSome=true) then if (((decide ((((O.1.length:Int)+(O.2.1.length:Int))+(O.2.2.1.length:Int))≤(6000:Int)))==true)=true→((yE O.2.2.2.2.1 ([]:List pV))).isSome=true) then if (((decide ((((O.1.length:Int)+(O.2.1.length:Int))+(O.2.2.1.length:Int))≤(6000:Int)))==true)=true→pE ((val (yE O.2.2.2.1 O.2.2.2.2.2.2.1))+(val (yE O.2.2.2.2.1 ([]:List pV))))) then some (()) else none else none else none else none else none
section
variable (O:rD)
abbrev a3L:List pD:=[(.val rN O,none)]
abbrev a3M:List pC:=[]
@[go_sem] def a3N:pJ:=⟨[((MP O)).isSome=true],[(.val .bool ((decide ((((O.1.length:Int)+(O.2.1.length:Int))+(O.2.2.1.length:Int))≤(6000:Int)))&&(decide (((val (yE O.2.2.2.1 O.2.2.2.2.2.2.1))+(val (yE O.2.2.2.2.1 ([]:List pV))))≤(6000:Int)))),none)],[]⟩
def aEe:List pD→List pC→Option pJ:=qP (V:=rD) (fun x=>a3L x) (fun x=>a3M) fun x=>a3N x
@[go_sem] theorem aSo:aEe (no_index (a3L O)) (no_index a3M)=some (a3N O):=qQ (fun a0 b0 h1 h2=>by cases h1;cases h2;rfl) O
end
@[go_sem] abbrev aEf:Nat×qC:=(35,⟨[.v],aEe,[],[],none⟩)
theorem a3O:qG Tryz.prog [rP,uW,w5,yZ] (qE [a0X]):=⟨⟨rQ,⟨vJ,⟨wU,⟨AL,trivial⟩⟩⟩⟩,pM aCI qS,qI⟩
theorem aMG:qJ Tryz.prog aEf:=by
 refine qR a3O Tryz.func35 (c:=_) rfl (N:=27) (by kernel_rfl) (ts:=[(2,none)]) rfl (fun _ _=>rfl) ?_;intro O hs hrow;dsimp only[a3L,a3M,a3N,qM,pN,pW,qH,qO,Nat.reduceAdd] at hs hrow⊢;have hz:=hs;obtain⟨z0,hC0⟩:=aTF.1 hz
 try rw[r8 hC0]
 clear hz hs;unfold MP at hC0;refine pB a3O ?_;obtain⟨hg1,hC0⟩:=pI hC0;obtain⟨hg2,hC0⟩:=pI hC0;obtain⟨hg3,hC0⟩:=pI hC0;obtain⟨hg4,hC0⟩:=pI hC0;obtain⟨hg5,hC0⟩:=pI hC0;refine xD a3O ?_ (hp:=by exact⟨hg1,hg2,fun hh=>hh,fun hh=>hh,fun hh=>hh,fun hh=>hh,hg3,fun hh=>hh,fun hh=>hh,hg4,fun hh=>hh,fun hh=>hh,hg5,fun hh=>hh,(fun hh=>rL hh)⟩);refine pK ?_;cases hC0;exact⟨[],by rfl,by rfl,by rfl⟩
attribute [irreducible] MP
def MQ (O:qZ) (Z:qZ):Option Unit:=if (((decide (O.1=Z.1))==true)=true→((vL O.2.1 Z.2.1)).isSome=true) then if ((((decide (O.1=Z.1))&&(val (vL O.2.1 Z.2.1)))==true)=true→((yF O.2.2.1 Z.2.2.1)).isSome=true) then some (()) else none else none
section
variable (O:qZ) (Z:qZ)
abbrev a3P:List pD:=[(.val wH O,none),(.val wH Z,none)]
abbrev a3Q:List pC:=[]
@[go_sem] def a3R:pJ:=⟨[((MQ O Z)).isSome=true],[(.val .bool (((decide (O.1=Z.1))&&(val (vL O.2.1 Z.2.1)))&&(val (yF O.2.2.1 Z.2.2.1))),none)],[]⟩
def aEg:List pD→List pC→Option pJ:=qP (V:=(qZ×qZ)) (fun x=>a3P x.1 x.2) (fun x=>a3Q) fun x=>a3R x.1 x.2
@[go_sem] theorem aSp:aEg (no_index (a3P O Z)) (no_index a3Q)=some (a3R O Z):=qQ (fun⟨a0,a1⟩ ⟨b0,b1⟩ h1 h2=>by cases h1;cases h2;rfl) (O,Z)
end
@[go_sem] abbrev aEh:Nat×qC:=(46,⟨[.v,.v],aEg,[],[],none⟩)
theorem a3S:qG Tryz.prog [rP,uW,w5,zR] (qE [a01,a05]):=⟨⟨rQ,⟨vJ,⟨wU,⟨BD,trivial⟩⟩⟩⟩,pM aCK (pM aCM qS),qI⟩
theorem aMH:qJ Tryz.prog aEh:=by
 refine qR a3S Tryz.func46 (c:=_) rfl (N:=24) (by kernel_rfl) (ts:=[(4,none)]) rfl (fun _ _=>rfl) ?_;intro⟨O,Z⟩ hs hrow;dsimp only[a3P,a3Q,a3R,qM,pN,pW,qH,qO,Nat.reduceAdd] at hs hrow⊢;have hz:=hs;obtain⟨z0,hC0⟩:=aTF.1 hz
 try rw[r8 hC0]
 clear hz hs;unfold MQ at hC0;refine pB a3S ?_;obtain⟨hg1,hC0⟩:=pI hC0;obtain⟨hg2,hC0⟩:=pI hC0;refine pB a3S ?_ (hp:=by exact⟨fun hh=>hh,fun hh=>hh,fun hh=>hh,fun hh=>hh,hg1,fun hh=>rL hh,fun hh=>hh,fun hh=>hh,fun hh=>hh,fun hh=>hh,hg2,(fun hh=>rL hh)⟩);refine pK ?_;cases hC0;exact⟨[],by rfl,by rfl,by rfl⟩
attribute [irreducible] MQ
def VC (O:(List rD)) (Z:(List rD)):Int→Option (Int⊕(Unit⊕Bool)):=fun aA=>if (decide (aA<(O.length:Int)))=true then if 0≤aA∧aA<(O.length:Int) then if 0≤aA∧aA<(Z.length:Int) then (MB (pU rN O aA) (pU rN Z aA)).bind fun aB=>if (!(((((((decide (((pU rN O aA).1)=((pU rN Z aA).1)))&&(decide (((pU rN O aA).2.1)=((pU rN Z aA).2.1))))&&(decide (((pU rN O aA).2.2.1)=((pU rN Z aA).2.2.1))))&&(decide (((pU rN O aA).2.2.2.2.2.1)=((pU rN Z aA).2.2.2.2.2.1))))&&(val (vL ((pU rN O aA).2.2.2.1) ((pU rN Z aA).2.2.2.1))))&&(val (vL ((pU rN O aA).2.2.2.2.1) ((pU rN Z aA).2.2.2.2.1))))&&(val (yF ((pU rN O aA).2.2.2.2.2.2.1) ((pU rN Z aA).2.2.2.2.2.2.1)))))=true then some (.inr (.inr (false))) else if pE (aA+(1:Int)) then some (.inl (aA+(1:Int))) else none else none else none else some (.inr (.inl ()))
def C7 (O:(List rD)) (Z:(List rD)):Option Bool:=if (!decide ((O.length:Int)=(Z.length:Int)))=true then some (false) else rW (qB (VC O Z) (0:Int)) fun _=>some (true)
section
variable (O:(List rD)) (Z:(List rD))
abbrev a3T:List pD:=[(.val (.list rN) O,none),(.val (.list rN) Z,none)]
abbrev a3U:List pC:=[]
@[go_sem] def a3V:pJ:=⟨[((C7 O Z)).isSome=true],[(.val .bool (val (C7 O Z)),none)],[]⟩
def aEi:List pD→List pC→Option pJ:=qP (V:=((List rD)×(List rD))) (fun x=>a3T x.1 x.2) (fun x=>a3U) fun x=>a3V x.1 x.2
@[go_sem] theorem aSq:aEi (no_index (a3T O Z)) (no_index a3U)=some (a3V O Z):=qQ (fun⟨a0,a1⟩ ⟨b0,b1⟩ h1 h2=>by cases h1;cases h2;rfl) (O,Z)
end
@[go_sem] abbrev aEj:Nat×qC:=(47,⟨[.v,.v],aEi,[],[],none⟩)
theorem F5:qG Tryz.prog [DN,yZ] (qE [aCO]):=⟨⟨G8,⟨AL,trivial⟩⟩,pM aMh qS,qI⟩
theorem aMI:qJ Tryz.prog aEj:=by
 refine qR F5 Tryz.func47 (c:=_) rfl (N:=27) (by kernel_rfl) (ts:=[(4,none)]) rfl (fun _ _=>rfl) ?_;intro⟨O,Z⟩ hs hrow;dsimp only[a3T,a3U,a3V,qM,pN,pW,qH,qO,Nat.reduceAdd] at hs hrow⊢;have hz:=hs;obtain⟨z0,hC0⟩:=aTF.1 hz
 try rw[r8 hC0]
 clear hz hs;unfold C7 at hC0;refine pB F5 ?_;refine pP ?_;refine pB F5 ?_;refine pO hC0 (fun hC0 hc1=> ?_) (fun hC0 hc1=> ?_)
 ·refine pB F5 ?_;refine pK (qW ?_);cases hC0;exact⟨[],by rfl,by rfl,by rfl⟩
 ·refine qD (pL (pP ?_));refine pB F5 ?_;refine rC ?_;obtain⟨y1,hy1,hC0⟩:=uI hC0;refine t7 0 (fun s=> ∃v,y1= .inl v∧s=(fun _=>⟨[],[],0,27,0⟩) v) ?_ ?_
  ·refine t6 hy1 (fun x=>⟨[(0,(.val (.list rN) O,none)),(1,(.val (.list rN) Z,none)),(5,(.val (.int .i64) x,none))],[],0,27,0⟩) ⟨[0,1,5],[]⟩ (by rfl) ?_;intro aA w1 n1 hC1 hN1;unfold VC at hC1;dsimp only at hC1⊢;refine pP ?_;refine pB F5 ?_;refine pO hC1 (fun hC1 hc2=> ?_) (fun hC1 hc2=> ?_)
   ·refine qD (pL (pP (rC ?_)));obtain⟨hg1,hC1⟩:=pI hC1;obtain⟨hg2,hC1⟩:=pI hC1;obtain⟨aB,hv3,hw3,hC1⟩:=pZ hC1
    try simp only[go_sem] at hw3
    refine xD F5 ?_ (hp:=by exact⟨hg1,hg2,(pY hv3)⟩) (h:=by simp only[go_sem,hw3];rfl);refine pO hC1 (fun hC1 hc3=> ?_) (fun hC1 hc3=> ?_)
    ·refine pB F5 ?_;refine pK (rE (qW (uL (uK (rE (qW ?_))))));cases hC1;cases hN1;dsimp only at hC0;cases hC0;exact⟨[],by rfl,by rfl,by rfl⟩
    ·refine qD (qY (pL ?_));obtain⟨hg4,hC1⟩:=pI hC1;refine qU F5 ?_ (hp:=by exact hg4);cases hC1;exact s7 ⟨⟨[0,1,5],[]⟩,_,by rfl,hN1⟩
   ·refine sO (sW (sQ ?_));cases hC1;cases hN1;exact sP ⟨⟨[],[]⟩,_,rfl,by rfl⟩
  ·rintro _ ⟨v,rfl,rfl⟩;dsimp only at hC0⊢;refine sZ (pL ?_);refine pB F5 ?_;refine pK ?_;cases hC0;exact⟨[],by rfl,by rfl,by rfl⟩
attribute [irreducible] C7
end
noncomputable section
def Q4 (O:(List UInt8)):Int→Option (Int⊕Int):=fun Z=>if (((decide (Z<(O.length:Int)))==true)=true→0≤Z∧Z<(O.length:Int)) then if ((decide (Z<(O.length:Int)))&&(!decide ((pR O Z)=(10:Int))))=true then if pE (Z+(1:Int)) then some (.inl (Z+(1:Int))) else none else some (.inr Z) else none
def Q5 (O:(List UInt8)):Int→Option (Int⊕Int):=fun Z=>if (((decide (Z<(O.length:Int)))==true)=true→((MC O Z ([42,47]:List UInt8))).isSome=true) then if ((decide (Z<(O.length:Int)))&&(!((decide ((([42,47]:List UInt8).length:Int)≤((O.length:Int)-Z)))&&(decide ((pT O Z (Z+(([42,47]:List UInt8).length:Int)))=([42,47]:List UInt8))))))=true then if pE (Z+(1:Int)) then some (.inl (Z+(1:Int))) else none else some (.inr Z) else none
def K6 (O:(List UInt8)):Int→Option (Int⊕(Int⊕Int)):=fun Z=>if (decide (Z<(O.length:Int)))=true then if 0≤Z∧Z<(O.length:Int) then if (((decide ((pR O Z)=(32:Int)))==false)=true→0≤Z∧Z<(O.length:Int)) then if ((((decide ((pR O Z)=(32:Int)))||(decide ((pR O Z)=(9:Int))))==false)=true→0≤Z∧Z<(O.length:Int)) then if (((((decide ((pR O Z)=(32:Int)))||(decide ((pR O Z)=(9:Int))))||(decide ((pR O Z)=(10:Int))))==false)=true→0≤Z∧Z<(O.length:Int)) then if ((((decide ((pR O Z)=(32:Int)))||(decide ((pR O Z)=(9:Int))))||(decide ((pR O Z)=(10:Int))))||(decide ((pR O Z)=(13:Int))))=true then if pE (Z+(1:Int)) then some (.inl (Z+(1:Int))) else none else (MC O Z ([47,47]:List UInt8)).bind fun aA=>if ((decide ((([47,47]:List UInt8).length:Int)≤((O.length:Int)-Z)))&&(decide ((pT O Z (Z+(([47,47]:List UInt8).length:Int)))=([47,47]:List UInt8))))=true then rH (qB (Q4 O) Z) fun aB=>some (.inl aB) else (MC O Z ([47,42]:List UInt8)).bind fun aC=>if ((decide ((([47,42]:List UInt8).length:Int)≤((O.length:Int)-Z)))&&(decide ((pT O Z (Z+(([47,42]:List UInt8).length:Int)))=([47,42]:List UInt8))))=true then if pE (Z+(2:Int)) then rH (qB (Q5 O) (Z+(2:Int))) fun aD=>if (decide ((O.length:Int)≤aD))=true then some (.inr (.inr (Z))) else if pE (aD+(2:Int)) then some (.inl (aD+(2:Int))) else none else none else some (.inr (.inr (Z))) else none else none else none else none else some (.inr (.inl Z))
def MR (O:(List UInt8)) (Z:Int):Option Int:=rW (qB (K6 O) Z) fun aA=>some (aA)
attribute [irreducible] MR
end
noncomputable section
def Q6 (O:(List UInt8)):Int→Option (Int⊕(Unit⊕Bool)):=fun Z=>if (decide (Z<(O.length:Int)))=true then if 0≤Z∧Z<(O.length:Int) then if ((((!((decide ((97:Int)≤(pR O Z)))&&(decide ((pR O Z)≤(122:Int)))))&&(!((decide ((48:Int)≤(pR O Z)))&&(decide ((pR O Z)≤(57:Int))))))&&(!decide ((pR O Z)=(45:Int))))&&((decide ((pR O Z)<(65:Int)))||(decide ((90:Int)<(pR O Z)))))=true then some (.inr (.inr (false))) else if pE (Z+(1:Int)) then some (.inl (Z+(1:Int))) else none else none else some (.inr (.inl ()))
def DW (O:(List UInt8)):Option Bool:=rW (qB (Q6 O) (0:Int)) fun _=>some (((decide ((1:Int)≤(O.length:Int)))&&(decide ((O.length:Int)≤(40:Int)))))
section
variable (O:(List UInt8))
abbrev a3W:List pD:=[(.val .str O,none)]
abbrev a3X:List pC:=[]
@[go_sem] def a3Y:pJ:=⟨[((DW O)).isSome=true],[(.val .bool (val (DW O)),none)],[]⟩
def aEk:List pD→List pC→Option pJ:=qP (V:=(List UInt8)) (fun x=>a3W x) (fun x=>a3X) fun x=>a3Y x
@[go_sem] theorem aSr:aEk (no_index (a3W O)) (no_index a3X)=some (a3Y O):=qQ (fun a0 b0 h1 h2=>by cases h1;cases h2;rfl) O
end
@[go_sem] abbrev aEl:Nat×qC:=(114,⟨[.v],aEk,[],[],none⟩)
theorem GL:qG Tryz.prog [rP] (qE [a1U,a1Z]):=⟨⟨rQ,trivial⟩,pM aDe (pM aDh qS),qI⟩
theorem aMJ:qJ Tryz.prog aEl:=by
 refine qR GL Tryz.func114 (c:=_) rfl (N:=42) (by kernel_rfl) (ts:=[(2,none)]) rfl (fun _ _=>rfl) ?_;intro O hs hrow;dsimp only[a3W,a3X,a3Y,qM,pN,pW,qH,qO,Nat.reduceAdd] at hs hrow⊢;have hz:=hs;obtain⟨z0,hC0⟩:=aTF.1 hz
 try rw[r8 hC0]
 clear hz hs;unfold DW at hC0;refine pB GL ?_;refine pP ?_;refine pB GL ?_;refine rC ?_;obtain⟨y1,hy1,hC0⟩:=uI hC0;refine t7 0 (fun s=> ∃v,y1= .inl v∧s=(fun _=>⟨[(0,(.val .str O,none))],[],0,42,0⟩) v) ?_ ?_
 ·refine t6 hy1 (fun x=>⟨[(0,(.val .str O,none)),(3,(.val (.int .i64) x,none))],[],0,42,0⟩) ⟨[0,3],[]⟩ (by rfl) ?_;intro Z w1 n1 hC1 hN1;unfold Q6 at hC1;dsimp only at hC1⊢;refine pP ?_;refine pB GL ?_;refine pO hC1 (fun hC1 hc1=> ?_) (fun hC1 hc1=> ?_)
  ·refine qD (pL (pP (rC ?_)));obtain⟨hg1,hC1⟩:=pI hC1;refine pB GL ?_ (hp:=by exact hg1);refine pB GL ?_ (hp:=by exact⟨fun hh=>hh,fun hh=>hh,fun hh=>rL hh,fun hh=>hh,fun hh=>rL hh,fun hh=>hh,fun hh=>hh,fun hh=>hh,fun hh=>hh,fun hG hh=>EW hG hh,(fun hh=>rL hh)⟩);refine pO hC1 (fun hC1 hc2=> ?_) (fun hC1 hc2=> ?_)
   ·refine pB GL ?_;refine pK (rE (qW (uL (uK (rE (qW ?_))))));cases hC1;cases hN1;dsimp only at hC0;cases hC0;exact⟨[],by rfl,by rfl,by rfl⟩
   ·refine qD (qY (pL ?_));obtain⟨hg2,hC1⟩:=pI hC1;refine qU GL ?_ (hp:=by exact hg2);cases hC1;exact s7 ⟨⟨[0,3],[]⟩,_,by rfl,hN1⟩
  ·refine sO (sW (sQ ?_));cases hC1;cases hN1;exact sP ⟨⟨[0],[]⟩,_,rfl,by rfl⟩
 ·rintro _ ⟨v,rfl,rfl⟩;dsimp only at hC0⊢;refine sZ (pL ?_);refine pB GL ?_ (hp:=by exact⟨fun hh=>hh,fun hh=>hh,(fun hh=>rL hh)⟩);refine pK ?_;cases hC0;exact⟨[],by rfl,by rfl,by rfl⟩
attribute [irreducible] DW
def Q7 (O:(List UInt8)):Int→Option (Int⊕(Unit⊕Bool)):=fun Z=>if (decide (Z<(O.length:Int)))=true then if 0≤Z∧Z<(O.length:Int) then if (((((!((decide ((97:Int)≤(pR O Z)))&&(decide ((pR O Z)≤(122:Int)))))&&(!((decide ((48:Int)≤(pR O Z)))&&(decide ((pR O Z)≤(57:Int))))))&&(!decide ((pR O Z)=(45:Int))))&&(!decide ((pR O Z)=(95:Int))))&&(!decide ((pR O Z)=(46:Int))))=true then some (.inr (.inr (false))) else if pE (Z+(1:Int)) then some (.inl (Z+(1:Int))) else none else none else some (.inr (.inl ()))
def F6 (O:(List UInt8)):Option Bool:=if ((((decide ((O.length:Int)<(1:Int)))||(decide ((40:Int)<(O.length:Int))))==false)=true→0≤(0:Int)∧(0:Int)<(O.length:Int)) then if (((decide ((O.length:Int)<(1:Int)))||(decide ((40:Int)<(O.length:Int))))||(!((decide ((97:Int)≤(pR O (0:Int))))&&(decide ((pR O (0:Int))≤(122:Int))))))=true then some (false) else rW (qB (Q7 O) (1:Int)) fun _=>some (true) else none
section
variable (O:(List UInt8))
abbrev a3Z:List pD:=[(.val .str O,none)]
abbrev a30:List pC:=[]
@[go_sem] def a32:pJ:=⟨[((F6 O)).isSome=true],[(.val .bool (val (F6 O)),none)],[]⟩
def aEm:List pD→List pC→Option pJ:=qP (V:=(List UInt8)) (fun x=>a3Z x) (fun x=>a30) fun x=>a32 x
@[go_sem] theorem aSs:aEm (no_index (a3Z O)) (no_index a30)=some (a32 O):=qQ (fun a0 b0 h1 h2=>by cases h1;cases h2;rfl) O
end
@[go_sem] abbrev a33:Nat×qC:=(116,⟨[.v],aEm,[],[],none⟩)
theorem DX:qG Tryz.prog [rP] (qE [a1U,a1Z]):=⟨⟨rQ,trivial⟩,pM aDe (pM aDh qS),qI⟩
theorem aEn:qJ Tryz.prog a33:=by
 refine qR DX Tryz.func116 (c:=_) rfl (N:=48) (by kernel_rfl) (ts:=[(2,none)]) rfl (fun _ _=>rfl) ?_;intro O hs hrow;dsimp only[a3Z,a30,a32,qM,pN,pW,qH,qO,Nat.reduceAdd] at hs hrow⊢;have hz:=hs;obtain⟨z0,hC0⟩:=aTF.1 hz
 try rw[r8 hC0]
 clear hz hs;unfold F6 at hC0;refine pB DX ?_;refine pP ?_;obtain⟨hg1,hC0⟩:=pI hC0;refine pB DX ?_ (hp:=by exact⟨fun hh=>hh,fun hh=>hh,fun hh=>sR hh,fun hh=>hh,hg1,fun hh=>hh,fun hh=>hh,(fun hh=>sR hh)⟩);refine pO hC0 (fun hC0 hc1=> ?_) (fun hC0 hc1=> ?_)
 ·refine pB DX ?_;refine pK (qW ?_);cases hC0;exact⟨[],by rfl,by rfl,by rfl⟩
 ·refine qD (pL (pP ?_));refine pB DX ?_;refine rC ?_;obtain⟨y1,hy1,hC0⟩:=uI hC0;refine t7 0 (fun s=> ∃v,y1= .inl v∧s=(fun _=>⟨[],[],0,48,0⟩) v) ?_ ?_
  ·refine t6 hy1 (fun x=>⟨[(0,(.val .str O,none)),(3,(.val (.int .i64) x,none))],[],0,48,0⟩) ⟨[0,3],[]⟩ (by rfl) ?_;intro Z w1 n1 hC1 hN1;unfold Q7 at hC1;dsimp only at hC1⊢;refine pP ?_;refine pB DX ?_;refine pO hC1 (fun hC1 hc2=> ?_) (fun hC1 hc2=> ?_)
   ·refine qD (pL (pP (rC ?_)));obtain⟨hg2,hC1⟩:=pI hC1;refine pB DX ?_ (hp:=by exact hg2);refine pB DX ?_ (hp:=by exact⟨fun hh=>hh,fun hh=>hh,fun hh=>rL hh,fun hh=>hh,fun hh=>rL hh,fun hh=>hh,fun hh=>rL hh,fun hh=>hh,(fun hh=>rL hh)⟩);refine pO hC1 (fun hC1 hc3=> ?_) (fun hC1 hc3=> ?_)
    ·refine pB DX ?_;refine pK (rE (qW (uL (uK (rE (qW ?_))))));cases hC1;cases hN1;dsimp only at hC0;cases hC0;exact⟨[],by rfl,by rfl,by rfl⟩
    ·refine qD (qY (pL ?_));obtain⟨hg3,hC1⟩:=pI hC1;refine qU DX ?_ (hp:=by exact hg3);cases hC1;exact s7 ⟨⟨[0,3],[]⟩,_,by rfl,hN1⟩
   ·refine sO (sW (sQ ?_));cases hC1;cases hN1;exact sP ⟨⟨[],[]⟩,_,rfl,by rfl⟩
  ·rintro _ ⟨v,rfl,rfl⟩;dsimp only at hC0⊢;refine sZ (pL ?_);refine pB DX ?_;refine pK ?_;cases hC0;exact⟨[],by rfl,by rfl,by rfl⟩
attribute [irreducible] F6
def K7 (O:(List UInt8)) (Z:(List UInt8)):Option Unit:=(MH O Z).bind fun aA=>some (())
section
variable (O:(List UInt8)) (Z:(List UInt8))
abbrev a34:List pD:=[(.val .str O,none),(.val .str Z,none)]
abbrev a35:List pC:=[]
@[go_sem] def a36:pJ:=⟨[((K7 O Z)).isSome=true],[(.val .bool ((decide ((Z.length:Int)≤(O.length:Int)))&&(decide ((pT O (0:Int) (Z.length:Int))=Z))),none)],[]⟩
def aEo:List pD→List pC→Option pJ:=qP (V:=((List UInt8)×(List UInt8))) (fun x=>a34 x.1 x.2) (fun x=>a35) fun x=>a36 x.1 x.2
@[go_sem] theorem aSt:aEo (no_index (a34 O Z)) (no_index a35)=some (a36 O Z):=qQ (fun⟨a0,a1⟩ ⟨b0,b1⟩ h1 h2=>by cases h1;cases h2;rfl) (O,Z)
end
@[go_sem] abbrev aEp:Nat×qC:=(136,⟨[.v,.v],aEo,[],[],none⟩)
theorem a38:qG Tryz.prog [] (qE [a2q]):=⟨trivial,pM aDp qS,qI⟩
theorem aMK:qJ Tryz.prog aEp:=by
 refine qR a38 Tryz.func136 (c:=_) rfl (N:=8) (by kernel_rfl) (ts:=[(4,none)]) rfl (fun _ _=>rfl) ?_;intro⟨O,Z⟩ hs hrow;dsimp only[a34,a35,a36,qM,pN,pW,qH,qO,Nat.reduceAdd] at hs hrow⊢;have hz:=hs;obtain⟨z0,hC0⟩:=aTF.1 hz
 try rw[r8 hC0]
 clear hz hs;unfold K7 at hC0;refine pB a38 ?_;obtain⟨aA,hv1,hw1,hC0⟩:=pZ hC0
 try simp only[go_sem] at hw1
 refine pB a38 ?_ (hp:=by exact(pY hv1)) (h:=by simp only[go_sem,hw1];rfl);refine pK ?_;cases hC0;exact⟨[],by rfl,by rfl,by rfl⟩
attribute [irreducible] K7
def K8 (O:(List UInt8)) (Z:(List UInt8)):Option ((List UInt8)×Bool):=(MI O Z).bind fun aA=>some ((aA.1,aA.2))
section
variable (O:(List UInt8)) (Z:(List UInt8))
abbrev a39:List pD:=[(.val .str O,none),(.val .str Z,none)]
abbrev a4a:List pC:=[]
@[go_sem] def a4b:pJ:=⟨[((K8 O Z)).isSome=true],[(.val .str ((val (K8 O Z)).1),none),(.val .bool ((val (K8 O Z)).2),none)],[]⟩
def aEq:List pD→List pC→Option pJ:=qP (V:=((List UInt8)×(List UInt8))) (fun x=>a39 x.1 x.2) (fun x=>a4a) fun x=>a4b x.1 x.2
@[go_sem] theorem aSu:aEq (no_index (a39 O Z)) (no_index a4a)=some (a4b O Z):=qQ (fun⟨a0,a1⟩ ⟨b0,b1⟩ h1 h2=>by cases h1;cases h2;rfl) (O,Z)
end
@[go_sem] abbrev aEr:Nat×qC:=(137,⟨[.v,.v],aEq,[],[],none⟩)
theorem a4c:qG Tryz.prog [] (qE [aDr]):=⟨trivial,pM aMo qS,qI⟩
theorem aML:qJ Tryz.prog aEr:=by
 refine qR a4c Tryz.func137 (c:=_) rfl (N:=11) (by kernel_rfl) (ts:=[(4,none),(5,none)]) rfl (fun _ _=>rfl) ?_;intro⟨O,Z⟩ hs hrow;dsimp only[a39,a4a,a4b,qM,pN,pW,qH,qO,Nat.reduceAdd] at hs hrow⊢;have hz:=hs;obtain⟨z0,hC0⟩:=aTF.1 hz
 try rw[r8 hC0]
 clear hz hs;unfold K8 at hC0;refine pB a4c ?_;obtain⟨aA,hv1,hw1,hC0⟩:=pZ hC0
 try simp only[go_sem] at hw1
 refine pB a4c ?_ (hp:=by exact(pY hv1)) (h:=by simp only[go_sem,hw1];rfl);refine pK ?_;cases hC0;exact⟨[],by rfl,by rfl,by rfl⟩
attribute [irreducible] K8
def aEs (O:Int) (Z:(List UInt8)) (aA:Int):Int→Option (Int⊕(Unit⊕Int)):=fun aB=>if (decide (aB<(Z.length:Int)))=true then if 0≤aB∧aB<(Z.length:Int) then if (decide ((pR Z aB)=aA))=true then some (.inr (.inr (aB))) else if (((!decide (O=(4:Int)))==true)=true→0≤aB∧aB<(Z.length:Int)) then if ((!decide (O=(4:Int)))&&(decide ((pR Z aB)=(92:Int))))=true then if pE (aB+(1:Int)) then if pE ((aB+(1:Int))+(1:Int)) then some (.inl ((aB+(1:Int))+(1:Int))) else none else none else if pE (aB+(1:Int)) then some (.inl (aB+(1:Int))) else none else none else none else some (.inr (.inl ()))
def K9 (O:Int) (Z:(List UInt8)) (aA:Int):Option Int:=if (!((decide ((1:Int)≤O))&&(decide (O≤(4:Int)))))=true then some ((-1:Int)) else rW (qB (aEs O Z aA) (0:Int)) fun _=>some ((-1:Int))
section
variable (O:Int) (Z:(List UInt8)) (aA:Int)
abbrev a4d:List pD:=[(.val (.int .i64) O,none),(.val .str Z,none),(.val (.int .u8) aA,none)]
abbrev a4e:List pC:=[]
@[go_sem] def a4f:pJ:=⟨[((K9 O Z aA)).isSome=true],[(.val (.int .i64) (val (K9 O Z aA)),none)],[]⟩
def aEt:List pD→List pC→Option pJ:=qP (V:=(Int×(List UInt8)×Int)) (fun x=>a4d x.1 x.2.1 x.2.2) (fun x=>a4e) fun x=>a4f x.1 x.2.1 x.2.2
@[go_sem] theorem aSv:aEt (no_index (a4d O Z aA)) (no_index a4e)=some (a4f O Z aA):=qQ (fun⟨a0,a1,a2⟩ ⟨b0,b1,b2⟩ h1 h2=>by cases h1;cases h2;rfl) (O,Z,aA)
end
@[go_sem] abbrev aEu:Nat×qC:=(139,⟨[.v,.v,.v],aEt,[],[],none⟩)
theorem C8:qG Tryz.prog [rP] (qE [UY]):=⟨⟨rQ,trivial⟩,pM a1K qS,qI⟩
theorem aMM:qJ Tryz.prog aEu:=by
 refine qR C8 Tryz.func139 (c:=_) rfl (N:=33) (by kernel_rfl) (ts:=[(6,none)]) rfl (fun _ _=>rfl) ?_;intro⟨O,Z,aA⟩ hs hrow;dsimp only[a4d,a4e,a4f,qM,pN,pW,qH,qO,Nat.reduceAdd] at hs hrow⊢;have hz:=hs;obtain⟨z0,hC0⟩:=aTF.1 hz
 try rw[r8 hC0]
 clear hz hs;unfold K9 at hC0;refine pB C8 ?_;refine pP ?_;refine pB C8 ?_;refine pO hC0 (fun hC0 hc1=> ?_) (fun hC0 hc1=> ?_)
 ·refine pB C8 ?_;refine pK (qW ?_);cases hC0;exact⟨[],by rfl,by rfl,by rfl⟩
 ·refine qD (pL (pP ?_));refine pB C8 ?_;refine rC ?_;obtain⟨y1,hy1,hC0⟩:=uI hC0;refine t7 0 (fun s=> ∃v,y1= .inl v∧s=(fun _=>⟨[],[],0,33,0⟩) v) ?_ ?_
  ·refine t6 hy1 (fun x=>⟨[(0,(.val (.int .i64) O,none)),(1,(.val .str Z,none)),(2,(.val (.int .u8) aA,none)),(7,(.val (.int .i64) x,none))],[],0,33,0⟩) ⟨[0,1,2,7],[]⟩ (by rfl) ?_;intro aB w1 n1 hC1 hN1;unfold aEs at hC1;dsimp only at hC1⊢;refine pP ?_;refine pB C8 ?_;refine pO hC1 (fun hC1 hc2=> ?_) (fun hC1 hc2=> ?_)
   ·refine qD (pL (pP (rC (pP ?_))));obtain⟨hg1,hC1⟩:=pI hC1;refine pB C8 ?_ (hp:=by exact hg1);refine pO hC1 (fun hC1 hc3=> ?_) (fun hC1 hc3=> ?_)
    ·refine pB C8 ?_;refine pK (qW (rE (qW (uL (uK (rE (qW ?_)))))));cases hC1;cases hN1;dsimp only at hC0;cases hC0;exact⟨[],by rfl,by rfl,by rfl⟩
    ·refine qD (pL ?_);obtain⟨hg2,hC1⟩:=pI hC1;refine pB C8 ?_ (hp:=by exact⟨fun hh=>hh,fun hh=>hh,hg2,fun hh=>hh,(fun hh=>rL hh)⟩);refine pO hC1 (fun hC1 hc4=> ?_) (fun hC1 hc4=> ?_)
     ·obtain⟨hg3,hC1⟩:=pI hC1;refine qU C8 ?_ (hp:=by exact hg3);refine qY (pL ?_);obtain⟨hg4,hC1⟩:=pI hC1;refine qU C8 ?_ (hp:=by exact hg4);cases hC1;exact s7 ⟨⟨[0,1,2,7],[]⟩,_,by rfl,hN1⟩
     ·refine qD (qY (pL ?_));obtain⟨hg5,hC1⟩:=pI hC1;refine qU C8 ?_ (hp:=by exact hg5);cases hC1;exact s7 ⟨⟨[0,1,2,7],[]⟩,_,by rfl,hN1⟩
   ·refine sO (sW (sQ ?_));cases hC1;cases hN1;exact sP ⟨⟨[],[]⟩,_,rfl,by rfl⟩
  ·rintro _ ⟨v,rfl,rfl⟩;dsimp only at hC0⊢;refine sZ (pL ?_);refine pB C8 ?_;refine pK ?_;cases hC0;exact⟨[],by rfl,by rfl,by rfl⟩
attribute [irreducible] K9
def DY (O:(List UInt8)):Option Unit:=if (((decide ((O.length:Int)≤(4000:Int)))==true)=true→((PX O)).isSome=true) then some (()) else none
section
variable (O:(List UInt8))
abbrev a4g:List pD:=[(.val .str O,none)]
abbrev a4h:List pC:=[]
@[go_sem] def a4i:pJ:=⟨[((DY O)).isSome=true],[(.val .bool ((decide ((O.length:Int)≤(4000:Int)))&&(Lib.validD O)),none)],[]⟩
def aEv:List pD→List pC→Option pJ:=qP (V:=(List UInt8)) (fun x=>a4g x) (fun x=>a4h) fun x=>a4i x
@[go_sem] theorem aSw:aEv (no_index (a4g O)) (no_index a4h)=some (a4i O):=qQ (fun a0 b0 h1 h2=>by cases h1;cases h2;rfl) O
end
@[go_sem] abbrev Q8:Nat×qC:=(161,⟨[.v],aEv,[],[],none⟩)
theorem a4j:qG Tryz.prog [rP] (qE [aDv]):=⟨⟨rQ,trivial⟩,pM aMp qS,qI⟩
theorem VD:qJ Tryz.prog Q8:=by
 refine qR a4j Tryz.func161 (c:=_) rfl (N:=10) (by kernel_rfl) (ts:=[(2,none)]) rfl (fun _ _=>rfl) ?_;intro O hs hrow;dsimp only[a4g,a4h,a4i,qM,pN,pW,qH,qO,Nat.reduceAdd] at hs hrow⊢;have hz:=hs;obtain⟨z0,hC0⟩:=aTF.1 hz
 try rw[r8 hC0]
 clear hz hs;unfold DY at hC0;refine pB a4j ?_;obtain⟨hg1,hC0⟩:=pI hC0;refine pB a4j ?_ (hp:=by exact⟨fun hh=>hh,hg1,(fun hh=>rL hh)⟩);refine pK ?_;cases hC0;exact⟨[],by rfl,by rfl,by rfl⟩
attribute [irreducible] DY
end
noncomputable section
def GM (O:Int) (Z:Int) (aA:Bool):Option (List UInt8):=rH (σ:=(List UInt8)) (if (decide (O=(1:Int)))=true then some (([61,58,35,33]:List UInt8)) else if (decide (O=(2:Int)))=true then some (([34]:List UInt8)) else if (decide (O=(3:Int)))=true then some (([34,123,125]:List UInt8)) else some (([]:List UInt8)) ) fun aB=>if (decide (Z=(92:Int)))=true then some (([92,92]:List UInt8)) else if (decide (Z=(10:Int)))=true then some (([92,110]:List UInt8)) else if (decide (Z=(13:Int)))=true then some (([92,114]:List UInt8)) else if (decide (Z=(9:Int)))=true then some (([92,116]:List UInt8)) else rH (σ:=Bool) (if (decide ((0:Int)≤(tK aB Z)))=true then some ((decide ((0:Int)≤(tK aB Z)))) else some ((((decide (O=(1:Int)))&&aA)&&(decide (Z=(32:Int))))) ) fun aC=>if aC=true then if ((([92]:List UInt8)++(s5 ([Z]:List Int))).length:Int)≤9223372036854775807 then some ((([92]:List UInt8)++(s5 ([Z]:List Int)))) else none else if (((decide (Z<(32:Int)))||(decide (Z=(127:Int))))&&(decide (O=(3:Int))))=true then (PY Z (4:Int)).bind fun aD=>if ((([92,117]:List UInt8)++((JW ([48]:List UInt8) ((4:Int)- ((w4 (IntKind.wrap .i64 Z) (16:Int)).length:Int)))++(w4 (IntKind.wrap .i64 Z) (16:Int)))).length:Int)≤9223372036854775807 then some ((([92,117]:List UInt8)++((JW ([48]:List UInt8) ((4:Int)- ((w4 (IntKind.wrap .i64 Z) (16:Int)).length:Int)))++(w4 (IntKind.wrap .i64 Z) (16:Int))))) else none else if ((decide (Z<(32:Int)))||(decide (Z=(127:Int))))=true then (PY Z (2:Int)).bind fun aE=>if ((([92,120]:List UInt8)++((JW ([48]:List UInt8) ((2:Int)- ((w4 (IntKind.wrap .i64 Z) (16:Int)).length:Int)))++(w4 (IntKind.wrap .i64 Z) (16:Int)))).length:Int)≤9223372036854775807 then some ((([92,120]:List UInt8)++((JW ([48]:List UInt8) ((2:Int)- ((w4 (IntKind.wrap .i64 Z) (16:Int)).length:Int)))++(w4 (IntKind.wrap .i64 Z) (16:Int))))) else none else some ((s5 ([Z]:List Int)))
section
variable (O:Int) (Z:Int) (aA:Bool)
abbrev a4k:List pD:=[(.val (.int .i64) O,none),(.val (.int .u8) Z,none),(.val .bool aA,none)]
abbrev a4l:List pC:=[]
@[go_sem] def a4m:pJ:=⟨[((GM O Z aA)).isSome=true],[(.val .str (val (GM O Z aA)),none)],[]⟩
def aEw:List pD→List pC→Option pJ:=qP (V:=(Int×Int×Bool)) (fun x=>a4k x.1 x.2.1 x.2.2) (fun x=>a4l) fun x=>a4m x.1 x.2.1 x.2.2
@[go_sem] theorem aSx:aEw (no_index (a4k O Z aA)) (no_index a4l)=some (a4m O Z aA):=qQ (fun⟨a0,a1,a2⟩ ⟨b0,b1,b2⟩ h1 h2=>by cases h1;cases h2;rfl) (O,Z,aA)
end
@[go_sem] abbrev aEx:Nat×qC:=(166,⟨[.v,.v,.v],aEw,[],[],none⟩)
theorem vB:qG Tryz.prog [DP,rP,EY] (qE [MA,aDy,aDA]):=⟨⟨GA,⟨rQ,⟨HT,trivial⟩⟩⟩,pM PO (pM aMq (pM aMr qS)),qI⟩
theorem aMN:qJ Tryz.prog aEx:=by
 refine qR vB Tryz.func166 (c:=_) rfl (N:=64) (by kernel_rfl) (ts:=[(6,none)]) rfl (fun _ _=>rfl) ?_;intro⟨O,Z,aA⟩ hs hrow;dsimp only[a4k,a4l,a4m,qM,pN,pW,qH,qO,Nat.reduceAdd] at hs hrow⊢;have hz:=hs;obtain⟨z0,hC0⟩:=aTF.1 hz
 try rw[r8 hC0]
 clear hz hs;unfold GM at hC0;refine pB vB ?_;refine pB vB ?_;refine pP ?_;refine pB vB ?_;obtain⟨aB,hC1,hC0⟩:=pF hC0;refine BB (fun s=>s=(fun x=>⟨[(0,(.val (.int .i64) O,none)),(1,(.val (.int .u8) Z,none)),(2,(.val .bool aA,none)),(7,(.val .str x,none))],[],0,64,0⟩) aB) ?_ ?_
 ·refine rC ?_;refine pB vB ?_;refine pO hC1 (fun hC1 hc1=> ?_) (fun hC1 hc1=> ?_)
  ·refine qU vB ?_;refine qY ?_;cases hC1;exact uE ⟨⟨[0,1,2,7],[]⟩,by rfl⟩
  ·refine pB vB ?_;refine pO hC1 (fun hC1 hc2=> ?_) (fun hC1 hc2=> ?_)
   ·refine qU vB ?_;refine qY ?_;cases hC1;exact uE ⟨⟨[0,1,2,7],[]⟩,by rfl⟩
   ·refine pB vB ?_;refine pO hC1 (fun hC1 hc3=> ?_) (fun hC1 hc3=> ?_)
    ·refine qU vB ?_;refine qY ?_;cases hC1;exact uE ⟨⟨[0,1,2,7],[]⟩,by rfl⟩
    ·refine qD (qY ?_);cases hC1;exact uE ⟨⟨[0,1,2,7],[]⟩,by rfl⟩
 ·rintro _ rfl;dsimp only at hC0⊢;refine pL (pP (rC ?_));refine pB vB ?_;refine pO hC0 (fun hC0 hc4=> ?_) (fun hC0 hc4=> ?_)
  ·refine pB vB ?_;refine pK (rE (qW ?_));cases hC0;exact⟨[],by rfl,by rfl,by rfl⟩
  ·refine pB vB ?_;refine pO hC0 (fun hC0 hc5=> ?_) (fun hC0 hc5=> ?_)
   ·refine pB vB ?_;refine pK (rE (qW ?_));cases hC0;exact⟨[],by rfl,by rfl,by rfl⟩
   ·refine pB vB ?_;refine pO hC0 (fun hC0 hc6=> ?_) (fun hC0 hc6=> ?_)
    ·refine pB vB ?_;refine pK (rE (qW ?_));cases hC0;exact⟨[],by rfl,by rfl,by rfl⟩
    ·refine pB vB ?_;refine pO hC0 (fun hC0 hc7=> ?_) (fun hC0 hc7=> ?_)
     ·refine pB vB ?_;refine pK (rE (qW ?_));cases hC0;exact⟨[],by rfl,by rfl,by rfl⟩
     ·refine pP ?_;refine pB vB ?_;obtain⟨aC,hC1,hC0⟩:=pF hC0;refine BB (fun s=>s=(fun x=>⟨[(0,(.val (.int .i64) O,none)),(1,(.val (.int .u8) Z,none)),(27,(.val .bool x,none))],[],0,64,0⟩) aC) ?_ ?_
      ·refine pO hC1 (fun hC1 hc8=> ?_) (fun hC1 hc8=> ?_)
       ·refine qD ?_;cases hC1;exact uE ⟨⟨[0,1,27],[]⟩,by rfl⟩
       ·refine qU vB ?_ (hp:=by exact⟨fun hh=>rL hh,fun hh=>hh,(fun hh=>rL hh)⟩);cases hC1;exact uE ⟨⟨[0,1,27],[]⟩,by rfl⟩
      ·rintro _ rfl;dsimp only at hC0⊢;refine pL ?_;refine pO hC0 (fun hC0 hc9=> ?_) (fun hC0 hc9=> ?_)
       ·obtain⟨hg1,hC0⟩:=pI hC0;refine pB vB ?_ (hp:=by exact hg1);refine pK (rE (qW ?_));cases hC0;exact⟨[],by rfl,by rfl,by rfl⟩
       ·refine pB vB ?_ (hp:=by exact⟨fun hh=>hh,(fun hh=>rL hh)⟩);refine pO hC0 (fun hC0 hc10=> ?_) (fun hC0 hc10=> ?_)
        ·obtain⟨aD,hv2,hw2,hC0⟩:=pZ hC0
         try simp only[go_sem] at hw2
         obtain⟨hg3,hC0⟩:=pI hC0;refine pB vB ?_ (hp:=by exact⟨pY hv2,hg3⟩) (h:=by simp only[go_sem,hw2];rfl);refine pK (rE (qW ?_));cases hC0;exact⟨[],by rfl,by rfl,by rfl⟩
        ·refine pB vB ?_;refine pO hC0 (fun hC0 hc11=> ?_) (fun hC0 hc11=> ?_)
         ·obtain⟨aE,hv4,hw4,hC0⟩:=pZ hC0
          try simp only[go_sem] at hw4
          obtain⟨hg5,hC0⟩:=pI hC0;refine pB vB ?_ (hp:=by exact⟨pY hv4,hg5⟩) (h:=by simp only[go_sem,hw4];rfl);refine pK (rE (qW ?_));cases hC0;exact⟨[],by rfl,by rfl,by rfl⟩
         ·refine qD (qY (pL ?_));refine pB vB ?_;refine pK ?_;cases hC0;exact⟨[],by rfl,by rfl,by rfl⟩
attribute [irreducible] GM
def MS (O:(List Int)):((List UInt8)×Int)→Option (((List UInt8)×Int)⊕(List UInt8)):=fun(Z,aA)=>if (decide (aA<(O.length:Int)))=true then if 0≤aA∧aA<(O.length:Int) then if (((decide ((0:Int)≤(pU (.int .i64) O aA)))&&(decide ((pU (.int .i64) O aA)≤(1114111:Int))))&&((decide ((pU (.int .i64) O aA)<(55296:Int)))||(decide ((57343:Int)<(pU (.int .i64) O aA)))))=true then if 0≤aA∧aA<(O.length:Int) then (BG (pU (.int .i64) O aA)).bind fun aB=>if ((Z++aB).length:Int)≤9223372036854775807 then if pE (aA+(1:Int)) then some (.inl ((Z++aB),(aA+(1:Int)))) else none else none else none else (BG (65533:Int)).bind fun aC=>if ((Z++aC).length:Int)≤9223372036854775807 then if pE (aA+(1:Int)) then some (.inl ((Z++aC),(aA+(1:Int)))) else none else none else none else some (.inr Z)
def KA (O:(List Int)):Option (List UInt8):=rH (qB (MS O) (([]:List UInt8),(0:Int))) fun Z=>some (Z)
section
variable (O:(List Int))
abbrev a4n:List pD:=[(.val (.list (.int .i64)) O,none)]
abbrev a4o:List pC:=[]
@[go_sem] def a4p:pJ:=⟨[((KA O)).isSome=true],[(.val .str (val (KA O)),none)],[]⟩
def aEy:List pD→List pC→Option pJ:=qP (V:=(List Int)) (fun x=>a4n x) (fun x=>a4o) fun x=>a4p x
@[go_sem] theorem aSy:aEy (no_index (a4n O)) (no_index a4o)=some (a4p O):=qQ (fun a0 b0 h1 h2=>by cases h1;cases h2;rfl) O
end
@[go_sem] abbrev aEz:Nat×qC:=(171,⟨[.v],aEy,[],[],none⟩)
theorem DZ:qG Tryz.prog [uX,JY] (qE [a2N,a2S]):=⟨⟨vK,⟨PM,trivial⟩⟩,pM aDD (pM aDF qS),qI⟩
theorem aMO:qJ Tryz.prog aEz:=by
 refine qR DZ Tryz.func171 (c:=_) rfl (N:=27) (by kernel_rfl) (ts:=[(2,none)]) rfl (fun _ _=>rfl) ?_;intro O hs hrow;dsimp only[a4n,a4o,a4p,qM,pN,pW,qH,qO,Nat.reduceAdd] at hs hrow⊢;have hz:=hs;obtain⟨z0,hC0⟩:=aTF.1 hz
 try rw[r8 hC0]
 clear hz hs;unfold KA at hC0;refine pB DZ ?_;refine pB DZ ?_;refine pP ?_;refine pB DZ ?_;refine rC ?_;obtain⟨Z,hy1,hC0⟩:=pF hC0;refine t7 0 (fun s=>s=(fun x=>⟨[(3,(.val .str x,none))],[],0,27,0⟩) Z) ?_ ?_
 ·refine t6 hy1 (fun x=>⟨[(0,(.val (.list (.int .i64)) O,none)),(3,(.val .str x.1,none)),(4,(.val (.int .i64) x.2,none))],[],0,27,0⟩) ⟨[0,3,4],[]⟩ (by rfl) ?_;intro x1 w1 n1 hC1 hN1;obtain⟨aA,aB⟩:=x1;unfold MS at hC1;dsimp only at hC1⊢;refine pP ?_;refine pB DZ ?_;refine pO hC1 (fun hC1 hc1=> ?_) (fun hC1 hc1=> ?_)
  ·refine qD (pL (pP (rC ?_)));obtain⟨hg1,hC1⟩:=pI hC1;refine pB DZ ?_ (hp:=by exact hg1);refine pO hC1 (fun hC1 hc2=> ?_) (fun hC1 hc2=> ?_)
   ·obtain⟨hg2,hC1⟩:=pI hC1;obtain⟨aC,hv3,hw3,hC1⟩:=pZ hC1
    try simp only[go_sem] at hw3
    obtain⟨hg4,hC1⟩:=pI hC1;refine qU DZ ?_ (hp:=by exact⟨hg2,pY hv3,hg4⟩) (h:=by simp only[go_sem,hw3];rfl);refine qY (pL ?_);obtain⟨hg5,hC1⟩:=pI hC1;refine qU DZ ?_ (hp:=by exact hg5);cases hC1;exact s7 ⟨⟨[0,3,4],[]⟩,_,by rfl,hN1⟩
   ·obtain⟨aD,hv6,hw6,hC1⟩:=pZ hC1
    try simp only[go_sem] at hw6
    obtain⟨hg7,hC1⟩:=pI hC1;refine qU DZ ?_ (hp:=by exact⟨pY hv6,hg7⟩) (h:=by simp only[go_sem,hw6];rfl);refine qY (pL ?_);obtain⟨hg8,hC1⟩:=pI hC1;refine qU DZ ?_ (hp:=by exact hg8);cases hC1;exact s7 ⟨⟨[0,3,4],[]⟩,_,by rfl,hN1⟩
  ·refine sO (sW (sQ ?_));cases hC1;cases hN1;exact sP ⟨⟨[3],[]⟩,by rfl⟩
 ·rintro _ rfl;dsimp only at hC0⊢;refine sZ (pL ?_);refine pB DZ ?_;refine pK ?_;cases hC0;exact⟨[],by rfl,by rfl,by rfl⟩
attribute [irreducible] KA
end
noncomputable section
def VE (O:Int) (Z:Int) (aA:Bool):Option (List UInt8):=if (decide (O=(4:Int)))=true then if False then some ((UJ Z)) else none else if (decide (Z=(10:Int)))=true then some (([92,110]:List UInt8)) else if (decide (Z=(13:Int)))=true then some (([92,114]:List UInt8)) else if (decide (Z=(9:Int)))=true then some (([92,116]:List UInt8)) else rH (σ:=Bool) (if (decide (Z=(92:Int)))=true then some ((decide (Z=(92:Int)))) else if (((decide (O=(1:Int)))==true)=true→((DS Z ([61,58,35,33]:List UInt8))).isSome=true) then if ((decide (O=(1:Int)))&&(val (DS Z ([61,58,35,33]:List UInt8))))=true then some (((decide (O=(1:Int)))&&(val (DS Z ([61,58,35,33]:List UInt8))))) else if (((decide (O=(1:Int)))&&aA)&&(decide (Z=(32:Int))))=true then some ((((decide (O=(1:Int)))&&aA)&&(decide (Z=(32:Int))))) else if ((!decide (O=(1:Int)))&&(decide (Z=(34:Int))))=true then some (((!decide (O=(1:Int)))&&(decide (Z=(34:Int))))) else if (((decide (O=(3:Int)))==true)=true→((DS Z ([123,125]:List UInt8))).isSome=true) then some (((decide (O=(3:Int)))&&(val (DS Z ([123,125]:List UInt8))))) else none else none ) fun aB=>if aB=true then if ((([92]:List UInt8)++(s5 ([Z]:List Int))).length:Int)≤9223372036854775807 then some ((([92]:List UInt8)++(s5 ([Z]:List Int)))) else none else if (((decide (Z<(32:Int)))||(decide (Z=(127:Int))))&&(decide (O=(3:Int))))=true then (a2J (IntKind.wrap .i64 Z)).bind fun aC=>if ((([92,117,48,48]:List UInt8)++(s5 ([(pR ([48,49,50,51,52,53,54,55,56,57,97,98,99,100,101,102]:List UInt8) (IntKind.wrap .i64 (Int.tdiv (IntKind.wrap .i64 Z) (16:Int)))),(pR ([48,49,50,51,52,53,54,55,56,57,97,98,99,100,101,102]:List UInt8) (Int.tmod (IntKind.wrap .i64 Z) (16:Int)))]:List Int))).length:Int)≤9223372036854775807 then some ((([92,117,48,48]:List UInt8)++(s5 ([(pR ([48,49,50,51,52,53,54,55,56,57,97,98,99,100,101,102]:List UInt8) (IntKind.wrap .i64 (Int.tdiv (IntKind.wrap .i64 Z) (16:Int)))),(pR ([48,49,50,51,52,53,54,55,56,57,97,98,99,100,101,102]:List UInt8) (Int.tmod (IntKind.wrap .i64 Z) (16:Int)))]:List Int)))) else none else if ((decide (Z<(32:Int)))||(decide (Z=(127:Int))))=true then (a2J (IntKind.wrap .i64 Z)).bind fun aD=>if ((([92,120]:List UInt8)++(s5 ([(pR ([48,49,50,51,52,53,54,55,56,57,97,98,99,100,101,102]:List UInt8) (IntKind.wrap .i64 (Int.tdiv (IntKind.wrap .i64 Z) (16:Int)))),(pR ([48,49,50,51,52,53,54,55,56,57,97,98,99,100,101,102]:List UInt8) (Int.tmod (IntKind.wrap .i64 Z) (16:Int)))]:List Int))).length:Int)≤9223372036854775807 then some ((([92,120]:List UInt8)++(s5 ([(pR ([48,49,50,51,52,53,54,55,56,57,97,98,99,100,101,102]:List UInt8) (IntKind.wrap .i64 (Int.tdiv (IntKind.wrap .i64 Z) (16:Int)))),(pR ([48,49,50,51,52,53,54,55,56,57,97,98,99,100,101,102]:List UInt8) (Int.tmod (IntKind.wrap .i64 Z) (16:Int)))]:List Int)))) else none else some ((s5 ([Z]:List Int)))
attribute [irreducible] VE
def MT:((List UInt8)×(List Int))→Option (((List UInt8)×(List Int))⊕(List Int)):=fun(O,Z)=>if (decide ((0:Int)<(O.length:Int)))=true then (I1 O).bind fun aA=>if (Z.length+([aA.1]:List Int).length)*8≤140737488355328 then if 0≤aA.2∧aA.2≤(O.length:Int)∧(O.length:Int)≤(O.length:Int) then some (.inl ((pT O aA.2 (O.length:Int)),(Z++([aA.1]:List Int)))) else none else none else some (.inr Z)
def I4 (O:(List UInt8)):Option (List Int):=rH (qB MT (O,([]:List Int))) fun Z=>some (Z)
section
variable (O:(List UInt8))
abbrev a4q:List pD:=[(.val .str O,none)]
abbrev a4r:List pC:=[]
@[go_sem] def a4s:pJ:=⟨[((I4 O)).isSome=true],[(.val (.list (.int .i64)) (val (I4 O)),some 0)],[.grow 3 1 ((val (I4 O)).length)]⟩
def aEA:List pD→List pC→Option pJ:=qP (V:=(List UInt8)) (fun x=>a4q x) (fun x=>a4r) fun x=>a4s x
@[go_sem] theorem aSz:aEA (no_index (a4q O)) (no_index a4r)=some (a4s O):=qQ (fun a0 b0 h1 h2=>by cases h1;cases h2;rfl) O
end
@[go_sem] abbrev aEB:Nat×qC:=(172,⟨[.v],aEA,[],[],none⟩)
theorem I5:qG Tryz.prog [rP,JY] (qE [aDH]):=⟨⟨rQ,⟨PM,trivial⟩⟩,pM aMs qS,qI⟩
theorem aMP:qJ Tryz.prog aEB:=by
 refine qR I5 Tryz.func172 (c:=_) rfl (N:=22) (by kernel_rfl) (ts:=[(2,none)]) rfl (fun _ _=>rfl) ?_;intro O hs hrow;dsimp only[a4q,a4r,a4s,qM,pN,pW,qH,qO,Nat.reduceAdd] at hs hrow⊢;have hz:=hs;obtain⟨z0,hC0⟩:=aTF.1 hz
 try rw[r8 hC0]
 clear hz hs;unfold I4 at hC0;refine pB I5 ?_;refine pB I5 ?_;refine pP (rC ?_);obtain⟨Z,hy1,hC0⟩:=pF hC0;refine t7 0 (fun s=>s=(fun x=>⟨[(3,(.val (.list (.int .i64)) x,some 0))],[(0,.grow 3 1 (x.length))],1,22,0⟩) Z) ?_ ?_
 ·refine t6 hy1 (fun x=>⟨[(0,(.val .str x.1,none)),(3,(.val (.list (.int .i64)) x.2,some 0))],[(0,.grow 3 1 (x.2.length))],1,22,0⟩) ⟨[0,3],[(0,32)]⟩ (by rfl) ?_;intro x1 w1 n1 hC1 hN1;obtain⟨aA,aB⟩:=x1;unfold MT at hC1;dsimp only at hC1⊢;refine pP ?_;refine pB I5 ?_;refine pO hC1 (fun hC1 hc1=> ?_) (fun hC1 hc1=> ?_)
  ·refine qD (pL (rC ?_));obtain⟨aC,hv1,hw1,hC1⟩:=pZ hC1
   try simp only[go_sem] at hw1
   refine pB I5 ?_ (hp:=by exact(pY hv1)) (h:=by simp only[go_sem,hw1];rfl);obtain⟨hg2,hC1⟩:=pI hC1;refine pB I5 ?_ (hp:=by exact⟨by first|rfl|trivial,hg2⟩)
   obtain⟨hg3,hC1⟩:=pI hC1;refine qU I5 ?_ (hp:=by exact hg3);refine qY ?_;cases hC1;exact s7 ⟨⟨[0,3],[(0,0)]⟩,_,by rfl,hN1⟩
  ·refine sO (sW (sQ ?_));cases hC1;cases hN1;exact sP ⟨⟨[3],[(0,0)]⟩,by rfl⟩
 ·rintro _ rfl;dsimp only at hC0⊢;refine sZ (pL ?_);refine pB I5 ?_;refine pK ?_;cases hC0;exact⟨[(0,0)],by rfl,by rfl,by rfl⟩
attribute [irreducible] I4
def GN (O:(List (List UInt8))) (Z:(List UInt8)):Option Bool:=(C6 O Z).bind fun aA=>some ((decide ((0:Int)≤aA)))
section
variable (O:(List (List UInt8))) (Z:(List UInt8))
abbrev a4t:List pD:=[(.val (.list .str) O,none),(.val .str Z,none)]
abbrev a4u:List pC:=[]
@[go_sem] def a4v:pJ:=⟨[((GN O Z)).isSome=true],[(.val .bool (val (GN O Z)),none)],[]⟩
def aEC:List pD→List pC→Option pJ:=qP (V:=((List (List UInt8))×(List UInt8))) (fun x=>a4t x.1 x.2) (fun x=>a4u) fun x=>a4v x.1 x.2
@[go_sem] theorem aSA:aEC (no_index (a4t O Z)) (no_index a4u)=some (a4v O Z):=qQ (fun⟨a0,a1⟩ ⟨b0,b1⟩ h1 h2=>by cases h1;cases h2;rfl) (O,Z)
end
@[go_sem] abbrev VF:Nat×qC:=(186,⟨[.v,.v],aEC,[],[],none⟩)
theorem a4w:qG Tryz.prog [] (qE [V5]):=⟨trivial,pM aDt qS,qI⟩
theorem aED:qJ Tryz.prog VF:=by
 refine qR a4w Tryz.func186 (c:=_) rfl (N:=9) (by kernel_rfl) (ts:=[(4,none)]) rfl (fun _ _=>rfl) ?_;intro⟨O,Z⟩ hs hrow;dsimp only[a4t,a4u,a4v,qM,pN,pW,qH,qO,Nat.reduceAdd] at hs hrow⊢;have hz:=hs;obtain⟨z0,hC0⟩:=aTF.1 hz
 try rw[r8 hC0]
 clear hz hs;unfold GN at hC0;refine pB a4w ?_;obtain⟨aA,hv1,hw1,hC0⟩:=pZ hC0
 try simp only[go_sem] at hw1
 refine pB a4w ?_ (hp:=by exact(pY hv1)) (h:=by simp only[go_sem,hw1];rfl);refine pK ?_;cases hC0;exact⟨[],by rfl,by rfl,by rfl⟩
attribute [irreducible] GN
def GO (O:(List pV)) (Z:(List UInt8)):Option Int:=(MM O Z).bind fun aA=>some (aA)
section
variable (O:(List pV)) (Z:(List UInt8))
abbrev a4x:List pD:=[(.val (.list (.pair .str (.pair .str .unit))) O,none),(.val .str Z,none)]
abbrev a4y:List pC:=[]
@[go_sem] def a4z:pJ:=⟨[((GO O Z)).isSome=true],[(.val (.int .i64) (val (GO O Z)),none)],[]⟩
def aEE:List pD→List pC→Option pJ:=qP (V:=((List pV)×(List UInt8))) (fun x=>a4x x.1 x.2) (fun x=>a4y) fun x=>a4z x.1 x.2
@[go_sem] theorem aSB:aEE (no_index (a4x O Z)) (no_index a4y)=some (a4z O Z):=qQ (fun⟨a0,a1⟩ ⟨b0,b1⟩ h1 h2=>by cases h1;cases h2;rfl) (O,Z)
end
@[go_sem] abbrev a4A:Nat×qC:=(237,⟨[.v,.v],aEE,[],[],none⟩)
theorem a4B:qG Tryz.prog [rP] (qE [aD5]):=⟨⟨rQ,trivial⟩,pM aMB qS,qI⟩
theorem aEF:qJ Tryz.prog a4A:=by
 refine qR a4B Tryz.func237 (c:=_) rfl (N:=8) (by kernel_rfl) (ts:=[(4,none)]) rfl (fun _ _=>rfl) ?_;intro⟨O,Z⟩ hs hrow;dsimp only[a4x,a4y,a4z,qM,pN,pW,qH,qO,Nat.reduceAdd] at hs hrow⊢;have hz:=hs;obtain⟨z0,hC0⟩:=aTF.1 hz
 try rw[r8 hC0]
 clear hz hs;unfold GO at hC0;refine pB a4B ?_;obtain⟨aA,hv1,hw1,hC0⟩:=pZ hC0
 try simp only[go_sem] at hw1
 refine pB a4B ?_ (hp:=by exact⟨by first|rfl|trivial,(pY hv1)⟩) (h:=by simp only[go_sem,hw1];rfl)
 refine pK ?_;cases hC0;exact⟨[],by rfl,by rfl,by rfl⟩
attribute [irreducible] GO
def I6 (O:(List pV)) (Z:(List UInt8)):Option ((List UInt8)×Bool):=(GO O Z).bind fun aA=>if (decide (aA<(0:Int)))=true then some ((([]:List UInt8),false)) else if 0≤aA∧aA<(O.length:Int) then some (((pU (.pair .str (.pair .str .unit)) O aA).2.1,true)) else none
section
variable (O:(List pV)) (Z:(List UInt8))
abbrev a4C:List pD:=[(.val (.list (.pair .str (.pair .str .unit))) O,none),(.val .str Z,none)]
abbrev a4D:List pC:=[]
@[go_sem] def a4E:pJ:=⟨[((I6 O Z)).isSome=true],[(.val .str ((val (I6 O Z)).1),none),(.val .bool ((val (I6 O Z)).2),none)],[]⟩
def aEG:List pD→List pC→Option pJ:=qP (V:=((List pV)×(List UInt8))) (fun x=>a4C x.1 x.2) (fun x=>a4D) fun x=>a4E x.1 x.2
@[go_sem] theorem aSC:aEG (no_index (a4C O Z)) (no_index a4D)=some (a4E O Z):=qQ (fun⟨a0,a1⟩ ⟨b0,b1⟩ h1 h2=>by cases h1;cases h2;rfl) (O,Z)
end
@[go_sem] abbrev a4F:Nat×qC:=(255,⟨[.v,.v],aEG,[],[],none⟩)
theorem MU:qG Tryz.prog [rP,w5,C3] (qE [a4A]):=⟨⟨rQ,⟨wU,⟨DO,trivial⟩⟩⟩,pM aEF qS,qI⟩
theorem aMQ:qJ Tryz.prog a4F:=by
 refine qR MU Tryz.func255 (c:=_) rfl (N:=17) (by kernel_rfl) (ts:=[(4,none),(5,none)]) rfl (fun _ _=>rfl) ?_;intro⟨O,Z⟩ hs hrow;dsimp only[a4C,a4D,a4E,qM,pN,pW,qH,qO,Nat.reduceAdd] at hs hrow⊢;have hz:=hs;obtain⟨z0,hC0⟩:=aTF.1 hz
 try rw[r8 hC0]
 clear hz hs;unfold I6 at hC0;refine pB MU ?_;obtain⟨aA,hv1,hw1,hC0⟩:=pZ hC0
 try simp only[go_sem] at hw1
 refine pB MU ?_ (hp:=by exact(pY hv1)) (h:=by simp only[go_sem,hw1];rfl);refine pP ?_;refine pB MU ?_;refine pO hC0 (fun hC0 hc1=> ?_) (fun hC0 hc1=> ?_)
 ·refine pB MU ?_;refine pK (qW ?_);cases hC0;exact⟨[],by rfl,by rfl,by rfl⟩
 ·refine qD (pL ?_);obtain⟨hg2,hC0⟩:=pI hC0;refine pB MU ?_ (hp:=by exact hg2);refine pK ?_;cases hC0;exact⟨[],by rfl,by rfl,by rfl⟩
attribute [irreducible] I6
def I7 (O:(List UInt8)):Option Bool:=(GN ([([110,101,119]:List UInt8),([102,117,122,122,121]:List UInt8),([116,114,97,110,115,108,97,116,101,100]:List UInt8),([114,101,118,105,101,119,101,100]:List UInt8),([111,98,115,111,108,101,116,101]:List UInt8)]:List (List UInt8)) O).bind fun Z=>some (Z)
section
variable (O:(List UInt8))
abbrev a4G:List pD:=[(.val .str O,none)]
abbrev a4H:List pC:=[]
@[go_sem] def a4I:pJ:=⟨[((I7 O)).isSome=true],[(.val .bool (val (I7 O)),none)],[]⟩
def aEH:List pD→List pC→Option pJ:=qP (V:=(List UInt8)) (fun x=>a4G x) (fun x=>a4H) fun x=>a4I x
@[go_sem] theorem aSD:aEH (no_index (a4G O)) (no_index a4H)=some (a4I O):=qQ (fun a0 b0 h1 h2=>by cases h1;cases h2;rfl) O
end
@[go_sem] abbrev aEI:Nat×qC:=(257,⟨[.v],aEH,[],[],none⟩)
theorem a4J:qG Tryz.prog [] (qE [PS,VF]):=⟨trivial,pM a1e (pM aED qS),qI⟩
theorem aMR:qJ Tryz.prog aEI:=by
 refine qR a4J Tryz.func257 (c:=_) rfl (N:=6) (by kernel_rfl) (ts:=[(2,none)]) rfl (fun _ _=>rfl) ?_;intro O hs hrow;dsimp only[a4G,a4H,a4I,qM,pN,pW,qH,qO,Nat.reduceAdd] at hs hrow⊢;have hz:=hs;obtain⟨z0,hC0⟩:=aTF.1 hz
 try rw[r8 hC0]
 clear hz hs;unfold I7 at hC0;refine pB a4J ?_;obtain⟨Z,hv1,hw1,hC0⟩:=pZ hC0
 try simp only[go_sem] at hw1
 refine pB a4J ?_ (hp:=by exact(pY hv1)) (h:=by simp only[go_sem,hw1];rfl);refine pK ?_;cases hC0;exact⟨[],by rfl,by rfl,by rfl⟩
attribute [irreducible] I7
end
noncomputable section
def MV (O:(List UInt8)) (Z:(List UInt8)) (aA:(List UInt8)) (aB:(List UInt8)) (aC:(List (List UInt8))) (aD:(Int×((List pV)×Unit))) (aE:Bool) (aF:(List (List UInt8))) (aG:(List ((List UInt8)×Bool))):Option Bool:=(GN aF O).bind fun aH=>some (aH)
section
variable (O:(List UInt8)) (Z:(List UInt8)) (aA:(List UInt8)) (aB:(List UInt8)) (aC:(List (List UInt8))) (aD:Nat) (aE:(Int×((List pV)×Unit))) (aF:Bool) (aG:Nat) (aH:Nat) (aI:(List (List UInt8))) (aJ:Nat) (aK:(List ((List UInt8)×Bool)))
abbrev a4K:List pD:=[(.val .str O,none),(.val .ref (some (0,0)),none)]
abbrev a4L:List pC:=[.cells .ref (some (1,0)) [],.cells sS ((Z,(aA,(aB,(aC,((some (4,aD)),aE))))),(aF,((some 5),()))) [(3,2),(6,3)],.grow 9 1 aG,.grow 149 2 aH,.row 9 .str aI aJ,.map .str .bool aK]
@[go_sem] def a4M:pJ:=⟨[aG=(aC.length),aH=(aE.2.1.length),aD=aJ,((MV O Z aA aB aC aE aF aI aK)).isSome=true],[(.val .bool (val (MV O Z aA aB aC aE aF aI aK)),none)],[.cells .ref (some (1,0)) [],.cells sS ((Z,(aA,(aB,(aC,((some (4,(aI.length))),(aE.1,(aE.2.1,()))))))),(aF,((some 5),()))) [(3,2),(6,3)],.grow 9 1 (aC.length),.grow 149 2 (aE.2.1.length),.row 9 .str aI (aI.length),.map .str .bool aK]⟩
def aEJ:List pD→List pC→Option pJ:=qP (V:=((List UInt8)×(List UInt8)×(List UInt8)×(List UInt8)×(List (List UInt8))×Nat×(Int×((List pV)×Unit))×Bool×Nat×Nat×(List (List UInt8))×Nat×(List ((List UInt8)×Bool)))) (fun x=>a4K x.1) (fun x=>a4L x.2.1 x.2.2.1 x.2.2.2.1 x.2.2.2.2.1 x.2.2.2.2.2.1 x.2.2.2.2.2.2.1 x.2.2.2.2.2.2.2.1 x.2.2.2.2.2.2.2.2.1 x.2.2.2.2.2.2.2.2.2.1 x.2.2.2.2.2.2.2.2.2.2.1 x.2.2.2.2.2.2.2.2.2.2.2.1 x.2.2.2.2.2.2.2.2.2.2.2.2) fun x=>a4M x.1 x.2.1 x.2.2.1 x.2.2.2.1 x.2.2.2.2.1 x.2.2.2.2.2.1 x.2.2.2.2.2.2.1 x.2.2.2.2.2.2.2.1 x.2.2.2.2.2.2.2.2.1 x.2.2.2.2.2.2.2.2.2.1 x.2.2.2.2.2.2.2.2.2.2.1 x.2.2.2.2.2.2.2.2.2.2.2.1 x.2.2.2.2.2.2.2.2.2.2.2.2
@[go_sem] theorem aSE:aEJ (no_index (a4K O)) (no_index (a4L Z aA aB aC aD aE aF aG aH aI aJ aK))=some (a4M O Z aA aB aC aD aE aF aG aH aI aJ aK):=qQ (fun⟨a0,a1,a2,a3,a4,a5,a6,a7,a8,a9,a10,a11,a12⟩ ⟨b0,b1,b2,b3,b4,b5,b6,b7,b8,b9,b10,b11,b12⟩ h1 h2=>by cases h1;cases h2;rfl) (O,Z,aA,aB,aC,aD,aE,aF,aG,aH,aI,aJ,aK)
end
@[go_sem] abbrev a4N:Nat×qC:=(258,⟨[.v,.p .ref []],aEJ,[(0,0,.p sS [3,6]),(1,4,.r),(1,8,.m)],[0,1,2,3,4,5],none⟩)
theorem aEK:qG Tryz.prog [] (qE [VF]):=⟨trivial,pM aED qS,qI⟩
theorem aEL:qG Tryz.prog [uW,DR,M9,C5] (qE [VF]):=⟨⟨vJ,⟨GB,⟨UR,⟨DQ,trivial⟩⟩⟩⟩,aEK.Γ,qI⟩
theorem aMS:qJ Tryz.prog a4N:=by
 refine qR aEK Tryz.func258 (c:=_) rfl (N:=11) (by kernel_rfl) (ts:=[(3,none)]) rfl (fun _ _=>rfl) ?_;intro⟨O,Z,aA,aB,aC,aD,aE,aF,aG,aH,aI,aJ,aK⟩ hs hrow;dsimp only[a4K,a4L,a4M,qM,pN,pW,qH,qO,Nat.reduceAdd] at hs hrow⊢;obtain⟨rfl,rfl,rfl,hz⟩:=hs;obtain⟨rfl,_⟩:=hrow;obtain⟨z0,hC0⟩:=aTF.1 hz
 try rw[r8 hC0]
 clear hz;unfold MV at hC0;refine pB aEL ?_;obtain⟨aL,hv1,hw1,hC0⟩:=pZ hC0
 try simp only[go_sem] at hw1
 refine pB aEL ?_ (hp:=by exact⟨fun _=>by first|exact rfl|exact trivial,(pY hv1)⟩) (h:=by simp only[go_sem,hw1];rfl)
 refine pK ?_;cases hC0;exact⟨[(0,0),(1,1),(2,2),(3,3),(4,4),(5,5)],by rfl,by rfl,by rfl⟩
attribute [irreducible] MV
def Q9 (O:(List UInt8)) (Z:Int):(Int×Int)→Option ((Int×Int)⊕(Int⊕Int)):=fun(aA,aB)=>if (decide (aB<(O.length:Int)))=true then if 0≤aB∧aB<(O.length:Int) then (VA (pR O aB) Z).bind fun aC=>if (decide (aC<(0:Int)))=true then some (.inr (.inr ((-1:Int)))) else if pE (Z*aA) then if pE ((Z*aA)+aC) then if pE (aB+(1:Int)) then some (.inl (((Z*aA)+aC),(aB+(1:Int)))) else none else none else none else none else some (.inr (.inl aA))
def KB (O:(List UInt8)) (Z:Int):Option Int:=rW (qB (Q9 O Z) ((0:Int),(0:Int))) fun aA=>if (decide (O=([]:List UInt8)))=true then some ((-1:Int)) else some (aA)
attribute [irreducible] KB
def I8 (O:(List Int)) (Z:Int):Option (List Int):=if (decide ((IntKind.wrap .u32 Z)≤(127:Int)))=true then if (O.length+([(IntKind.wrap .u8 Z)]:List Int).length)*1≤140737488355328 then some ((O++([(IntKind.wrap .u8 Z)]:List Int))) else none else (K2 O Z).bind fun aA=>some (aA)
section
variable (O:(List Int)) (Z:Int) (aA:Nat)
abbrev a4O:List pD:=[(.val (.list (.int .u8)) O,some 0),(.val (.int .i32) Z,none)]
abbrev a4P:List pC:=[.grow 5 1 aA]
@[go_sem] def a4Q:pJ:=⟨[aA=(O.length),((I8 O Z)).isSome=true],[(.val (.list (.int .u8)) (val (I8 O Z)),some 0)],[.grow 5 1 ((val (I8 O Z)).length)]⟩
def aEM:List pD→List pC→Option pJ:=qP (V:=((List Int)×Int×Nat)) (fun x=>a4O x.1 x.2.1) (fun x=>a4P x.2.2) fun x=>a4Q x.1 x.2.1 x.2.2
@[go_sem] theorem aSF:aEM (no_index (a4O O Z)) (no_index (a4P aA))=some (a4Q O Z aA):=qQ (fun⟨a0,a1,a2⟩ ⟨b0,b1,b2⟩ h1 h2=>by cases h1;cases h2;rfl) (O,Z,aA)
end
@[go_sem] abbrev aEN:Nat×qC:=(297,⟨[.own,.v],aEM,[],[],none⟩)
theorem QA:qG Tryz.prog [DP,M7,EY,UQ] (qE [aD3]):=⟨⟨GA,⟨UL,⟨HT,⟨aCq,trivial⟩⟩⟩⟩,pM aMA qS,qI⟩
theorem aMT:qJ Tryz.prog aEN:=by
 refine qR QA Tryz.func297 (c:=_) rfl (N:=16) (by kernel_rfl) (ts:=[(4,none)]) rfl (fun _ _=>rfl) ?_;intro⟨O,Z,aA⟩ hs hrow;dsimp only[a4O,a4P,a4Q,qM,pN,pW,qH,qO,Nat.reduceAdd] at hs hrow⊢;obtain⟨rfl,hz⟩:=hs;obtain⟨z0,hC0⟩:=aTF.1 hz
 try rw[r8 hC0]
 clear hz;unfold I8 at hC0;refine pB QA ?_;refine pP ?_;refine pB QA ?_;refine pO hC0 (fun hC0 hc1=> ?_) (fun hC0 hc1=> ?_)
 ·obtain⟨hg1,hC0⟩:=pI hC0;refine pB QA ?_ (hp:=by exact⟨by first|rfl|trivial,hg1⟩)
  refine pK (qW ?_);cases hC0;exact⟨[(0,0)],by rfl,by rfl,by rfl⟩
 ·refine qD (pL ?_);obtain⟨aB,hv2,hw2,hC0⟩:=pZ hC0
  try simp only[go_sem] at hw2
  refine pB QA ?_ (hp:=by exact⟨by first|rfl|trivial,(pY hv2)⟩) (h:=by simp only[go_sem,hw2];rfl)
  refine pK ?_;cases hC0;exact⟨[(0,0)],by rfl,by rfl,by rfl⟩
attribute [irreducible] I8
def I9 (O:(List pV)) (Z:(List UInt8)) (aA:(List UInt8)):Option (List pV):=(I2 O).bind fun aB=>(GO aB Z).bind fun aC=>if (decide ((0:Int)≤aC))=true then if 0≤aC∧aC<(((aB.length):Nat):Int) then some ((List.set aB (Int.toNat aC) ((pU (.pair .str (.pair .str .unit)) aB aC).1,(aA,(pU (.pair .str (.pair .str .unit)) aB aC).2.2)))) else none else (MN aB Z).bind fun aD=>if (decide (aD<(0:Int)))=true then if 0≤(((aB.length):Nat):Int)∧(((aB.length):Nat):Int)≤List.length aB then if (aB.length+([(Z,(aA,()))]:List pV).length)*32≤140737488355328 then some ((BC aB (((aB.length):Nat):Int) ([(Z,(aA,()))]:List pV))) else none else none else if 0≤aD∧aD≤List.length aB then if (aB.length+([(Z,(aA,()))]:List pV).length)*32≤140737488355328 then some ((BC aB aD ([(Z,(aA,()))]:List pV))) else none else none
section
variable (O:(List pV)) (Z:(List UInt8)) (aA:(List UInt8))
abbrev a4R:List pD:=[(.val (.list (.pair .str (.pair .str .unit))) O,none),(.val .str Z,none),(.val .str aA,none)]
abbrev a4S:List pC:=[]
@[go_sem] def a4T:pJ:=⟨[((I9 O Z aA)).isSome=true],[(.val (.list (.pair .str (.pair .str .unit))) (val (I9 O Z aA)),some 0)],[.grow 149 2 ((val (I9 O Z aA)).length)]⟩
def aEO:List pD→List pC→Option pJ:=qP (V:=((List pV)×(List UInt8)×(List UInt8))) (fun x=>a4R x.1 x.2.1 x.2.2) (fun x=>a4S) fun x=>a4T x.1 x.2.1 x.2.2
@[go_sem] theorem aSG:aEO (no_index (a4R O Z aA)) (no_index a4S)=some (a4T O Z aA):=qQ (fun⟨a0,a1,a2⟩ ⟨b0,b1,b2⟩ h1 h2=>by cases h1;cases h2;rfl) (O,Z,aA)
end
@[go_sem] abbrev a4U:Nat×qC:=(194,⟨[.v,.v,.v],aEO,[],[],none⟩)
theorem CY:qG Tryz.prog [rP,UN,C3] (qE [aD1,a4A,aD7,aCt]):=⟨⟨rQ,⟨aCn,⟨DO,trivial⟩⟩⟩,pM aMz (pM aEF (pM aMC (pM aL9 qS))),qI⟩
theorem aMU:qJ Tryz.prog a4U:=by
 refine qR CY Tryz.func194 (c:=_) rfl (N:=37) (by kernel_rfl) (ts:=[(6,none)]) rfl (fun _ _=>rfl) ?_;intro⟨O,Z,aA⟩ hs hrow;dsimp only[a4R,a4S,a4T,qM,pN,pW,qH,qO,Nat.reduceAdd] at hs hrow⊢;have hz:=hs;obtain⟨z0,hC0⟩:=aTF.1 hz
 try rw[r8 hC0]
 clear hz hs;unfold I9 at hC0;refine pB CY ?_;obtain⟨aB,hv1,hw1,hC0⟩:=pZ hC0
 try simp only[go_sem] at hw1
 refine pB CY ?_ (hp:=by exact(pY hv1)) (h:=by simp only[go_sem,hw1];rfl);refine pP ?_;obtain⟨aC,hv2,hw2,hC0⟩:=pZ hC0
 try simp only[go_sem] at hw2
 refine pB CY ?_ (hp:=by exact⟨fun _=>by first|exact rfl|exact trivial,(pY hv2)⟩) (h:=by simp only[go_sem,hw2];rfl)
 refine pB CY ?_;refine pO hC0 (fun hC0 hc1=> ?_) (fun hC0 hc1=> ?_)
 ·obtain⟨hg3,hC0⟩:=pI hC0;refine pB CY ?_ (hp:=by exact⟨hg3,(by first|rfl|trivial)⟩)
  refine pB CY ?_;refine a0j 96 rfl (by repeat' (first|exact trivial|apply And.intro|exact(fun _=>rfl) |exact(fun h=>absurd h (by decide)))) ?_
  refine pK (qW ?_);cases hC0;exact⟨[(0,96)],by rfl,by rfl,by rfl⟩
 ·refine qD (pL ?_);obtain⟨aD,hv4,hw4,hC0⟩:=pZ hC0
  try simp only[go_sem] at hw4
  refine pB CY ?_ (hp:=by exact⟨by first|rfl|trivial,fun _=>by first|exact rfl|exact trivial,(pY hv4)⟩) (h:=by simp only[go_sem,hw4];rfl)
  refine pP ?_;refine pB CY ?_;refine pO hC0 (fun hC0 hc2=> ?_) (fun hC0 hc2=> ?_)
  ·refine qU CY ?_;refine pL ?_;obtain⟨hg5,hC0⟩:=pI hC0;obtain⟨hg6,hC0⟩:=pI hC0;refine pB CY ?_ (hp:=by exact⟨by first|rfl|trivial,hg5,hg6⟩)
   refine aBO ⟨[0,1,2,4,6,10,13,14,8,15,16,24,25,9,26,27,29,31,32,33,34,35,36],[(0,0),(32,32),(96,96),(800,800)]⟩ ?_;simp only[go_sem,Nat.max_def];refine a0j 96 rfl (by repeat' (first|exact trivial|apply And.intro|exact(fun _=>rfl) |exact(fun h=>absurd h (by decide)))) ?_
   refine pK ?_;cases hC0;exact⟨[(0,96)],by rfl,by rfl,by rfl⟩
  ·refine qD (pL ?_);obtain⟨hg7,hC0⟩:=pI hC0;obtain⟨hg8,hC0⟩:=pI hC0;refine pB CY ?_ (hp:=by exact⟨by first|rfl|trivial,hg7,hg8⟩)
   refine aBO ⟨[0,1,2,4,6,10,13,14,8,15,16,24,25,9,26,27,31,32,33,34,35,36],[(0,0),(32,32),(96,96),(704,704)]⟩ ?_;simp only[go_sem,Nat.max_def];refine a0j 96 rfl (by repeat' (first|exact trivial|apply And.intro|exact(fun _=>rfl) |exact(fun h=>absurd h (by decide)))) ?_
   refine pK ?_;cases hC0;exact⟨[(0,96)],by rfl,by rfl,by rfl⟩
attribute [irreducible] I9
def C9 (O:qZ) (Z:qZ):Option Unit:=(MQ O Z).bind fun aA=>if (((((decide (O.1=Z.1))&&(val (vL O.2.1 Z.2.1)))&&(val (yF O.2.2.1 Z.2.2.1)))==true)=true→((C7 O.2.2.2.1 Z.2.2.2.1)).isSome=true) then some (()) else none
section
variable (O:qZ) (Z:qZ)
abbrev a4V:List pD:=[(.val wH O,none),(.val wH Z,none)]
abbrev a4W:List pC:=[]
@[go_sem] def a4X:pJ:=⟨[((C9 O Z)).isSome=true],[(.val .bool ((((decide (O.1=Z.1))&&(val (vL O.2.1 Z.2.1)))&&(val (yF O.2.2.1 Z.2.2.1)))&&(val (C7 O.2.2.2.1 Z.2.2.2.1))),none)],[]⟩
def aEP:List pD→List pC→Option pJ:=qP (V:=(qZ×qZ)) (fun x=>a4V x.1 x.2) (fun x=>a4W) fun x=>a4X x.1 x.2
@[go_sem] theorem aSH:aEP (no_index (a4V O Z)) (no_index a4W)=some (a4X O Z):=qQ (fun⟨a0,a1⟩ ⟨b0,b1⟩ h1 h2=>by cases h1;cases h2;rfl) (O,Z)
end
@[go_sem] abbrev aEQ:Nat×qC:=(18,⟨[.v,.v],aEP,[],[],none⟩)
theorem a4Y:qG Tryz.prog [DN,zR] (qE [aEh,aEj]):=⟨⟨G8,⟨BD,trivial⟩⟩,pM aMH (pM aMI qS),qI⟩
theorem aMV:qJ Tryz.prog aEQ:=by
 refine qR a4Y Tryz.func18 (c:=_) rfl (N:=15) (by kernel_rfl) (ts:=[(4,none)]) rfl (fun _ _=>rfl) ?_;intro⟨O,Z⟩ hs hrow;dsimp only[a4V,a4W,a4X,qM,pN,pW,qH,qO,Nat.reduceAdd] at hs hrow⊢;have hz:=hs;obtain⟨z0,hC0⟩:=aTF.1 hz
 try rw[r8 hC0]
 clear hz hs;unfold C9 at hC0;refine pB a4Y ?_;obtain⟨aA,hv1,hw1,hC0⟩:=pZ hC0
 try simp only[go_sem] at hw1
 obtain⟨hg2,hC0⟩:=pI hC0;refine pB a4Y ?_ (hp:=by exact⟨pY hv1,fun hh=>hh,fun hh=>hh,fun hh=>hh,fun hh=>hh,hg2,(fun hh=>rL hh)⟩) (h:=by simp only[go_sem,hw1];rfl);refine pK ?_;cases hC0;exact⟨[],by rfl,by rfl,by rfl⟩
attribute [irreducible] C9
end
end Go.Proofs.YtbbpilohihldiaaGreatDoor
