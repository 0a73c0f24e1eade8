/- Packed by a program of mine (wip/tools/pack.py): the same texts with short names and few blanks. -/
import Derived.KernelRfl
import Derived.Lib.Hide
import Derived.Lib.MapLaws
import Derived.Lib.TrimAscii
import Derived.Lib.TrimUEq
import Derived.Lib.ValidLaws
import Derived.LoopIn
import Derived.LoopNIn
import Derived.OwnWalkIn
import Derived.RangeFuncBox
import Derived.RangeFuncLeaves
import Derived.Shelf.Abstract
import Derived.Shelf.Slices.Clone
import Derived.Shelf.Slices.In.SortNone
import Derived.Shelf.Small.Strs
import Derived.Shelf.Small.Utf8
import Derived.Shelf.Sort.Plain
import Derived.Shelf.Spec.SlicesInsertGrow
import Derived.Shelf.Strings.Builder1
import Derived.Shelf.Strings.Runes
import Derived.Shelf.Strings.Search1
import Derived.Shelf.Strings.Search3
import Derived.Shelf.Strings.SlTrimAscii
import Derived.Shelf.Strings.Trim
import Derived.Shelf.Unicode.DecodeAny
import Derived.Shelf.Unicode.ValidAny
import Derived.TacticsInMore
import Derived.Test.YtbbpilohihldiaaGreatDoorChecked
import Derived.Test.YtbbpilohihldiaaGreatDoorProg
import Derived.WalkKit
import Derived.Test.YtbbpilohihldiaaGreatDoorZ01
set_option linter.unusedVariables false
set_option linter.unusedSimpArgs false
set_option linter.unusedSectionVars false
set_option maxRecDepth 100000
set_option maxHeartbeats 4000000
namespace Go.Proofs
open Go.RowKit Go.Lib
def Tryz.lays137_ren:Go.Shelf.Ren:=⟨fun|137=>135|217=>182|266=>222|n=>n,fun|9=>9|5=>5|3=>3|n=>n,fun|n=>n⟩
theorem Tryz.lays137:Go.Proofs.Lays.n137 Tryz.prog Tryz.lays137_ren:={
 mixed:=by kernel_rfl
 f137:=Tryz.func135.trans (aNs some (by kernel_rfl))
 f217:=Tryz.func182.trans (aNs some (by kernel_rfl))
 f266:=Tryz.func222.trans (aNs some (by kernel_rfl))
 t3:=Tryz.underlying3
 a3:=Tryz.isAgg3
 z3:=Tryz.sizeOf3
 v3:=Tryz.zeroValue3
 t5:=Tryz.underlying5
 a5:=Tryz.isAgg5
 z5:=Tryz.sizeOf5
 v5:=Tryz.zeroValue5
 t9:=Tryz.underlying9
 a9:=Tryz.isAgg9
 z9:=Tryz.sizeOf9
 v9:=Tryz.zeroValue9}
def Tryz.lays190_ren:Go.Shelf.Ren:=⟨fun|190=>147|125=>192|258=>191|128=>234|129=>235|302=>225|303=>226|304=>227|305=>228|306=>229|307=>230|308=>231|309=>232|310=>233|333=>261|329=>262|330=>263|334=>264|335=>265|336=>266|344=>279|n=>n,fun|31=>23|9=>9|3=>3|46=>219|0=>0|51=>241|53=>243|4=>4|183=>235|182=>234|131=>57|5=>5|218=>258|222=>262|228=>272|229=>224|n=>n,fun|n=>n⟩
theorem Tryz.lays190:Go.Proofs.Lays.n190 Tryz.prog Tryz.lays190_ren:={
 mixed:=by kernel_rfl
 f125:=Tryz.func192.trans (aNs some (by kernel_rfl))
 f128:=Tryz.func234.trans (aNs some (by kernel_rfl))
 f129:=Tryz.func235.trans (aNs some (by kernel_rfl))
 f190:=Tryz.func147.trans (aNs some (by kernel_rfl))
 f258:=Tryz.func191.trans (aNs some (by kernel_rfl))
 f302:=Tryz.func225.trans (aNs some (by kernel_rfl))
 f303:=Tryz.func226.trans (aNs some (by kernel_rfl))
 f304:=Tryz.func227.trans (aNs some (by kernel_rfl))
 f305:=Tryz.func228.trans (aNs some (by kernel_rfl))
 f306:=Tryz.func229.trans (aNs some (by kernel_rfl))
 f307:=Tryz.func230.trans (aNs some (by kernel_rfl))
 f308:=Tryz.func231.trans (aNs some (by kernel_rfl))
 f309:=Tryz.func232.trans (aNs some (by kernel_rfl))
 f310:=Tryz.func233.trans (aNs some (by kernel_rfl))
 f329:=Tryz.func262.trans (aNs some (by kernel_rfl))
 f330:=Tryz.func263.trans (aNs some (by kernel_rfl))
 f333:=Tryz.func261.trans (aNs some (by kernel_rfl))
 f334:=Tryz.func264.trans (aNs some (by kernel_rfl))
 f335:=Tryz.func265.trans (aNs some (by kernel_rfl))
 f336:=Tryz.func266.trans (aNs some (by kernel_rfl))
 f344:=Tryz.func279.trans (aNs some (by kernel_rfl))
 t0:=Tryz.underlying0
 a0:=Tryz.isAgg0
 z0:=Tryz.sizeOf0
 v0:=Tryz.zeroValue0
 t3:=Tryz.underlying3
 a3:=Tryz.isAgg3
 z3:=Tryz.sizeOf3
 v3:=Tryz.zeroValue3
 t4:=Tryz.underlying4
 a4:=Tryz.isAgg4
 z4:=Tryz.sizeOf4
 v4:=Tryz.zeroValue4
 t5:=Tryz.underlying5
 a5:=Tryz.isAgg5
 z5:=Tryz.sizeOf5
 v5:=Tryz.zeroValue5
 t9:=Tryz.underlying9
 a9:=Tryz.isAgg9
 z9:=Tryz.sizeOf9
 v9:=Tryz.zeroValue9
 t31:=Tryz.underlying23
 a31:=Tryz.isAgg23
 z31:=Tryz.sizeOf23
 v31:=Tryz.zeroValue23
 t46:=Tryz.underlying219
 a46:=Tryz.isAgg219
 z46:=Tryz.sizeOf219
 v46:=Tryz.zeroValue219
 t51:=Tryz.underlying241
 a51:=Tryz.isAgg241
 z51:=Tryz.sizeOf241
 v51:=Tryz.zeroValue241
 t53:=Tryz.underlying243
 a53:=Tryz.isAgg243
 z53:=Tryz.sizeOf243
 v53:=Tryz.zeroValue243
 t131:=Tryz.underlying57
 a131:=Tryz.isAgg57
 z131:=Tryz.sizeOf57
 v131:=Tryz.zeroValue57
 t182:=Tryz.underlying234
 a182:=Tryz.isAgg234
 z182:=Tryz.sizeOf234
 v182:=Tryz.zeroValue234
 t183:=Tryz.underlying235
 a183:=Tryz.isAgg235
 z183:=Tryz.sizeOf235
 v183:=Tryz.zeroValue235
 t218:=Tryz.underlying258
 a218:=Tryz.isAgg258
 z218:=Tryz.sizeOf258
 v218:=Tryz.zeroValue258
 t222:=Tryz.underlying262
 a222:=Tryz.isAgg262
 z222:=Tryz.sizeOf262
 v222:=Tryz.zeroValue262
 t228:=Tryz.underlying272
 a228:=Tryz.isAgg272
 z228:=Tryz.sizeOf272
 v228:=Tryz.zeroValue272
 t229:=Tryz.underlying224
 a229:=Tryz.isAgg224
 z229:=Tryz.sizeOf224
 v229:=Tryz.zeroValue224}
def Tryz.lays196_ren:Go.Shelf.Ren:=⟨fun|196=>243|259=>271|n=>n,fun|0=>0|3=>3|4=>4|5=>5|9=>9|12=>12|46=>219|53=>243|119=>254|138=>256|139=>257|n=>n,fun|3=>1|4=>2|n=>n⟩
theorem Tryz.lays196:Go.Proofs.Lays.n196 Tryz.prog Tryz.lays196_ren:={
 mixed:=by kernel_rfl
 f196:=Tryz.func243.trans (aNs some (by kernel_rfl))
 f259:=Tryz.func271.trans (aNs some (by kernel_rfl))
 t0:=Tryz.underlying0
 a0:=Tryz.isAgg0
 z0:=Tryz.sizeOf0
 v0:=Tryz.zeroValue0
 t3:=Tryz.underlying3
 a3:=Tryz.isAgg3
 z3:=Tryz.sizeOf3
 v3:=Tryz.zeroValue3
 t4:=Tryz.underlying4
 a4:=Tryz.isAgg4
 z4:=Tryz.sizeOf4
 v4:=Tryz.zeroValue4
 t5:=Tryz.underlying5
 a5:=Tryz.isAgg5
 z5:=Tryz.sizeOf5
 v5:=Tryz.zeroValue5
 t9:=Tryz.underlying9
 a9:=Tryz.isAgg9
 z9:=Tryz.sizeOf9
 v9:=Tryz.zeroValue9
 t12:=Tryz.underlying12
 a12:=Tryz.isAgg12
 z12:=Tryz.sizeOf12
 v12:=Tryz.zeroValue12
 t46:=Tryz.underlying219
 a46:=Tryz.isAgg219
 z46:=Tryz.sizeOf219
 v46:=Tryz.zeroValue219
 t53:=Tryz.underlying243
 a53:=Tryz.isAgg243
 z53:=Tryz.sizeOf243
 v53:=Tryz.zeroValue243
 t119:=Tryz.underlying254
 a119:=Tryz.isAgg254
 z119:=Tryz.sizeOf254
 t138:=Tryz.underlying256
 a138:=Tryz.isAgg256
 z138:=Tryz.sizeOf256
 v138:=Tryz.zeroValue256
 t139:=Tryz.underlying257
 a139:=Tryz.isAgg257
 z139:=Tryz.sizeOf257
 v139:=Tryz.zeroValue257
 g3:=by kernel_rfl
 g4:=by kernel_rfl}
def Tryz.lays143_ren:Go.Shelf.Ren:=⟨fun|143=>173|219=>208|217=>182|225=>248|224=>249|267=>250|266=>222|314=>276|n=>n,fun|9=>9|3=>3|4=>4|5=>5|46=>219|146=>270|51=>241|n=>n,fun|1=>0|n=>n⟩
theorem Tryz.lays143:Go.Proofs.Lays.n143 Tryz.prog Tryz.lays143_ren:={
 mixed:=by kernel_rfl
 f143:=Tryz.func173.trans (aNs some (by kernel_rfl))
 f217:=Tryz.func182.trans (aNs some (by kernel_rfl))
 f219:=Tryz.func208.trans (aNs some (by kernel_rfl))
 f224:=Tryz.func249.trans (aNs some (by kernel_rfl))
 f225:=Tryz.func248.trans (aNs some (by kernel_rfl))
 f266:=Tryz.func222.trans (aNs some (by kernel_rfl))
 f267:=Tryz.func250.trans (aNs some (by kernel_rfl))
 f314:=Tryz.func276.trans (aNs some (by kernel_rfl))
 t3:=Tryz.underlying3
 a3:=Tryz.isAgg3
 z3:=Tryz.sizeOf3
 v3:=Tryz.zeroValue3
 t4:=Tryz.underlying4
 a4:=Tryz.isAgg4
 z4:=Tryz.sizeOf4
 v4:=Tryz.zeroValue4
 t5:=Tryz.underlying5
 a5:=Tryz.isAgg5
 z5:=Tryz.sizeOf5
 v5:=Tryz.zeroValue5
 t9:=Tryz.underlying9
 a9:=Tryz.isAgg9
 z9:=Tryz.sizeOf9
 v9:=Tryz.zeroValue9
 t46:=Tryz.underlying219
 a46:=Tryz.isAgg219
 z46:=Tryz.sizeOf219
 v46:=Tryz.zeroValue219
 t51:=Tryz.underlying241
 a51:=Tryz.isAgg241
 z51:=Tryz.sizeOf241
 v51:=Tryz.zeroValue241
 t146:=Tryz.underlying270
 a146:=Tryz.isAgg270
 z146:=Tryz.sizeOf270
 v146:=Tryz.zeroValue270
 g1:=by kernel_rfl}
def Tryz.lays240_ren:Go.Shelf.Ren:=⟨fun|240=>93|276=>133|n=>n,fun|0=>0|4=>4|9=>9|20=>20|70=>82|72=>84|164=>168|37=>42|n=>n,fun|n=>n⟩
theorem Tryz.lays240:Go.Proofs.Lays.n240 Tryz.prog Tryz.lays240_ren:={
 mixed:=by kernel_rfl
 f240:=Tryz.func93.trans (aNs some (by kernel_rfl))
 f276:=Tryz.func133.trans (aNs some (by kernel_rfl))
 t0:=Tryz.underlying0
 a0:=Tryz.isAgg0
 z0:=Tryz.sizeOf0
 v0:=Tryz.zeroValue0
 t4:=Tryz.underlying4
 a4:=Tryz.isAgg4
 z4:=Tryz.sizeOf4
 v4:=Tryz.zeroValue4
 t9:=Tryz.underlying9
 a9:=Tryz.isAgg9
 z9:=Tryz.sizeOf9
 v9:=Tryz.zeroValue9
 t20:=Tryz.underlying20
 a20:=Tryz.isAgg20
 z20:=Tryz.sizeOf20
 v20:=Tryz.zeroValue20
 t70:=Tryz.underlying82
 a70:=Tryz.isAgg82
 z70:=Tryz.sizeOf82
 v70:=Tryz.zeroValue82
 t72:=Tryz.underlying84
 a72:=Tryz.isAgg84
 z72:=Tryz.sizeOf84
 v72:=Tryz.zeroValue84
 t164:=Tryz.underlying168
 a164:=Tryz.isAgg168
 z164:=Tryz.sizeOf168
 v164:=Tryz.zeroValue168}
theorem Tryz.builderX72:Builder.X72 Tryz.prog Tryz.lays240_ren:={
 sizeBuilder:=by kernel_rfl
 liesBuilder:=by kernel_rfl}
def Tryz.lays169_ren:Go.Shelf.Ren:=⟨fun|169=>54|n=>n,fun|70=>82|9=>9|0=>0|72=>84|37=>42|127=>125|3=>3|5=>5|n=>n,fun|n=>n⟩
theorem Tryz.lays169:Go.Proofs.Lays.n169 Tryz.prog Tryz.lays169_ren:={
 mixed:=by kernel_rfl
 f169:=Tryz.func54.trans (aNs some (by kernel_rfl))
 t0:=Tryz.underlying0
 a0:=Tryz.isAgg0
 z0:=Tryz.sizeOf0
 v0:=Tryz.zeroValue0
 t3:=Tryz.underlying3
 a3:=Tryz.isAgg3
 z3:=Tryz.sizeOf3
 v3:=Tryz.zeroValue3
 t9:=Tryz.underlying9
 a9:=Tryz.isAgg9
 z9:=Tryz.sizeOf9
 v9:=Tryz.zeroValue9
 t37:=Tryz.underlying42
 a37:=Tryz.isAgg42
 z37:=Tryz.sizeOf42
 v37:=Tryz.zeroValue42
 t70:=Tryz.underlying82
 a70:=Tryz.isAgg82
 z70:=Tryz.sizeOf82
 v70:=Tryz.zeroValue82
 t72:=Tryz.underlying84
 a72:=Tryz.isAgg84
 z72:=Tryz.sizeOf84
 v72:=Tryz.zeroValue84
 t127:=Tryz.underlying125
 a127:=Tryz.isAgg125
 z127:=Tryz.sizeOf125
 v127:=Tryz.zeroValue125}
theorem Tryz.builderExtra:Builder.Extra Tryz.prog Tryz.lays169_ren:={
 sizeBuilder:=by kernel_rfl
 liesBuilder:=by kernel_rfl
 t5:=Tryz.underlying5
 a5:=Tryz.isAgg5
 z5:=Tryz.sizeOf5
 v5:=Tryz.zeroValue5
 infoByte:=by kernel_rfl
 cellsByte:=by kernel_rfl
 sizeByte:=by kernel_rfl
 neB5:=by decide}
end Go.Proofs
namespace Go.Proofs.YtbbpilohihldiaaGreatDoor
open Vc Go.RowKit
theorem aF5 {g:Gh}{w w':World}(hH:rH g w (pG 0 [])) (hb:Below w.heap.size w w'):rH g w' (pG 0 []):=
 ⟨fun _ _ h=>(by cases h),fun _ _ _ _ _ _ _ h=>(by cases h),fun b o h=>aNm (hH.sl b o h) hb.size,⟨LP hH.tab.1 hb.size fun b h=>hb.block b (aNm h hH.tab.1.1),fun _ _ _ _ h=>(by cases h)⟩⟩
theorem XG {P:Program}{f:FuncId}{C:List oZ->List oX->Option pD}(hen: ∀args w,(callFunc f args).run P w= .ok (.enter f args) w)
  (h: ∀(g:Gh) (w:World) (args:List oZ) (vals:List Value) (L:List oX) (r:pD),H6 w->uB g w args vals->C args L=some r->(∀p∈r.side,p)->
   L=[]/\r.H=[]/\Calls P f vals.toArray w (fun e w'=> ∃v,e= .returned v/\Below w.heap.size w w'/\MQ g w' r.ret v)):B7 P f C:=by
 refine⟨hen,fun g w args vals L r hH ha hC hs=> ?_⟩;obtain⟨rfl,hr,hc⟩:=h g w args vals L r hH.tab.1 ha hC hs;refine hc.mono fun e w' ⟨v,he,hb,hv⟩=>⟨v,g,he,⟨fun b o h=>⟨h,hb.cell (p:=⟨b,o,none⟩) (hH.sl b o h)⟩,by rw[hr];exact aF5 hH hb,hv,⟨hb.os,hb.tape,hb.output,hb.size,fun b h _=>hb.block b h,fun b o h _=>⟨hb.cell (p:=⟨b,o,none⟩) h,hb.frozen (p:=⟨b,o,none⟩) h⟩,fun b o h=> .inl h,fun b s h=> .inl ((CI (hb.block b (CH h))).trans h)⟩,(fun i blk b o h=>by rw[hr] at h;cases h),(fun i t x ts h=>by cases h),(fun i t x ts u y us h=>by cases h),(fun _ _ _ h=>h),(fun _ _ _ _ h=>h)⟩⟩
theorem a8h {P:Program}{f:FuncId}{vals:Array Value}{w:World}{Q:Ending->Prop}(h:Calls P f vals w fun e w'=>Q e/\w'=w):Calls P f vals w fun e w'=>Q e/\Below w.heap.size w w':=
 h.mono fun e w' ⟨h1,h2⟩=>⟨h1,by rw[h2];exact Below.refl _ _⟩
def tH (s:List UInt8) (c:Int):Int:=Lib.indexByte s (Int.toNat c).toUInt8
@[go_sem] def XH:List oZ->List oX->Option pD
 |[(.val .str O,none),(.val (.int .u8) Z,none)],[]=>some ⟨[],[(.val (.int .i64) (tH O Z),none)],[]⟩
 |_,_=>none
theorem aF6:B7 Tryz.prog 135 XH:=by
 refine XG (fun _ _=>rfl) fun g w args vals L r hT ha hC hs=> ?_;unfold XH at hC;split at hC
 ·rename_i s c;cases hC;obtain⟨va,_,rfl,ra,vb,_,rfl,rb,hv⟩:=ha;obtain rfl:=xR ra.1;obtain rfl:=vC rb.1;cases hv;exact⟨rfl,rfl,(a8h (Any.strings_IndexByte Tryz.lays137 ⟨List.toArray s⟩ c w)).mono fun e w' ⟨he,hb⟩=>⟨_,he,hb,uY _ _ _ _,trivial⟩⟩
 ·cases hC
@[go_sem] def XI:List oZ->List oX->Option pD
 |[(.val .str O,none)],[]=>some ⟨[List.length O<=9223372036854775807],[(.val .bool (Lib.validD O),none)],[]⟩
 |_,_=>none
theorem aF7:B7 Tryz.prog 243 XI:=by
 refine XG (fun _ _=>rfl) fun g w args vals L r hT ha hC hs=> ?_;unfold XI at hC;split at hC
 ·rename_i s;cases hC;have h1:=hs _ aNf;obtain⟨va,_,rfl,ra,hv⟩:=ha;obtain rfl:=xR ra.1;cases hv;exact⟨rfl,rfl,(Any.utf8_ValidString Tryz.lays196 ⟨List.toArray s⟩ w h1 hT.2.1).mono fun e w' ⟨he,hb⟩=>⟨_,he,hb,uZ _ _ _,trivial⟩⟩
 ·cases hC
@[go_sem] def noC:List oZ->List oX->Option pD:=fun _ _=>none
def vF (l:List (List UInt8)):List (List UInt8):=l.mergeSort fun x y=>decide (x<=y)
@[go_sem] def a8j:(t:Ty)->List t.den->Option (List t.den)
 | .str,l=>some (vF l)
 |_,_=>none
theorem a8k {g:Gh}{w:World}: ∀{l:List (List UInt8)}{xs:List Value},sC (Rd g w .str) 1 l xs->xs=l.map Go.Proofs.encStr
 |[],_,h=>h
 |_::_,_,⟨c1,c2,e,_,h2,h3⟩=>by rw[e,show c1=_ from h2,a8k h3];rfl
theorem a8l {g:Gh}{w:World}: ∀(l:List (List UInt8)),sC (Rd g w .str) 1 l (l.map Go.Proofs.encStr)
 |[]=>rfl
 |x::l=>⟨[.string ⟨x.toArray⟩],_,rfl,rfl,rfl,a8l l⟩
theorem aF8 (s:List (List UInt8)) (cur:Array Value) (h:s.length<=cur.size):(Go.Sort.putCells Go.Proofs.encStr 0 s.toArray cur).toList.take s.length=s.map Go.Proofs.encStr:=by
 apply List.ext_getElem
 ·simp [Go.Sort.putCells];omega
 ·intro i h1 h2;have hi:i<s.length:=by simpa using h2
  simp only[Go.Sort.putCells,List.getElem_take,Array.getElem_toList,Array.getElem_mapIdx,List.getElem_map];rw[aMI (by simp;exact hi)];simp [hi]
theorem aF9:B7 Tryz.prog 147 noC/\∀F,some a8j=some F->QL Tryz.prog 147 F:=by
 refine⟨⟨fun _ _=>rfl,fun g w args vals L r _ _ hC _=>by cases hC⟩,fun F hF=> ?_⟩;cases hF;intro g w e t l l' v n xs hT hown hF hl hn hf;cases t with
 |str=>
  have hf:vF l=l':=aML hf;subst hf;subst hl;have hlen:(vF l).length=l.length:=by simp [vF]
  obtain⟨hx,⟨rfl,h0⟩ |⟨b,cap,cur,rfl,hb0,hbk,hnc,hcm,hcs,htk⟩⟩:=hown
  ·obtain rfl:l=[]:=aOe.1 h0;refine(Any.slices_Sort_string_none Tryz.lays190 none 0 w).mono ?_;rintro en w' ⟨rfl,rfl⟩;exact⟨rfl,hlen,[],⟨rfl,.inl ⟨rfl,rfl⟩⟩,by simp [vF,sC],⟨rfl,rfl,rfl,aM2 _,fun _ _ _=>rfl⟩⟩
  ·have hxs:=a8k hF;subst hxs;have hc1:(Ty.str).cells=1:=rfl;rw[hc1,aON] at hcs htk;have hbl:b<w.heap.size:=by
    rcases aNV b w.heap.size with h|h
    ·exact h
    ·rw[Array.getElem?_eq_none h] at hbk;cases hbk
   have hH:Go.Sort.Holds Go.Proofs.encStr w b 0 l.toArray:=by
    intro j hj;have hj':j<l.length:=by simpa using hj
    refine⟨?_,Lib.frozen_of_heap hbk _⟩;rw[Lib.cell_of_heap hbk,aNd];have h2:(cur.toList.take l.length)[j]? =(l.map Go.Proofs.encStr)[j]? :=by rw[htk]
    rw[aOH hj',aNQ] at h2;rw[h2];simp [hj']
   refine(Any.slices_Sort_string Tryz.lays190 b 0 cap l w hH hbl hn).mono ?_;rintro en w' ⟨rfl,m,os,rfl⟩;have hsz:(vF l).length<=cur.size:=by rw[hlen,hcs];exact hnc
   have hnew:(Go.Sort.grow (Go.Sort.putRow Go.Proofs.encStr (Go.Sort.ahead w m) b 0 (vF l).toArray) os).heap[b]? =some (.cells (Go.Sort.putCells Go.Proofs.encStr 0 (vF l).toArray cur) e (0,0)):=by
    rw[Go.Sort.heap_grow_old _ _ (by simpa using hbl)];simp [Go.Sort.putRow,Go.Sort.mapBlock,aN8,hbk,Go.Sort.onCells]
   refine⟨rfl,hlen,(vF l).map Go.Proofs.encStr,⟨by simp [hlen,hc1],.inr ⟨b,cap,_,rfl,hb0,hnew,hnc,hcm,?_,?_⟩⟩,a8l _,⟨rfl,rfl,rfl,by simp,fun k hk hne=> ?_⟩⟩
   ·rw[hc1,aON];simpa[Go.Sort.putCells] using hcs
   ·rw[hc1,aON,<-hlen];exact aF8 _ _ hsz
   ·rw[Go.Sort.heap_grow_old _ _ (by simpa using hk)];have hkb:b≠k:=fun h=>hne (by rw[h];rfl);simp [Go.Sort.putRow,Go.Sort.mapBlock,aN8,hkb]
 |_=>cases hf
def K3 (s c:List UInt8):Int:=Lib.index s c
@[go_sem] def XJ:List oZ->List oX->Option pD
 |[(.val .str O,none),(.val .str Z,none)],[]=>some ⟨[List.length O<4294967281],[(.val (.int .i64) (K3 O Z),none)],[]⟩
 |_,_=>none
theorem aGa:B7 Tryz.prog 173 XJ:=by
 refine XG (fun _ _=>rfl) fun g w args vals L r hT ha hC hs=> ?_;unfold XJ at hC;split at hC
 ·rename_i s c;cases hC;have h1:=hs _ aNf;obtain⟨va,_,rfl,ra,vb,_,rfl,rb,hv⟩:=ha;obtain rfl:=xR ra.1;obtain rfl:=xR rb.1;cases hv;obtain⟨m,hm⟩:=hT.2.2.1;exact⟨rfl,rfl,(a8h (Any.strings_Index Tryz.lays143 ⟨List.toArray s⟩ ⟨List.toArray c⟩ m w h1 hm)).mono fun e w' ⟨he,hb⟩=>⟨_,he,hb,uY _ _ _ _,trivial⟩⟩
 ·cases hC
@[go_sem] def XK:List oZ->List oX->Option pD
 |[(.val .ref (some (0,0)),none)],[.cells (.pair .mref (.pair (.list (.int .u8)) .unit)) ((some (0,0)),O) [(1,1)],.grow Z 1 aA]=>some ⟨[aA=List.length O.1],[],[.cells (.pair .mref (.pair (.list (.int .u8)) .unit)) ((some (0,0)),O) [(1,1)],.grow Z 1 aA]⟩
 |_,_=>none
theorem aGb {g:Gh}{w:World}{L:List oX}{e:pC}{w':World}{u v:Value}{r:pD}(hE:qU g w (pG 0 L) e g w' u)
  (hH: ∀i,p9 (pG 0 r.H) i=p9 (pF e.upd (pG 0 L)) i) (hin: ∀i,i∈pB e.upd->i<L.length) (hlen:r.H.length=L.length)
  (hp: ∀i blk b o,r.H[i]? =some blk->qP g i blk b o->w.heap.size<=b\/xU g (pG 0 L) b o)
  (hty: ∀(i:Nat) t x ts u y us,L[i]? =some (.cells t x ts)->r.H[i]? =some (.cells u y us)->u=t)
  (hret:MQ g w' r.ret v):HV g w L r g w' v:=
 ⟨fun b o h=>⟨h,hE.le.cell b o h⟩,hE.heap.ext hH,hret,hE.fr.mono fun b o ⟨i,blk,_,h1,h2⟩=>⟨i,blk,h1,h2⟩,hp,fun _ _ _ _ _=>rfl,hty,fun _ _ _ h=>h,fun _ _ _ _ h=>h⟩
theorem aGc {P:Program}{ρ:Go.Shelf.Ren}(L:Lays.n240 P ρ) (X:Builder.X72 P ρ) {e:TypeId}(b:Nat) (w:World) (h0:w.cell? ⟨b,0,none⟩=some (.pointer none)) (hsh:w.shape? b=some (e,2)) (hl:liesAt P P.depth e (2/P.cellsOf e) 0 (ρ.t 72) 1=true) (hfz:w.frozen? ⟨b,0,none⟩=false):
  Calls P (ρ.f 240) #[.pointer (some ⟨b,0,none⟩)] w fun en w'=>en= .returned (.tuple #[])/\w'=w.setCell ⟨b,0,none⟩ (.pointer (some ⟨b,0,none⟩)):=by
 obtain⟨j,hj,hjs⟩:=aMZ.1 X.sizeBuilder;have mixed:=L.mixed;have t72:=L.t72;have a72:=L.a72;have z72:=L.z72;have v72:=L.v72;have u72:=aM3 L.t72;have t70:=L.t70;have a70:=L.a70;have z70:=L.z70;have v70:=L.v70;have u70:=aM3 L.t70;have t9:=L.t9;have a9:=L.a9;have z9:=L.z9;have v9:=L.v9;have u9:=aM3 L.t9;have t4:=L.t4;have a4:=L.a4;have z4:=L.z4;have v4:=L.v4;have u4:=aM3 L.t4;have t164:=L.t164;have a164:=L.a164;have z164:=L.z164;have v164:=L.v164;have u164:=aM3 L.t164
 go_enter L.f240,Body.n240_ntmps ρ
 go_wp2
 rw[Lib.run_to_unsafe w ⟨b,0,none⟩ L.t70 L.t164 hj (by rw[hjs];decide) hsh (Nat.zero_lt_succ 1)];simp only[Result.andThen];rw[Oper.upon_value]
 go_wp2
 rw[run_callFunc_extern L.f276 (by kernel_rfl) (by kernel_rfl) (by kernel_rfl) (e:=Extern.AbiNoEscape.same) (by kernel_rfl)];rw[Lib.run_noEscape];simp only[Result.andThen];rw[Oper.upon_value]
 go_wp2
 rw[Lib.run_from_unsafe w ⟨b,0,none⟩ L.t164 L.t70 hj hsh hl];simp only[Result.andThen];rw[Oper.upon_value]
 go_wp2
 go_end0
 exact⟨rfl,rfl⟩
theorem aGd:B7 Tryz.prog 93 XK:=by
 refine⟨fun _ _=>rfl,fun g w args vals L r hH ha hC hs=> ?_⟩;unfold XK at hC;split at hC
 ·rename_i O Z aA;cases hC;obtain⟨va,_,rfl,ra,hv⟩:=ha;cases hv;have hg0:p9 (pG 0 [oX.cells (.pair .mref (.pair (.list (.int .u8)) .unit)) ((some (0,0)),O) [(1,1)],.grow Z 1 aA]) 0=some (.cells (.pair .mref (.pair (.list (.int .u8)) .unit)) ((some (0,0)),O) [(1,1)]):=rfl;obtain⟨p,cs,hJ,hR,hra,hth,hns,htk⟩:=hH.blk 0 _ hg0;obtain⟨c1,c2,rfl,hR1,hR2⟩:=hR;obtain⟨p',hJ',⟨hp0,eb,heb,hk3⟩,hc1⟩:=hR1;rw[hJ] at hJ';obtain rfl:=aML hJ';obtain⟨b,o,k⟩:=p;have ho:o=0:=by simpa using hp0
  subst ho;have hlies:liesAt Tryz.prog Tryz.prog.depth eb (2/Tryz.prog.cellsOf eb) 0 84 1=true:=by
   unfold UF at heb;split at heb
   ·rename_i h;subst h;kernel_rfl
   ·split at heb
    ·rename_i h;subst h;kernel_rfl
    ·cases heb
  have hva:va= .pointer (some ⟨b,0,none⟩):=by
   obtain⟨q,hq,e⟩:=xT ra.1;rw[hJ] at hq;cases hq;exact e
  subst hva;have hsh:w.shape? b=some (eb,2):=hth.2 (by decide) _ hk3;rcases hc1 with rfl|rfl
  ·have h0:w.cell? ⟨b,0,none⟩=some (.pointer none)/\w.frozen? ⟨b,0,none⟩=false:=⟨hra 0 _ rfl,(hth.1 0 (by decide)).2⟩;refine(aGc Tryz.lays240 Tryz.builderX72 b w h0.1 hsh hlies h0.2).mono ?_;rintro en w' ⟨rfl,rfl⟩;refine⟨_,g,rfl,?_⟩;have hE:=qU.store (side:=[]) (rds:=[]) hH (i:=0) (t:= .mref) (y:=some (0,0)) (off:=0) (k:=none) (p:=⟨b,0,k⟩) (cy:=[.pointer (some ⟨b,0,none⟩)]) (v:= .pointer (some ⟨b,0,none⟩)) hg0 hJ (z:=((some (0,0)),O)) (by rfl) ⟨_,hJ,⟨rfl,_,heb,hk3⟩,.inr rfl⟩ trivial (fun _ _ h=>by cases h) (fun _=>rfl);refine aGb hE.1 ?_ ?_ rfl ?_ ?_ ?_
   ·intro i
    match i with
    |0=>rfl
    |1=>rfl
    |i+2=>rfl
   ·intro i hi;simp [pB] at hi;subst hi;exact Nat.zero_lt_succ _
   ·intro i blk b o hi ho;exact .inr ⟨i,blk,by rw[QK];simpa using hi,ho⟩
   ·intro i t x ts u y us h1 h2;rw[h1] at h2;cases h2;rfl
   ·exact⟨[],rfl,rfl⟩
  ·have h0:w.cell? ⟨b,0,none⟩=some (.pointer (some ⟨b,0,none⟩)):=hra 0 _ rfl;refine(Any.Builder_copyCheck_used Tryz.lays240 Tryz.builderX72 b w h0).mono ?_;rintro en w' ⟨rfl,rfl⟩;refine⟨_,g,rfl,⟨fun b o h=>⟨h,rfl⟩,hH,⟨[],rfl,rfl⟩,Fr.refl _ _ _,?_,fun _ _ _ _ _=>rfl,?_,fun _ _ _ h=>h,fun _ _ _ _ h=>h⟩⟩
   ·intro i blk b o hi ho;exact .inr ⟨i,blk,by rw[QK];simpa using hi,ho⟩
   ·intro i t x ts u y us h1 h2;rw[h1] at h2;cases h2;rfl
 ·cases hC
theorem a8m {P:Program}(w:World): ∀(l:List Int) (a:Addr) (acc:ByteArray),(∀j x,l[j]? =some x->w.cell? (a.add j)=some (.int .u8 x))->
  (loadBytes a acc l.length).run P w= .ok ⟨acc.data++(sD l).toArray⟩ w
 |[],a,acc,_=>by simp [loadBytes,sD]
 |x::l,a,acc,h=>by
  have h0:w.cell? a=some (.int .u8 x):=by
   have:=h 0 x rfl;simpa[Addr.add] using this
  have ih:=a8m (P:=P) w l (a.add 1) (acc.push (UInt8.ofNat x.toNat)) (fun j y hy=>by
   have:=h (j+1) y (by simpa using hy);have e:(a.add 1).add j=a.add (j+1):=by
    unfold Addr.add;by_cases hj:j=0
    ·subst hj;simp
    ·simp [hj];omega
   rw[e];exact this)
  have hx:x.toNat.toUInt8=UInt8.ofNat x.toNat:=rfl;simp only[aMO,loadBytes,aMY,run_load,h0,Result.andThen,hx];rw[ih];congr 1;apply ByteArray.ext;simp [ByteArray.push,sD]
theorem aGe {P:Program}(w:World) (pt it ty e:TypeId) (hp:P.underlying pt=some (.pointer e)) (hc:P.cellsOf e=1) (g cells:Nat) (hsh:w.shape? g=some (e,cells)) (l:List Int) (h0:l≠[]) (hn:l.length<=cells) (h63:l.length<=9223372036854775807)
  (hcell: ∀j x,l[j]? =some x->w.cell? ((⟨g,0,none⟩:Addr).add j)=some (.int .u8 x)):
  (Builtin.unsafeString_ #[pt,it] ty #[.pointer (some ⟨g,0,none⟩),.int .i64 l.length]).run P w= .ok (.string ⟨(sD l).toArray⟩) (w.freeze ⟨g,0,none⟩ l.length):=by
 have hl:l.length≠0:=by simpa using h0
 have hlb:=a8m (P:=P) w l ⟨g,0,none⟩ .empty hcell;have hlies:=Lib.liesAt_bytes (P:=P) hc (cells/P.cellsOf e) l.length (by rw[hc];simpa using hn);have h63': ¬(9223372036854775807:Int)<(l.length:Int):=by omega
 have hdef:Builtin.unsafeString_ #[pt,it] ty #[.pointer (some ⟨g,0,none⟩),.int .i64 l.length]=
   (do
    let n<-asInt (.int .i64 l.length)
    if n<0 then runtimePanic (.error "unsafe.String: len out of range")
    if n>IntKind.i64.max then unsupported (.unsafePointer "String: a length above the largest int")
    if n=0 then pure (.string .empty)
    else if<-variablesAt ⟨g,0,none⟩ (<-elemOf pt) n.toNat then do
     let s<-loadBytes ⟨g,0,none⟩ .empty n.toNat
     freeze ⟨g,0,none⟩ n.toNat
     pure (.string s)
    else unsupported (.unsafePointer "String: not so many bytes at ptr")):=rfl
 rw[hdef];have hmax:IntKind.i64.max=9223372036854775807:=rfl;have hneg: ¬(l.length:Int)<0:=by omega
 simp [asInt,asIntOf,hmax,h63',hneg,hl,variablesAt,hsh,elemOf,aM3 hp,hlies,hlb]
theorem XL {P:Program}{ρ:Go.Shelf.Ren}(L:Lays.n169 P ρ) (X:Builder.Extra P ρ) (b n cap:Nat) (a q:Option Addr) (s:ByteArray) (w w2:World)
  (c1:w.drew.cell? ⟨b,1,none⟩=some (.slice a n cap)) (hSD:(Builtin.unsafeSliceData_ #[(ρ.t 37)] (ρ.t 127) #[.slice a n cap]).run P w.drew= .ok (.pointer q) w.drew)
  (hUS:(Builtin.unsafeString_ #[(ρ.t 127),(ρ.t 3)] (ρ.t 9) #[.pointer q,.int .i64 n]).run P w.drew= .ok (.string s) w2):
  Calls P (ρ.f 169) #[.pointer (some ⟨b,0,none⟩)] w fun e w'=>e= .returned (.string s)/\w'=w2:=by
 have mixed:=L.mixed;have t72:=L.t72;have a72:=L.a72;have z72:=L.z72;have v72:=L.v72;have u72:=aM3 L.t72;have t70:=L.t70;have a70:=L.a70;have z70:=L.z70;have v70:=L.v70;have u70:=aM3 L.t70;have t37:=L.t37;have a37:=L.a37;have z37:=L.z37;have v37:=L.v37;have u37:=aM3 L.t37;have t127:=L.t127;have a127:=L.a127;have z127:=L.z127;have v127:=L.v127;have u127:=aM3 L.t127;have t3:=L.t3;have a3:=L.a3;have z3:=L.z3;have v3:=L.v3;have u3:=aM3 L.t3;have t9:=L.t9;have a9:=L.a9;have z9:=L.z9;have v9:=L.v9;have u9:=aM3 L.t9;have t5:=X.t5;have a5:=X.a5;have z5:=X.z5;have v5:=X.v5;have u5:=aM3 X.t5
 go_enter L.f169,Body.n169_ntmps ρ
 go_wp2
 go_region_o
 all_goals (go_wp2;go_ret;exact⟨rfl,rfl⟩)
theorem aGf {P:Program}{ρ:Go.Shelf.Ren}(L:Lays.n169 P ρ) (X:Builder.Extra P ρ) (b g:Nat) (cur:Array Value) (w:World) (hlt:b<w.heap.size)
  (c1:w.drew.cell? ⟨b,1,none⟩=some (.slice (some ⟨g,0,none⟩) 0 0)) (hg:w.drew.heap[g]? =some (.cells cur (ρ.t 5) (0,0))):
  Calls P (ρ.f 169) #[.pointer (some ⟨b,0,none⟩)] w fun e w'=>e= .returned (.string ⟨#[]⟩)/\w'=w.drew.alloc (.view ⟨g,0,none⟩ (ρ.t 5)):=by
 have hUS:=Any.unsafeString_none L X;have hSD:(Builtin.unsafeSliceData_ #[(ρ.t 37)] (ρ.t 127) #[.slice (some ⟨g,0,none⟩) 0 0]).run P w.drew= .ok (.pointer (some ⟨w.drew.heap.size,0,none⟩)) (w.drew.alloc (.view ⟨g,0,none⟩ (ρ.t 5))):=
  Lib.run_unsafeSliceData_zero w.drew _ _ (ρ.t 5) L.t127 ⟨g,0,none⟩ 0 ((ρ.t 5),cur.size) (by simp [World.shape?,hg])
 have c2:(w.drew.alloc (.view ⟨g,0,none⟩ (ρ.t 5))).cell? ⟨b,1,none⟩=some (.slice (some ⟨g,0,none⟩) 0 0):=
  (aM7 (a:=⟨b,1,none⟩) (Lib.alloc_old w.drew _ b hlt)).trans c1
 have c3:(w.alloc (.view ⟨g,0,none⟩ (ρ.t 5))).drew.cell? ⟨b,1,none⟩=some (.slice (some ⟨g,0,none⟩) 0 0):=c2;have c0:w.cell? ⟨b,1,none⟩=some (.slice (some ⟨g,0,none⟩) 0 0):=c1;have mixed:=L.mixed;have t72:=L.t72;have a72:=L.a72;have z72:=L.z72;have v72:=L.v72;have u72:=aM3 L.t72;have t70:=L.t70;have a70:=L.a70;have z70:=L.z70;have v70:=L.v70;have u70:=aM3 L.t70;have t37:=L.t37;have a37:=L.a37;have z37:=L.z37;have v37:=L.v37;have u37:=aM3 L.t37;have t127:=L.t127;have a127:=L.a127;have z127:=L.z127;have v127:=L.v127;have u127:=aM3 L.t127;have t3:=L.t3;have a3:=L.a3;have z3:=L.z3;have v3:=L.v3;have u3:=aM3 L.t3;have t9:=L.t9;have a9:=L.a9;have z9:=L.z9;have v9:=L.v9;have u9:=aM3 L.t9;have t5:=X.t5;have a5:=X.a5;have z5:=X.z5;have v5:=X.v5;have u5:=aM3 X.t5
 go_enter L.f169,Body.n169_ntmps ρ
 go_wp2
 go_region_o
 all_goals (go_wp2;go_ret;exact⟨rfl,rfl⟩)
@[go_sem] def XM:List oZ->List oX->Option pD
 |[(.val .ref (some (0,0)),none)],[.cells (.pair .mref (.pair (.list (.int .u8)) .unit)) ((some (0,0)),O) [(1,1)],.grow 5 1 Z]=>some ⟨[Z=List.length O.1],[(.val .str (sD O.1),none)],[.cells (.pair .mref (.pair (.list (.int .u8)) .unit)) ((some (0,0)),O) [],.dead]⟩
 |_,_=>none
theorem XN {g:Gh}{w w':World}{m:Option (Nat×Nat)}{b:(Ty.pair (.list (.int .u8)) .unit).den}{e n:Nat}{s:List UInt8}{sd:List Prop}(hH:rH g w (pG 0 [oX.cells (.pair .mref (.pair (.list (.int .u8)) .unit)) (m,b) [(1,1)],.grow e 1 n]))
  (hos:w'.os=w.os) (htape:w'.tape=w.tape) (hout:w'.output=w.output) (hsz:w.heap.size<=w'.heap.size)
  (hcell: ∀b o,b<w.heap.size->w'.cell? ⟨b,o,none⟩=w.cell? ⟨b,o,none⟩) (hshape: ∀b s,w.shape? b=some s->w'.shape? b=some s)
  (hblk: ∀b,b<w.heap.size->(∀o,¬qP g 1 (.grow e 1 n) b o)->w'.heap[b]? =w.heap[b]?):
  HV g w [oX.cells (.pair .mref (.pair (.list (.int .u8)) .unit)) (m,b) [(1,1)],.grow e 1 n] ⟨sd,[(.val .str s,none)],[.cells (.pair .mref (.pair (.list (.int .u8)) .unit)) (m,b) [],.dead]⟩ g w' (.string ⟨s.toArray⟩):=by
 have hg0:p9 (pG 0 [oX.cells (.pair .mref (.pair (.list (.int .u8)) .unit)) (m,b) [(1,1)],.grow e 1 n]) 0=some (.cells (.pair .mref (.pair (.list (.int .u8)) .unit)) (m,b) [(1,1)]):=rfl;have hg1:p9 (pG 0 [oX.cells (.pair .mref (.pair (.list (.int .u8)) .unit)) (m,b) [(1,1)],.grow e 1 n]) 1=some (.grow e 1 n):=rfl;have hle:Le g w g w':=⟨fun _ _ h=>h,fun b o h=>hcell b o (hH.sl b o h),fun _ _ h=>h,fun _ _ _ h=>h⟩;have hno: ∀c o,qP g 0 (.cells (.pair .mref (.pair (.list (.int .u8)) .unit)) (m,b) [(1,1)]) c o->∀o',¬qP g 1 (.grow e 1 n) c o':=fun c o h o' h'=>by
  obtain⟨v,hv,hb⟩:=h';exact hH.dis 0 1 _ _ c o (by decide) hg0 hg1 h ⟨v,hv,hb⟩
 obtain⟨p,cs,hJ,hR,hra,hth,hns,htk⟩:=hH.blk 0 _ hg0;have hown0: ∀j,j<2->qP g 0 (.cells (.pair .mref (.pair (.list (.int .u8)) .unit)) (m,b) [(1,1)]) p.1 (p.2+j):=fun j hj=>⟨p,hJ,rfl,Nat.le_add_right _ _,Nat.add_lt_add_left hj _⟩;have hpl:p.1<w.heap.size:=MF (hH.blk 0 _ hg0) (hown0 0 (by decide));have hpb:w'.heap[p.1]? =w.heap[p.1]? :=hblk p.1 hpl (hno p.1 _ (hown0 0 (by decide)));have hbk0:yO g w' 0 (.cells (.pair .mref (.pair (.list (.int .u8)) .unit)) (m,b) []):=
  ⟨p,cs,hJ,uX hle hR,fun j v hj=>(hcell _ _ hpl).trans (hra j v hj),⟨fun j hj=>by
   have h1:=hth.1 j hj;rw[hcell _ _ hpl];exact⟨h1.1,(aNF (a:=⟨p.1,p.2+j,none⟩) hpb).trans h1.2⟩,fun h s hs=>hshape _ _ (hth.2 h s hs)⟩,hns,fun _ _ h=>by cases h⟩
 refine⟨fun b o h=>⟨h,hcell b o (hH.sl b o h)⟩,?_,(show pW g w' (.val .str s,none) (.string ⟨s.toArray⟩) from⟨HS _ _ _,trivial⟩),⟨hos,htape,hout,hsz,?_,?_,fun _ _ h=> .inl h,fun b s h=> .inl (hshape b s h)⟩,?_,fun _ _ _ _ _=>rfl,?_,fun _ _ _ h=>h,fun _ _ _ _ h=>h⟩
 ·refine⟨fun i blk h=> ?_,fun i j bi bj c o hij hi hj hoi hoj=> ?_,fun b o h=>aNm (hH.sl b o h) hsz,LP hH.tab.1 hsz (fun c hc=>hblk c (aNm hc hH.tab.1.1) fun o ho=>absurd (hH.tab.2 1 _ c o hg1 ho) (by omega)),fun i blk c o h ho=> ?_⟩
  ·match i,h with
   |0,h=>cases h;exact hbk0
   |1,h=>cases h;trivial
   |i+2,h=>simp [pG,p9] at h
  ·match i,j,hi,hj with
   |0,0,_,_=>exact hij rfl
   |0,1,_,hj=>cases hj;exact hoj
   |1,_,hi,_=>cases hi;exact hoi
   |0,j+2,_,hj=>simp [pG,p9] at hj
   |i+2,_,hi,_=>simp [pG,p9] at hi
  ·match i,h with
   |0,h=>cases h;exact hH.tab.2 0 _ c o hg0 ho
   |1,h=>cases h;exact ho.elim
   |i+2,h=>simp [pG,p9] at h
 ·intro c hc hn;exact hblk c hc fun o ho=>hn o ⟨1,_,hg1,ho⟩
 ·intro c o hc hn;exact⟨hcell c o hc,aNF (a:=⟨c,o,none⟩) (hblk c hc fun o' ho=>hn ⟨1,_,hg1,by obtain⟨v,hv,hb⟩:=ho;exact⟨v,hv,hb⟩⟩)⟩
 ·intro i blk c o hi ho
  match i,hi with
  |0,hi=>cases hi;exact .inr ⟨0,_,hg0,ho⟩
  |1,hi=>cases hi;exact ho.elim
  |i+2,hi=>simp at hi
 ·intro i t x ts u y us h1 h2
  match i,h1,h2 with
  |0,h1,h2=>cases h1;cases h2;rfl
  |1,h1,_=>cases h1
  |i+2,h1,_=>simp at h1
theorem aGg (w:World) (a p:Addr) (n:Nat):(w.freeze a n).cell? p=w.cell? p:=by
 unfold World.freeze;split
 ·rfl
 ·simp only[World.cell?,aN8];by_cases h:a.block=p.block
  ·rw[aMI h];cases w.heap[p.block]? with
   |none=>rfl
   |some o=>cases o<;>rfl
  ·rw[aMK h]
theorem aGh (w:World) (a:Addr) (n b:Nat):(w.freeze a n).shape? b=w.shape? b:=by
 unfold World.freeze;split
 ·rfl
 ·simp only[World.shape?,aN8];by_cases h:a.block=b
  ·rw[aMI h];cases w.heap[b]? with
   |none=>rfl
   |some o=>cases o<;>rfl
  ·rw[aMK h]
theorem aGi (w:World) (a:Addr) (n b:Nat) (h:b≠a.block):(w.freeze a n).heap[b]? =w.heap[b]? :=by
 unfold World.freeze;split
 ·rfl
 ·simp only[aN8];rw[aMK (Ne.symm h)]
theorem aGj (w:World) (a:Addr) (n:Nat):(w.freeze a n).os=w.os/\(w.freeze a n).tape=w.tape/\(w.freeze a n).output=w.output/\(w.freeze a n).heap.size=w.heap.size:=by
 unfold World.freeze;split
 ·exact⟨rfl,rfl,rfl,rfl⟩
 ·exact⟨rfl,rfl,rfl,by simp⟩
theorem a8n {g:Gh}{w:World}{b:Nat}: ∀{l:List Int}{o:Nat},wH (Rd g w (.int .u8)) w g.S 1 b o l->∀j x,l[j]? =some x->w.cell? ⟨b,o+j,none⟩=some (.int .u8 x)
 |[],_,_,_,_,h=>by cases h
 |y::l,o,⟨⟨cs,_,hra,_,hR⟩,hl⟩,j,x,h=>by
  match j,h with
  |0,h=>
   cases h;have hR:cs=[.int .u8 y]:=hR;subst hR;exact hra 0 _ rfl
  |j+1,h=>
   have:=a8n hl j x (by simpa using h);rw[show o+(j+1)=o+1+j by omega];exact this
theorem aGk {u:Ty}{m:Option (Nat×Nat)}{bv:(Ty.pair (.list (.int .u8)) .unit).den}{l:List u.den}(hget:pO (.list u) (.pair .mref (.pair (.list (.int .u8)) .unit)) (m,bv) 1=some l):l.length=bv.1.length:=by
 have h2:pO (.list u) (.list (.int .u8)) bv.1 0=some l:=hget;simp only[pO] at h2;split at h2
 ·rename_i h;injection h with h
  subst h;cases h2;rfl
 ·cases h2
theorem aGl:B7 Tryz.prog 54 XM:=by
 refine⟨fun _ _=>rfl,fun g w args vals L r hH ha hC hs=> ?_⟩;unfold XM at hC;split at hC
 ·rename_i bv n;cases hC;obtain rfl:n=List.length bv.1:=hs _ (by simp);obtain⟨va,_,rfl,ra,hv⟩:=ha;cases hv;have hg0:p9 (pG 0 [oX.cells (.pair .mref (.pair (.list (.int .u8)) .unit)) ((some (0,0)),bv) [(1,1)],.grow 5 1 (List.length bv.1)]) 0=some (.cells (.pair .mref (.pair (.list (.int .u8)) .unit)) ((some (0,0)),bv) [(1,1)]):=rfl;have hg1:p9 (pG 0 [oX.cells (.pair .mref (.pair (.list (.int .u8)) .unit)) ((some (0,0)),bv) [(1,1)],.grow 5 1 (List.length bv.1)]) 1=some (.grow 5 1 (List.length bv.1)):=rfl;obtain⟨p,cs,hJ,hR,hra,hth,hns,htk⟩:=hH.blk 0 _ hg0;obtain⟨v',xs,hv',hown,hmax,hsl⟩:=hH.blk 1 _ hg1;obtain⟨c1,c2,rfl,hR1,hR2⟩:=hR;obtain⟨d1,d2,rfl,⟨a,cap,rfl,hcap,hl⟩,hd2⟩:=hR2;obtain⟨p',hJ',⟨hp0,_,_,_⟩,hc1⟩:=hR1;rw[hJ] at hJ';obtain rfl:=aML hJ';obtain⟨b,o,k⟩:=p;have ho:o=0:=by simpa using hp0
  subst ho;have hlen1:c1.length=1:=by rcases hc1 with rfl|rfl<;>rfl
  obtain⟨q,hq,hva⟩:=xT ra.1;rw[hJ] at hq;cases hq;subst hva;have hcell1:w.cell? ⟨b,1,none⟩=some (.slice a bv.1.length cap):=hra 1 _ (by rw[aMV (by omega),hlen1];rfl);obtain⟨u,l,v,hget,hcv,hcur⟩:=htk 1 1 (by simp);have hvv:v= .slice a bv.1.length cap:=by
   rw[aMV (by omega),hlen1] at hcv;exact(aML hcv).symm
  have hll:l.length=bv.1.length:=aGk hget;rw[hll,hv',hvv] at hcur;obtain rfl:=aML hcur;have hbl:b<w.heap.size:=QA hcell1;have hdr: ∀(s:List UInt8) (sd:List Prop),HV g w _ ⟨sd,[(.val .str s,none)],[.cells (.pair .mref (.pair (.list (.int .u8)) .unit)) ((some (0,0)),bv) [],.dead]⟩ g w.drew (.string ⟨s.toArray⟩):=fun s sd=>
   XN hH rfl rfl rfl (aM2 _) (fun _ _ _=>rfl) (fun _ _ h=>h) (fun _ _ _=>rfl)
  obtain⟨hx,⟨hnil,h0⟩ |⟨gb,cap',cur,hsl',hb0,hbk,hnc,hcm,hcs,htake⟩⟩:=hown
  ·have hb0:bv.1=[]:=aOe.1 h0;have hz:sD bv.1=[]:=by rw[hb0];rfl
   have hl0:List.length bv.1=0:=h0;injection hnil with e1 e2 e3
   subst e1;subst e3;refine(XL Tryz.lays169 Tryz.builderExtra b bv.1.length 0 none none .empty w w.drew hcell1 rfl (by rw[hl0];exact Any.unsafeString_none Tryz.lays169 Tryz.builderExtra w.drew none)).mono ?_;rintro e w' ⟨rfl,rfl⟩;exact⟨_,g,rfl,by rw[hz];exact hdr [] _⟩
  ·injection hsl' with e1 e2 e3
   subst e1;subst e3;have hsz:bv.1.length<=cur.size:=by omega
   by_cases hb0:bv.1=[]
   ·have hz:sD bv.1=[]:=by rw[hb0];rfl
    have hl0:List.length bv.1=0:=by rw[hb0];rfl
    by_cases hc0:cap=0
    ·subst hc0;rw[hl0] at hcell1;refine(aGf Tryz.lays169 Tryz.builderExtra b gb cur w hbl hcell1 hbk).mono ?_;rintro e w' ⟨rfl,rfl⟩;have hold: ∀c,c<w.heap.size->(w.drew.alloc (.view ⟨gb,0,none⟩ 5)).heap[c]? =w.heap[c]? :=fun c hc=>Lib.alloc_old w.drew _ c hc;refine⟨_,g,rfl,?_⟩;rw[hz];exact XN hH rfl rfl rfl (by simp) (fun c o hc=>aM7 (a:=⟨c,o,none⟩) (hold c hc)) (fun c s h=>(CI (hold c (CH h))).trans h) (fun c hc _=>hold c hc)
    ·refine(XL Tryz.lays169 Tryz.builderExtra b bv.1.length cap (some ⟨gb,0,none⟩) (some ⟨gb,0,none⟩) .empty w w.drew hcell1 (Lib.run_unsafeSliceData_row _ _ _ _ _ _ hc0) (by rw[hl0];exact Any.unsafeString_none Tryz.lays169 Tryz.builderExtra w.drew _)).mono ?_;rintro e w' ⟨rfl,rfl⟩;exact⟨_,g,rfl,by rw[hz];exact hdr [] _⟩
   ·have hcap0:cap≠0:=fun h=>hb0 (aOe.1 (by omega));have hcb: ∀j x,bv.1[j]? =some x->w.cell? ⟨gb,j,none⟩=some (.int .u8 x):=by
     rcases hl with hl|⟨b',o',ha',hl⟩
     ·exact absurd hl hb0
     ·cases ha';intro j x hj;have:=a8n hl j x hj;rwa [aNd] at this
    have hbk':w.drew.heap[gb]? =some (.cells cur 5 (0,0)):=hbk;have hshp:w.drew.shape? gb=some (5,cur.size):=by simp only[World.shape?,hbk']
    refine(XL Tryz.lays169 Tryz.builderExtra b bv.1.length cap (some ⟨gb,0,none⟩) (some ⟨gb,0,none⟩) ⟨(sD bv.1).toArray⟩ w (w.drew.freeze ⟨gb,0,none⟩ bv.1.length) hcell1 (Lib.run_unsafeSliceData_row _ _ _ _ _ _ hcap0)
     (aGe w.drew _ _ _ 5 (Tryz.lays169).t127 (Tryz.builderExtra).cellsByte gb cur.size hshp bv.1 hb0 hsz (by unfold maxLen at hcm;omega) (fun j x h=>by rw[aNW,aNd];exact hcb j x h))).mono ?_
    rintro e w' ⟨rfl,rfl⟩;refine⟨_,g,rfl,?_⟩;have hblk: ∀c,(∀o,¬qP g 1 (.grow 5 1 (List.length bv.1)) c o)->(w.drew.freeze ⟨gb,0,none⟩ bv.1.length).heap[c]? =w.heap[c]? :=fun c hc=>aGi w.drew _ _ c fun e=>hc 0 ⟨_,hv',by rw[e];rfl⟩;have hr:=aGj w.drew ⟨gb,0,none⟩ bv.1.length;refine XN hH hr.1 hr.2.1 hr.2.2.1 (aOh hr.2.2.2.symm) (fun c o _=>aGg w.drew _ _ _) (fun c s h=>(aGh w.drew _ _ c).trans h) (fun c _ hc=>hblk c hc)
 ·cases hC
theorem a8o:sF Tryz.prog 149 ⟨(.pair .str (.pair .str .unit)),0,0,false,[]⟩:=⟨by kernel_rfl,(show ((_/\∃_,_/\_)\/_)/\_ from⟨.inl ⟨rfl,_,Tryz.underlying149,(show _/\_/\_/\_ from⟨rfl,by kernel_rfl,by kernel_rfl,(show _/\_/\_/\_ from⟨rfl,by kernel_rfl,by kernel_rfl,trivial⟩)⟩)⟩,(fun h=>absurd h (by decide))⟩)⟩
theorem RD {P:Program}(w:World) (dT sT ty elem:TypeId) (sz g o dLen dCap:Nat) (a:Addr) (sLen sCap:Nat) (cur:Array Value) (t:TypeId) (cs:List Value)
  (hu:P.underlying dT=some (.slice elem)) (hs:(P.info? elem).map (·.size)=some sz)
  (hg:w.heap[g]? =some (.cells cur t (0,0))) (hn:cs.length=Nat.min sLen dLen*sz)
  (hsrc: ∀j v,cs[j]? =some v->w.cell? (a.add j)=some v) (hfit:o+cs.length<=cur.size) (h1: ∀v∈cs,v.oneCell'=true):
  (Builtin.copy_ #[dT,sT] ty #[.slice (some ⟨g,o,none⟩) dLen dCap,.slice (some a) sLen sCap]).run P w=
   .ok (goInt (Nat.min sLen dLen:Nat)) (w.setRow g (cur.toList.take o++cs++cur.toList.drop (o+cs.length)).toArray):=by
 have hl:=run_loadCells_list (P:=P) w a cs hsrc;have hst:=run_storeCells_at P g o t cs 0 cur w hg (by simpa using hfit) h1;cases hq:P.info? elem with
 |none=>simp [hq] at hs
 |some i=>
  have hi:i.size=sz:=by simpa[hq] using hs
  simp [Builtin.copy_,aM3 hu,Builtin.lenOf,Builtin.firstCells,sizeOf,typeInfo,hq,hi,<-hn,hl,hst]
theorem aGm {P:Program}(w:World) (tS tR e:TypeId) (ht:P.underlying tS=some (.slice e)) (size:Nat) (hz: ∀w,(Go.sizeOf e).run P w= .ok size w)
  (a b:Addr) (la ca lb cb:Nat) (hne:a.block≠b.block) (tA tB:TypeId) (kA kB:Nat)
  (hsa:w.shape? a.block=some (tA,kA)) (hkA:kA≠0) (hsb:w.shape? b.block=some (tB,kB)) (hfb: ∀o,w.frozen? ⟨b.block,o,none⟩=false) (hsp:b.spot=none):
  (Extern.SlicesOverlaps.overlaps #[tS,tS] #[tR] #[.slice (some a) la ca,.slice (some b) lb cb]).run P w= .ok (.bool false) w:=by
 have hnb:(a.block != b.block)=true:=by simpa using hne
 have hnb':(a.block==b.block)=false:=by simpa using hne
 have hfb1:w.frozen? b=false:=by
  obtain⟨bb,bo,bs⟩:=b;cases hsp;exact hfb bo
 have hfb2:=hfb kB;change Sem.run P (α:=Value) (do
  let some t:=(#[tS,tS]:Array TypeId)[0]? |stuck "slices.overlaps: no parameter types"
  let .slice elem<-underlying t|stuck "slices.overlaps: slice type expected"
  let size<-sizeOf elem
  match (some a:Option Addr),(some b:Option Addr) with
  |some a,some b=>
   if la=0\/lb=0\/size=0 then pure (Value.bool false)
   else if a.block != b.block&&(<-frozen a)&&(<-frozen b) then unsupported .addressObserved
   else do
    if a.block != b.block then do
     noView a;noView b
     if<-mayBeOne a b then return Value.bool ((<-choose (.extern "sameAddr.stringBytes" 2))==1)
    pure (Value.bool (a.block==b.block&&a.off<b.off+lb*size&&b.off<a.off+la*size))
  |_,_=>pure (Value.bool false)) w=_
 by_cases h0:la=0\/lb=0\/size=0
 ·simp [aM3 ht,hz,h0]
 ·cases kA with
  |zero=>exact absurd rfl hkA
  |succ kA=>
   cases hfa:w.frozen? a<;>cases hfe:w.frozen? {block:=a.block,off:=kA+1}<;>
   simp [aM3 ht,hz,h0,hnb,hnb',frozen,noView,viewAt,mayBeOne,stringish,shape,Sem.run,hsa,hsb,hfb1,hfb2,hfa,hfe]
theorem aGn {α:Type}{l:List α}{i n:Nat}(hin:i<=n):(l.drop (i*2)).take ((n-i)*2)=(l.take (n*2)).drop (i*2):=by
 rw[List.drop_take,show n*2-i*2=(n-i)*2 by omega]
theorem a8p {α:Type}{l:List α}{i n:Nat}{v:α}(h:v∈(l.drop (i*2)).take ((n-i)*2)):v∈l.take (n*2):=by
 rw[show (n-i)*2=n*2-i*2 by omega,<-List.drop_take] at h;exact List.mem_of_mem_drop h
theorem aGo {cur c1 c2:Array Value}{mid vs:List Value}{i n m:Nat}(hc1:c1=(cur.toList.take ((i+m)*2)++mid++cur.toList.drop ((i+m)*2+mid.length)).toArray) (hc2:c2=(c1.toList.take (i*2)++vs++c1.toList.drop (i*2+vs.length)).toArray)
  (hml:mid.length=(n-i)*2) (hvl:vs.length=m*2) (hcur:(n+m)*2<=cur.toList.length) (hin:i<=n):c2.toList.take ((n+m)*2)=cur.toList.take (i*2)++vs++mid:=by
 have e1:c1.toList=cur.toList.take ((i+m)*2)++(mid++cur.toList.drop ((i+m)*2+mid.length)):=by rw[hc1,aMU]
 have l1:(cur.toList.take ((i+m)*2)).length=(i+m)*2:=by rw[aM5];omega
 have e2:c1.toList.take (i*2)=cur.toList.take (i*2):=by
  rw[e1,aNL (by omega),List.take_take,Nat.min_eq_left (by omega)]
 have e3:c1.toList.drop (i*2+vs.length)=mid++cur.toList.drop ((i+m)*2+mid.length):=by
  rw[e1,hvl,show i*2+m*2=(cur.toList.take ((i+m)*2)).length by omega,aOT]
 have l2:(cur.toList.take (i*2)).length=i*2:=by rw[aM5];omega
 have e4:c2.toList=(cur.toList.take (i*2)++vs++mid)++cur.toList.drop ((i+m)*2+mid.length):=by rw[hc2,e2,e3];simp only[aMU]
 rw[e4,show (n+m)*2=(cur.toList.take (i*2)++vs++mid).length by simp only[aMN];omega,aOg]
theorem aGp (b n c i vb voff m vc:Nat) (cur:Array Value) (vs:List Value) (w:World) (hi:i<n) (hm:0<m) (hroom:n+m<=c) (hc63:c<=maxLen) (hvb:vb≠b)
  (hg:w.heap[b]? =some (.cells cur 149 (0,0))) (hcs:cur.size=c*2) (hvl:vs.length=m*2)
  (hvs: ∀j v,vs[j]? =some v->w.cell? ⟨vb,voff+j,none⟩=some v) (h1: ∀v∈cur.toList.take (n*2),v.oneCell'=true) (h1v: ∀v∈vs,v.oneCell'=true):
  Calls Tryz.prog 240 #[.slice (some ⟨b,0,none⟩) n c,.int .i64 i,.slice (some ⟨vb,voff,none⟩) m vc] w fun e w'=>
   e= .returned (.slice (some ⟨b,0,none⟩) (n+m) c)/\∃cur':Array Value,w'=w.drew.setRow b cur'/\cur'.size=cur.size/\cur'.toList.take ((n+m)*2)=cur.toList.take (i*2)++vs++(cur.toList.drop (i*2)).take ((n-i)*2):=by
 have u24:=aM3 Tryz.underlying24;have hz1: ¬((m:Int)=0):=by omega
 have hz2: ¬((i:Int)=(n:Int)):=by omega
 have hw1:IntKind.i64.wrap ((i:Int)+(m:Int))=(i:Int)+(m:Int):=by rw[aNH];unfold maxLen at hc63;omega
 have hw2:IntKind.i64.wrap ((n:Int)+(m:Int))=(n:Int)+(m:Int):=by rw[aNH];unfold maxLen at hc63;omega
 have hb1:(0:Int)<=(i:Int)+(m:Int):=by omega
 have hin:i<=n:=by omega
 have htn:((i:Int)+(m:Int)).toNat=i+m:=by omega
 have hb2: ¬(c=i+m):=by omega
 have hb3:(i:Int)<=(n:Int)+(m:Int):=by omega
 have hb4: ¬(c=i):=by omega
 have z144: ∀w,(Go.sizeOf 149).run Tryz.prog w= .ok 2 w:=fun w=>by
  simp only[sizeOf,typeInfo,aMY,aNJ,aMT];rfl
 have hsz:(Tryz.prog.info? 149).map (·.size)=some 2:=by kernel_rfl
 have hvs0:w.cell? ⟨vb,voff,none⟩=some (vs[0]'(by omega)):=hvs 0 _ (aMR (by omega));obtain⟨⟨tA,kA⟩,hsa,hkA⟩: ∃q:TypeId×Nat,w.shape? vb=some q/\q.2≠0:=by
  have h0:=hvs0;simp only[World.cell?] at h0;simp only[World.shape?];cases hh:w.heap[vb]? with
  |none=>rw[hh] at h0;simp at h0
  |some o=>
   rw[hh] at h0;cases o with
   |cells cs e fr=>
    refine⟨(e,cs.size),rfl,fun hz=> ?_⟩;have hz:cs.size=0:=hz;have:cs= #[]:=Array.eq_empty_of_size_eq_zero hz;subst this;simp at h0
   |_=>simp at h0
 have hov: ∀lb cb,(callFunc 268 #[.slice (some ⟨vb,voff,none⟩) m vc,.slice (some ⟨b,(i+m)*2,none⟩) lb cb]).run Tryz.prog w= .ok (.value (.bool false)) w:=fun lb cb=>by
  rw[run_callFunc_extern Tryz.func268 (by kernel_rfl) (by kernel_rfl) (by kernel_rfl) (e:=Extern.SlicesOverlaps.overlaps #[24,24] #[4]) (by kernel_rfl),
   aGm w 24 4 149 Tryz.underlying24 2 z144 ⟨vb,voff,none⟩ ⟨b,(i+m)*2,none⟩ m vc lb cb hvb tA 149 kA cur.size hsa hkA (by simp [World.shape?,hg]) (fun o=>Lib.frozen_of_heap hg _) rfl]
  rfl
 have mixed:Tryz.prog.follows .mixedOrders=true:=by kernel_rfl
 obtain⟨mid,hmid⟩: ∃mid,mid=(cur.toList.drop (i*2)).take ((n-i)*2):=⟨_,rfl⟩;have hml:mid.length=(n-i)*2:=by rw[hmid,aM5,aMP,aNi];omega
 have hmin1:Nat.min (n+m-i) (n+m- (i+m))=n-i:=by simp only[Nat.min_def];split<;>omega
 have hmin2:Nat.min m (n+m-i)=m:=by simp only[Nat.min_def];split<;>omega
 obtain⟨c1,hc1⟩: ∃c1:Array Value,c1=(cur.toList.take ((i+m)*2)++mid++cur.toList.drop ((i+m)*2+mid.length)).toArray:=⟨_,rfl⟩;have hc1l:c1.size=cur.size:=by rw[hc1];simp only[aNA,aMN,aM5,aMP,aNi,hml];omega
 obtain⟨c2,hc2⟩: ∃c2:Array Value,c2=(c1.toList.take (i*2)++vs++c1.toList.drop (i*2+vs.length)).toArray:=⟨_,rfl⟩;have hc2l:c2.size=cur.size:=by rw[hc2];simp only[aNA,aMN,aM5,aMP,aNi,hc1l,hvl];omega
 have hcp1: ∀ty dc sc,(Builtin.copy_ #[24,24] ty #[.slice (some ⟨b,(i+m)*2,none⟩) (n+m- (i+m)) dc,.slice (some ⟨b,i*2,none⟩) (n+m-i) sc]).run Tryz.prog w.drew= .ok (goInt (n-i:Nat)) (w.drew.setRow b c1):=fun ty dc sc=>by
  have h:=RD (P:=Tryz.prog) w.drew 24 24 ty 149 2 b ((i+m)*2) (n+m- (i+m)) dc ⟨b,i*2,none⟩ (n+m-i) sc cur 149 mid Tryz.underlying24 hsz hg (by rw[hml,hmin1]) (fun j v hj=>by
    rw[aOw];rw[hmid,aOs] at hj;split at hj
    ·rw[List.getElem?_drop,aNQ] at hj;show (w.cell? ⟨b,i*2+j,none⟩)=_;rw[Lib.cell_of_heap hg];exact hj
    ·cases hj) (by rw[hml];omega) (fun v hv=>h1 v (a8p (hmid▸hv)))
  rw[h,hmin1,hc1]
 have hg1:(w.drew.setRow b c1).heap[b]? =some (.cells c1 149 (0,0)):=aOD w.drew b cur c1 _ _ hg;have hcp2: ∀ty dc,(Builtin.copy_ #[24,24] ty #[.slice (some ⟨b,i*2,none⟩) (n+m-i) dc,.slice (some ⟨vb,voff,none⟩) m vc]).run Tryz.prog (w.drew.setRow b c1)= .ok (goInt (m:Nat)) ((w.drew.setRow b c1).setRow b c2):=fun ty dc=>by
  have h:=RD (P:=Tryz.prog) (w.drew.setRow b c1) 24 24 ty 149 2 b (i*2) (n+m-i) dc ⟨vb,voff,none⟩ m vc c1 149 vs Tryz.underlying24 hsz hg1 (by rw[hvl,hmin2]) (fun j v hj=>by
    rw[aOw,aM7 (w:=w) (a:=⟨vb,voff+j,none⟩) (aOf w.drew b vb c1 hvb)];exact hvs j v hj) (by rw[hvl,hc1l];omega) h1v
  rw[h,hmin2,hc2]
 have Hmid:=Lib.hid hmid;have Hc1:=Lib.hid hc1;have Hc2:=Lib.hid hc2;have Hs1:=Lib.hid hc1l;have Hs2:=Lib.hid hc2l;have Hml:=Lib.hid hml;clear hmid hc1 hc2 hc1l hc2l hml hmin1 hmin2
 go_enter Tryz.func240,Tryz.ntmps240
 go_wp2_with (simp only[hov])
 go_region_law_o (refine step_copy_runI rfl _ _ 24 24 rfl _ _ (by simp [Act.eval,Act.put]) (by simp [Act.eval,Act.put]) (hcp1 _ _ _) ?_)
 go_wp2_with (at_builtin;refine wpList_copy_runI _ rfl _ _ 24 24 rfl _ _ rfl rfl (hcp2 _ _) ?_)
 go_ret
 refine⟨rfl,c2,?_,Hs2.out,?_⟩
 ·rw[setRow_setRow]
 ·rw[<-Hmid.out];exact aGo Hc1.out Hc2.out Hml.out hvl (by rw[aNi];omega) hin
theorem aGq (base:Option Addr) (n c i:Nat) (v0:Option Addr) (vc:Nat) (w:World) (hi:i<=n) (hnc:n<=c) (hc63:c<=maxLen):
  Calls Tryz.prog 240 #[.slice base n c,.int .i64 i,.slice v0 0 vc] w fun e w'=>e= .returned (.slice base n c)/\w'=w:=by
 have u24:=aM3 Tryz.underlying24
 go_enter Tryz.func240,Tryz.ntmps240
 go_wp2_with fail
 all_goals (go_ret;exact⟨rfl,rfl⟩)
theorem aGr (v:Value) (n vb voff m vc:Nat) (xs vs:List Value) (w:World) (hm:0<m) (hown:w.ownsRow 0 149 2 v n xs) (h63:n+m<=maxLen) (hby:(n+m)*32<=140737488355328)
  (hvl:vs.length=m*2) (hvs: ∀j v,vs[j]? =some v->w.cell? ⟨vb,voff+j,none⟩=some v) (h1v: ∀v∈vs,v.oneCell'=true):
  Calls Tryz.prog 240 #[v,.int .i64 n,.slice (some ⟨vb,voff,none⟩) m vc] w fun e w'=>
   ∃q cap,e= .returned (.slice (some ⟨q,0,none⟩) (n+m) cap)/\w'.ownsRow 0 149 2 (.slice (some ⟨q,0,none⟩) (n+m) cap) (n+m) (xs++vs)/\
   (q=w.heap.size\/v.ownBlock=some q)/\w.grownBy w' v.ownBlock:=by
 have u24:=aM3 Tryz.underlying24;obtain⟨inf,hi,hsz,hz⟩:=DD a8o;have hby2:inf.bytes=32:=by
  have:(Tryz.prog.info? 149).map (·.bytes)=some 32:=by kernel_rfl
  rw[hi] at this;exact aML this
 have hrun: ∀ty,∃q cap w',(Builtin.append_ #[24,24] ty #[v,.slice (some ⟨vb,voff,none⟩) m vc]).run Tryz.prog w= .ok (.slice (some ⟨q,0,none⟩) (n+m) cap) w'/\_:=
  fun ty=>VY (P:=Tryz.prog) w 24 ty 149 inf _ 2 32 Tryz.underlying24 hi hz hsz hby2 (by rfl) v n xs hown ⟨vb,voff,none⟩ m vc vs hvl (fun j u hj=>by rw[aOw];exact hvs j u hj) h1v hm h63 hby
 obtain⟨q,cap,w2,hr,h1,h2,h3,h4,h5⟩:=hrun 24;have H1:=Lib.hid h1;have H2:=Lib.hid h2;have H3:=Lib.hid h3;have Hown:=Lib.hid hown;have hz1: ¬((m:Int)=0):=by omega
 have hmx:n+m<=9223372036854775807:=by unfold maxLen at h63;omega
 obtain⟨hxl,hv⟩:=hown;clear h1 h2 h3 h5 hrun hz hsz hby2 hi hxl;rcases hv with⟨rfl,rfl⟩ |⟨b,c,cur,rfl,_,hbk,hnc,hcm,hcs,htk⟩
 ·clear Hown;rw[aNd] at hr
  go_enter Tryz.func240,Tryz.ntmps240
  go_wp2_with (at_builtin;refine Lib.wpList_append_run _ rfl _ _ _ _ rfl _ _ rfl rfl _ _ hr ?_)
  all_goals (go_ret;exact⟨q,cap,by rw[aNd];rfl,H1.out,H2.out,H3.out⟩)
 ·clear hbk hcs htk;have hcm:c<=9223372036854775807:=by unfold maxLen at hcm;omega
  go_enter Tryz.func240,Tryz.ntmps240
  go_wp2_with (at_builtin;refine Lib.wpList_append_run _ rfl _ _ _ _ rfl _ _ rfl rfl _ _ hr ?_)
  all_goals (go_ret;exact⟨q,cap,rfl,H1.out,H2.out,H3.out⟩)
theorem aGs (b n c i vb voff m vc:Nat) (cur:Array Value) (vs:List Value) (w:World) (hi:i<n) (hm:0<m) (hnc:n<=c) (hroom:c<n+m) (hbig:(n+m)*32<=140737488355328)
  (hg:w.heap[b]? =some (.cells cur 149 (0,0))) (hcs:cur.size=c*2) (hvl:vs.length=m*2)
  (hvs: ∀j v,vs[j]? =some v->w.cell? ⟨vb,voff+j,none⟩=some v) (h1: ∀v∈cur.toList.take (n*2),v.oneCell'=true) (h1v: ∀v∈vs,v.oneCell'=true):
  Calls Tryz.prog 240 #[.slice (some ⟨b,0,none⟩) n c,.int .i64 i,.slice (some ⟨vb,voff,none⟩) m vc] w fun e w'=>
   ∃G,e= .returned (.slice (some ⟨w.heap.size,0,none⟩) (n+m) G)/\w'.ownsRow 0 149 2 (.slice (some ⟨w.heap.size,0,none⟩) (n+m) G) (n+m) (cur.toList.take (i*2)++vs++(cur.toList.drop (i*2)).take ((n-i)*2))/\w.grownBy w' none:=by
 have u24:=aM3 Tryz.underlying24;have mixed:Tryz.prog.follows .mixedOrders=true:=by kernel_rfl
 obtain⟨inf,hinf,hzs,hz⟩:=DD a8o;have hzb:inf.bytes=32:=by
  have:(Tryz.prog.info? 149).map (·.bytes)=some 32:=by kernel_rfl
  rw[hinf] at this;exact aML this
 have hsz:(Tryz.prog.info? 149).map (·.size)=some 2:=by kernel_rfl
 have hz1: ¬((m:Int)=0):=by omega
 have hz2: ¬((i:Int)=(n:Int)):=by omega
 have hz3:(c:Int)<(n:Int)+(m:Int):=by omega
 have hbw:b<w.heap.size:=by
  rcases aNV b w.heap.size with h|h
  ·exact h
  ·rw[Array.getElem?_eq_none h] at hg;cases hg
 have hvw:vb<w.heap.size:=block_lt_of_cell (hvs 0 _ (aMR (by omega)));have hkk:(n:Int)+(m:Int)- (i:Int)=((n+m-i:Nat):Int):=by omega
 have hik:i+(n+m-i)=n+m:=by omega
 have hold:(Builtin.firstCells inf.size i (.slice (some ⟨b,0,none⟩) i c)).run Tryz.prog w.drew= .ok (cur.toList.take (i*2)).toArray w.drew:=by
  rw[hzs];exact run_firstCells_some w.drew 2 i ⟨b,0,none⟩ i c (cur.toList.take (i*2)) (by rw[aM5,aNi];omega) (fun j v hj=>by
   rw[aOw,aNd];rw[aOs] at hj;split at hj
   ·rw[aNQ] at hj;show w.cell? ⟨b,j,none⟩=_;rw[Lib.cell_of_heap hg];exact hj
   ·cases hj)
 have hrz: ∀ty,(Builtin.append_ #[24,3] ty #[.slice (some ⟨b,0,none⟩) i c,.int .i64 ((n:Int)+(m:Int)- (i:Int))]).run Tryz.prog w=
   .ok (.slice (some ⟨w.heap.size,0,none⟩) (n+m) (grownCap w (n+m) c 149)) (w.drew.alloc (.cells ((cur.toList.take (i*2)).toArray++Builtin.zeroCells (vJ (.pair .str (.pair .str .unit))).cells (n+m-i)++Builtin.zeroCells (vJ (.pair .str (.pair .str .unit))).cells (grownCap w (n+m) c 149- (n+m))) 149)):=fun ty=>by
  have h:=Lib.run_append_grow_zeros (P:=Tryz.prog) w 24 3 ty 149 inf _ .i64 .i64 Tryz.underlying24 Tryz.underlying3 hinf hz (some ⟨b,0,none⟩) i c (cur.toList.take (i*2)) hold (n+m-i) (by omega) (by rw[hzs];decide) (by omega) (by omega) (by rw[hzb];omega) (by rw[hzb,hik];exact growslice_fits hroom hbig);rw[hik] at h;rw[hkk];exact h
 obtain⟨G,hG⟩: ∃G,G=grownCap w (n+m) c 149:=⟨_,rfl⟩;obtain⟨ROW,hROW⟩: ∃ROW:Array Value,ROW=(cur.toList.take (i*2)).toArray++Builtin.zeroCells (vJ (.pair .str (.pair .str .unit))).cells (n+m-i)++Builtin.zeroCells (vJ (.pair .str (.pair .str .unit))).cells (G- (n+m)):=⟨_,rfl⟩;rw[<-hG] at hrz;rw[<-hROW] at hrz;have hGn:n+m<=G:=by rw[hG];exact grownCap_ge w _ _ _
 have hGm:G<=maxLen:=by rw[hG];exact grownCap_le_maxLen w (n+m) c _ (by unfold maxLen;omega)
 have hzc:(vJ (.pair .str (.pair .str .unit))).cells.size=2:=rfl;have hRl:ROW.size=G*2:=by
  rw[hROW];simp only[aOO,aNA,size_zeroCells,hzc,aM5,aNi];omega
 have hRt:ROW.toList.take (i*2)=cur.toList.take (i*2):=by
  rw[hROW];simp only[Array.toList_append,aMU];rw[aNL (by rw[aM5,aNi];omega),List.take_take,Nat.min_self]
 obtain⟨q,hq⟩: ∃q,q=w.heap.size:=⟨_,rfl⟩;obtain⟨mid,hmid⟩: ∃mid,mid=(cur.toList.drop (i*2)).take ((n-i)*2):=⟨_,rfl⟩;have hml:mid.length=(n-i)*2:=by rw[hmid,aM5,aMP,aNi];omega
 have hmin1:Nat.min m (n+m-i)=m:=by simp only[Nat.min_def];split<;>omega
 have hmin2:Nat.min (n-i) (n+m- (i+m))=n-i:=by simp only[Nat.min_def];split<;>omega
 obtain⟨c1,hc1⟩: ∃c1:Array Value,c1=(ROW.toList.take (i*2)++vs++ROW.toList.drop (i*2+vs.length)).toArray:=⟨_,rfl⟩;have hc1l:c1.size=G*2:=by rw[hc1];simp only[aNA,aMN,aM5,aMP,aNi,hRl,hvl];omega
 obtain⟨c2,hc2⟩: ∃c2:Array Value,c2=(c1.toList.take ((i+m)*2)++mid++c1.toList.drop ((i+m)*2+mid.length)).toArray:=⟨_,rfl⟩;have hc2l:c2.size=G*2:=by rw[hc2];simp only[aNA,aMN,aM5,aMP,aNi,hc1l,hml];omega
 obtain⟨W1,hW1⟩: ∃W1,W1=w.drew.alloc (.cells ROW 149):=⟨_,rfl⟩;rw[<-hW1] at hrz;have hbq:b≠q:=by omega
 have hvq:vb≠q:=by omega
 have hg1:W1.heap[q]? =some (.cells ROW 149 (0,0)):=by rw[hW1,hq];exact aOP w.drew _
 have hO1: ∀k,k<w.heap.size->W1.heap[k]? =w.heap[k]? :=fun k hk=>by rw[hW1];exact aNg w.drew _ k hk
 have hcpA: ∀(W:World),W.heap=W1.heap->∀ty dc,(Builtin.copy_ #[24,24] ty #[.slice (some ⟨q,i*2,none⟩) (n+m-i) dc,.slice (some ⟨vb,voff,none⟩) m vc]).run Tryz.prog W= .ok (goInt (m:Nat)) (W.setRow q c1):=fun W hW ty dc=>by
  have h:=RD (P:=Tryz.prog) W 24 24 ty 149 2 q (i*2) (n+m-i) dc ⟨vb,voff,none⟩ m vc ROW 149 vs Tryz.underlying24 hsz (by rw[hW];exact hg1) (by rw[hvl,hmin1]) (fun j v hj=>by
    rw[aOw,aM7 (w:=w) (a:=⟨vb,voff+j,none⟩) (by rw[hW];exact hO1 vb hvw)];exact hvs j v hj) (by rw[hvl,hRl];omega) h1v
  rw[h,hmin1,hc1]
 have hcpB: ∀(W:World),W.heap=(W1.setRow q c1).heap->∀ty dc sc,(Builtin.copy_ #[24,24] ty #[.slice (some ⟨q,(i+m)*2,none⟩) (n+m- (i+m)) dc,.slice (some ⟨b,i*2,none⟩) (n-i) sc]).run Tryz.prog W= .ok (goInt (n-i:Nat)) (W.setRow q c2):=fun W hW ty dc sc=>by
  have h:=RD (P:=Tryz.prog) W 24 24 ty 149 2 q ((i+m)*2) (n+m- (i+m)) dc ⟨b,i*2,none⟩ (n-i) sc c1 149 mid Tryz.underlying24 hsz (by rw[hW];exact aOD W1 q ROW c1 _ _ hg1) (by rw[hml,hmin2]) (fun j v hj=>by
    rw[aOw,aM7 (w:=w) (a:=⟨b,i*2+j,none⟩) (by rw[hW,aOf W1 q b c1 hbq];exact hO1 b hbw),Lib.cell_of_heap hg];rw[hmid,aOs] at hj;split at hj
    ·rw[List.getElem?_drop,aNQ] at hj;exact hj
    ·cases hj) (by rw[hml,hc1l];omega) (fun v hv=>h1 v (a8p (hmid▸hv)))
  rw[h,hmin2,hc2]
 have hGi: ¬(G=i):=by omega
 have hGim: ¬(G=i+m):=by omega
 have hci: ¬(c=i):=by omega
 have hw1:IntKind.i64.wrap ((i:Int)+(m:Int))=(i:Int)+(m:Int):=by rw[aNH];omega
 have hw2:IntKind.i64.wrap ((n:Int)+(m:Int))=(n:Int)+(m:Int):=by rw[aNH];omega
 have hw3:IntKind.i64.wrap ((n:Int)+(m:Int)- (i:Int))=(n:Int)+(m:Int)- (i:Int):=by rw[aNH];omega
 have hb1:(0:Int)<=(i:Int)+(m:Int):=by omega
 have hin:i<=n:=by omega
 have htn:((i:Int)+(m:Int)).toNat=i+m:=by omega
 have hb3:(i:Int)<=(n:Int):=by omega
 have hG63:G<=9223372036854775807:=by unfold maxLen at hGm;omega
 rw[<-hq] at hrz⊢;have hend: ∀W:World,W.heap=((W1.setRow q c1).setRow q c2).heap->W.os=w.os->W.tape=w.tape->W.output=w.output->
   W.ownsRow 0 149 2 (.slice (some ⟨q,0,none⟩) (n+m) G) (n+m) (cur.toList.take (i*2)++vs++mid)/\w.grownBy W none:=fun W hW e1 e2 e3=>by
  have hg2:W.heap[q]? =some (.cells c2 149 (0,0)):=by rw[hW];exact aOD (W1.setRow q c1) q c1 c2 _ _ (aOD W1 q ROW c1 _ _ hg1)
  have hs:w.heap.size<=W.heap.size:=by
   have:=(aNc.1 hg2).1;omega
  refine⟨⟨?_,.inr ⟨q,G,c2,rfl,aNt _,hg2,hGn,hGm,hc2l,?_⟩⟩,⟨e1,e2,e3,hs,fun k hk _=> ?_⟩⟩
  ·simp only[aMN,aM5,aNi,hml,hvl];omega
  ·have x1:c1.toList=cur.toList.take (i*2)++vs++ROW.toList.drop (i*2+vs.length):=by rw[hc1,hRt]
   have l1:(cur.toList.take (i*2)++vs).length=(i+m)*2:=by rw[aMN,aM5,aNi,hvl];omega
   have x2:c2.toList=cur.toList.take (i*2)++vs++mid++c1.toList.drop ((i+m)*2+mid.length):=by
    rw[hc2];show c1.toList.take ((i+m)*2)++mid++_=_;rw[x1,<-l1,aOg]
   rw[x2,show (n+m)*2=(cur.toList.take (i*2)++vs++mid).length by rw[aMN,l1,hml];omega,aOg]
  ·rw[hW,aOf _ q k c2 (by omega),aOf _ q k c1 (by omega)];exact hO1 k hk
 have Hmid:=Lib.hid hmid;have Hq:=Lib.hid hq;have Hend:=Lib.hid hend;have HW1:=Lib.hid hW1;clear hkk hik hold hROW hG hRl hmid hq hend hW1 hc1 hc2 hc1l hc2l hml hmin1 hmin2 hz hzs hzb hinf hRt hg1 hO1
 go_enter Tryz.func240,Tryz.ntmps240
 go_wp2_with (first
  |(at_builtin;refine Lib.wpList_append_run _ rfl _ _ _ _ rfl _ _ rfl rfl _ _ (hrz _) ?_)
  |(at_builtin;refine wpList_copy_runI _ rfl _ _ 24 24 rfl _ _ rfl rfl (hcpA _ rfl _ _) ?_))
 go_region_law_o (refine step_copy_runI rfl _ _ 24 24 rfl (.slice (some ⟨q,(i+m)*2,none⟩) (n+m- (i+m)) (G- (i+m))) (.slice (some ⟨b,i*2,none⟩) (n-i) (c-i)) (by simp [Act.eval,Act.put]) (by simp [Act.eval,Act.put]) (hcpB (W1.setRow q c1).drew rfl _ (G- (i+m)) (c-i)) ?_)
 go_wp2_with fail
 go_ret
 rw[<-Hmid.out];exact⟨G,rfl,Hend.out _ rfl (by rw[HW1.out];rfl) (by rw[HW1.out];rfl) (by rw[HW1.out];rfl)⟩
theorem aGt (v:Value) (n i m vc:Nat) (v0:Option Addr) (xs vs:List Value) (w:World) (hin:i<=n) (hown:w.ownsRow 0 149 2 v n xs) (hby:(n+m)*32<=140737488355328)
  (h1: ∀u∈xs,u.oneCell'=true) (hv0:m=0\/∃vb voff,v0=some ⟨vb,voff,none⟩/\v.ownBlock≠some vb/\∀j u,vs[j]? =some u->w.cell? ⟨vb,voff+j,none⟩=some u)
  (hvl:vs.length=m*2) (h1v: ∀v∈vs,v.oneCell'=true):
  Calls Tryz.prog 240 #[v,.int .i64 i,.slice v0 m vc] w fun e w'=>
   ∃v',e= .returned v'/\w'.ownsRow 0 149 2 v' (n+m) (xs.take (i*2)++vs++xs.drop (i*2))/\(m=0->v'=v)/\(∀b,v'.ownBlock=some b->b=w.heap.size\/v.ownBlock=some b)/\w.grownBy w' v.ownBlock:=by
 have h63:n+m<=maxLen:=by unfold maxLen;omega
 rcases Nat.eq_zero_or_pos m with hm|hm
 ·subst hm;have hvs:vs=[]:=aOe.1 (by omega);subst hvs;have hres:w.ownsRow 0 149 2 v (n+0) (xs.take (i*2)++[]++xs.drop (i*2)):=by
   rw[List.append_nil,aNO];exact hown
  obtain⟨base,c,rfl,hnc,hc⟩: ∃base c,v= .slice base n c/\n<=c/\c<=maxLen:=by
   rcases hown.2 with⟨rfl,rfl⟩ |⟨b,c,cur,rfl,_,_,h2,h3,_⟩
   ·exact⟨none,0,rfl,aM2 _,by unfold maxLen;omega⟩
   ·exact⟨_,c,rfl,h2,h3⟩
  refine(aGq base n c i v0 vc w hin hnc hc).mono ?_;rintro e w' ⟨rfl,rfl⟩;exact⟨_,rfl,hres,fun _=>rfl,fun b hb=> .inr hb,World.grownBy.refl _ _⟩
 ·obtain⟨vb,voff,rfl,hvb,hvs⟩: ∃vb voff,v0=some ⟨vb,voff,none⟩/\v.ownBlock≠some vb/\∀j u,vs[j]? =some u->w.cell? ⟨vb,voff+j,none⟩=some u:=by
   rcases hv0 with h|h
   ·omega
   ·exact h
  have hxl:=hown.1;rcases aNV i n with hlt|hge
  ·rcases hown.2 with⟨rfl,rfl⟩ |⟨b,c,cur,rfl,_,hbk,hnc,hcm,hcs,htk⟩
   ·omega
   ·have hb:vb≠b:=fun h=>hvb (by rw[h];rfl);have hx1:cur.toList.take (i*2)=xs.take (i*2):=by rw[<-htk,List.take_take,Nat.min_eq_left (by omega)]
    have hx2:(cur.toList.drop (i*2)).take ((n-i)*2)=xs.drop (i*2):=by rw[aGn hin,htk]
    rcases aNV c (n+m) with hr|hr
    ·refine(aGs b n c i vb voff m vc cur vs w hlt hm hnc hr hby hbk hcs hvl hvs (by rw[htk];exact h1) h1v).mono ?_;rintro e w' ⟨G,rfl,ho,hg⟩;rw[hx1,hx2] at ho;exact⟨_,rfl,ho,fun h=>by omega,fun b hb=> .inl (by simpa[Value.ownBlock] using hb.symm),⟨hg.os,hg.tape,hg.output,hg.size,fun k hk _=>hg.block k hk (by simp)⟩⟩
    ·refine(aGp b n c i vb voff m vc cur vs w hlt hm hr hcm hb hbk hcs hvl hvs (by rw[htk];exact h1) h1v).mono ?_;rintro e w' ⟨rfl,cur',rfl,hs,ht⟩;rw[hx1,hx2] at ht;refine⟨_,rfl,⟨?_,.inr ⟨b,c,cur',rfl,aNt _,aOD w.drew b cur cur' _ _ hbk,hr,hcm,by rw[hs,hcs],ht⟩⟩,fun h=>by omega,fun b' hb'=> .inr hb',⟨rfl,rfl,rfl,by simp,fun k hk hne=>aOf w.drew b k cur' (fun h=>hne (by rw[h];rfl))⟩⟩;simp only[aMN,aM5,aMP,hxl,hvl];omega
  ·obtain rfl:i=n:=by omega
   refine(aGr v i vb voff m vc xs vs w hm hown h63 hby hvl hvs h1v).mono ?_;rintro e w' ⟨q,cap,rfl,ho,hq,hg⟩;refine⟨_,rfl,?_,fun h=>by omega,fun b hb=> ?_,hg⟩
   ·rw[<-hxl,List.take_length,aNu,List.append_nil];exact ho
   ·have hb:q=b:=by simpa[Value.ownBlock] using hb
    exact hb▸hq
theorem a8q {α:Type}{R:α->List Value->Prop}{c:Nat}: ∀{l:List α}{cs:List Value}(i:Nat),sC R c l cs->sC R c (l.take i) (cs.take (i*c))
 |_,_,0,_=>by simp [sC]
 |[],_,_+1,h=>by rw[show _=[] from h];simp [sC]
 |x::l,_,i+1,⟨c1,c2,e,h1,h2,h3⟩=>by
  refine⟨c1,c2.take (i*c),?_,h1,h2,a8q i h3⟩;rw[e,aNU,Nat.add_comm,<-h1,List.take_length_add_append]
theorem a8r {α:Type}{R:α->List Value->Prop}{c:Nat}: ∀{l:List α}{cs:List Value}(i:Nat),sC R c l cs->sC R c (l.drop i) (cs.drop (i*c))
 |_,_,0,h=>by simpa using h
 |[],_,_+1,h=>by rw[show _=[] from h];simp [sC]
 |x::l,_,i+1,⟨c1,c2,e,h1,h2,h3⟩=>by
  rw[e,show (i+1)*c=c1.length+i*c by rw[h1,aNU,Nat.add_comm],List.drop_length_add_append];exact a8r i h3
def AI {t:Type}(l:List t) (i:Int) (v:List t):List t:=List.take i.toNat l++v++List.drop i.toNat l
@[go_sem] def XO:List oZ->List oX->Option pD
 |[(.own 0 O,none),(.val (.int .i64) Z,none),(.val (.list (.pair .str (.pair .str .unit))) aA,none)],[.row 149 (.pair .str (.pair .str .unit)) aB aC]=>
  some ⟨[O=aC,0<=Z/\Z<=List.length aB,(List.length aB+List.length aA)*32<=140737488355328],[(.own 0 (List.length (AI aB Z aA)),none)],[.row 149 (.pair .str (.pair .str .unit)) (AI aB Z aA) (List.length (AI aB Z aA))]⟩
 |_,_=>none
theorem aGu:B7 Tryz.prog 240 XO:=by
 refine⟨fun _ _=>rfl,fun g w args vals L r hH ha hC hs=> ?_⟩;unfold XO at hC;split at hC
 ·rename_i n iI vl l n2;cases hC;obtain rfl:n=n2:=hs _ (by simp);obtain⟨hi0,hil⟩:=hs (0<=iI/\iI<=List.length l) (by simp);have hby:=hs ((List.length l+List.length vl)*32<=140737488355328) (by simp);clear hs;obtain⟨va,_,rfl,ra,vb,_,rfl,rb,vc,_,rfl,rc,hv⟩:=ha;cases hv;have hg0:p9 (pG 0 [oX.row 149 (.pair .str (.pair .str .unit)) l n]) 0=some (.row 149 (.pair .str (.pair .str .unit)) l n):=rfl;obtain⟨hl,v,xs,hcur,hown,hF,hnone,hseal⟩:=hH.blk 0 _ hg0;have hva:va=v:=by
   have:=ra.1.1;rw[hcur] at this;exact(aML this).symm
  subst hva;obtain⟨i,rfl⟩:=Int.eq_ofNat_of_zero_le hi0;have hvb:vb= .int .i64 i:=vC rb.1;subst hvb;obtain⟨a,cap,rfl,hcap,hlist⟩:=CK rc.1;have hRone: ∀(x:(Ty.pair .str (.pair .str .unit)).den) cs,Rd g w (.pair .str (.pair .str .unit)) x cs->∀v∈cs,v.oneCell'=true:=fun x cs h=>zP h;obtain⟨vs,hFv,hv0⟩: ∃vs,sC (Rd g w (.pair .str (.pair .str .unit))) 2 vl vs/\(vl.length=0\/∃vb voff,a=some ⟨vb,voff,none⟩/\va.ownBlock≠some vb/\∀j u,vs[j]? =some u->w.cell? ⟨vb,voff+j,none⟩=some u):=by
   rcases hlist with rfl|⟨b,o,rfl,hL⟩
   ·exact⟨[],rfl,.inl rfl⟩
   ·obtain⟨cs,h1,h2,h3⟩:=JP hL;rcases Nat.eq_zero_or_pos vl.length with h0|h0
    ·exact⟨cs,h1,.inl h0⟩
    ·exact⟨cs,h1,.inr ⟨b,o,rfl,fun hb=>hseal b hb _ (h3 0 (Nat.mul_pos h0 (by decide))),h2⟩⟩
  have hvl:=FZ hFv;have hil2:(i:Int)<=(l.length:Int):=hil;have hil':i<=n:=by omega
  subst hl;refine(aGt va l.length i vl.length cap a xs vs w (by omega) hown hby (MM hRone hF) hv0 hvl (MM hRone hFv)).mono ?_;rintro e w' ⟨v',rfl,hown',hm0,hob,hgr⟩;have hlen:(AI l (i:Int) vl).length=l.length+vl.length:=by
   simp only[AI,aNp,aMN,aM5,aMP];omega
  have hF':sC (Rd g w (.pair .str (.pair .str .unit))) 2 (AI l (i:Int) vl) (xs.take (i*2)++vs++xs.drop (i*2)):=by
   unfold AI;rw[aNp];exact ME (ME (a8q i hF) hFv) (a8r i hF)
  have hsl: ∀b o,g.S b o->w'.cell? ⟨b,o,none⟩=w.cell? ⟨b,o,none⟩:=fun b o h=>aM7 (a:=⟨b,o,none⟩) (hgr.block b (hH.sl b o h) (fun e=>hseal b e.symm o h));have hE:=qU.row (side:=[]) (rds:=[]) (s:=(.own 0 (AI l (i:Int) vl).length,none)) (val:=v') (k:=0) (g:=g) (w:=w) (H:=pG 0 [oX.row 149 (.pair .str (.pair .str .unit)) l l.length]) hH (e:=149) (t:= .pair .str (.pair .str .unit)) (l:=AI l (i:Int) vl) (n:=(AI l (i:Int) vl).length) (v:=v') rfl (by rw[hlen];exact hown') hF'
   (fun m hm=>hnone m (by omega)) (fun u hu=>by
    rcases Nat.eq_zero_or_pos vl.length with h0|h0
    ·rw[hlen,h0,aNN,hcur] at hu;rw[hm0 h0];exact(aML hu).symm
    ·rw[hnone _ (by omega)] at hu;cases hu)
   (.inr ⟨va.ownBlock,hgr,fun b hb o=>⟨0,_,by simp,hg0,va,hcur,hb⟩⟩) hsl
   (fun b hb o hS=>by
    rcases hob b hb with h|h
    ·have:=hH.sl b o hS;omega
    ·exact hseal b h o hS)
   (fun b hb=>(hob b hb).imp (fun h=>by omega) fun h o=>⟨0,_,by simp,hg0,va,hcur,h⟩)
   ⟨⟨by simp [Gh.tok],by
    rw[hlen];rcases hown'.2 with⟨rfl,h⟩ |⟨b,cap',_,rfl,_,_,h,_⟩
    ·exact .inl ⟨rfl,h⟩
    ·exact .inr ⟨b,cap',rfl,h⟩⟩,trivial⟩
  refine⟨v',_,rfl,⟨fun b o h=>⟨hE.le.S b o h,hE.le.cell b o h⟩,hE.heap.ext ?_,hE.slot,hE.fr.mono fun b o ⟨i,blk,_,h1,h2⟩=>⟨i,blk,h1,h2⟩,fun i blk b o hi ho=> ?_,fun i t x ts h=> ?_,fun i t x ts u y us h _=> ?_,fun _ _ _ h=>h,fun i m u hi h=> ?_⟩⟩
  ·intro i
   match i with
   |0=>rfl
   |i+1=>rfl
  ·match i,hi with
   |0,hi=>
    cases hi;exact(hE.perm 0 _ b o (by simp [pB]) rfl ho).imp id fun⟨i,blk,_,h1,h2⟩=>⟨i,blk,h1,h2⟩
   |i+1,hi=>simp at hi
  ·match i,h with
   |0,h=>cases h
   |i+1,h=>simp at h
  ·match i,h with
   |0,h=>cases h
   |i+1,h=>simp at h
  ·exact hE.le.cur i m u h
 ·cases hC
end Go.Proofs.YtbbpilohihldiaaGreatDoor
namespace Go.Proofs.YtbbpilohihldiaaGreatDoor.Vc
open Go.RowKit
@[go_sem] def XP (np:Nat):DV->Bool
 | .any=>true
 | .nilS=>true
 | .val .ref (some (i,_))=>decide (i<np)
 | .val .ref none=>true
 | .val t _=>t.pure
 |_=>false
@[go_sem] def RE (np:Nat):oZ->Bool
 |(d,none)=>XP np d
 |(.val (.list t) _,some k)=>t.pure&&decide (k<np)
 |_=>false
@[go_sem] def K4 (np:Nat):List (Nat×oZ)->Bool
 |[]=>true
 |(_,s)::r=>RE np s&&K4 np r
theorem a8s {np:Nat}: ∀{env:List (Nat×oZ)},K4 np env=true->∀t,RE np (lk env t)=true
 |[],_,t=>rfl
 |(k,s)::r,h,t=>by
  simp only[K4,aMS] at h;unfold lk;split
  ·exact h.1
  ·exact a8s h.2 t
theorem aGv {np:Nat}{g g':Gh}{w:World}(hS:g'.S=g.S) (hJ: ∀i,i<np->g'.J i=g.J i) (hC: ∀i n,i<np->g'.cur i n=g.cur i n) {s:oZ}{v:Value}(hp:RE np s=true) (h:pW g w s v):pW g' w s v:=by
 have hV: ∀{t:Ty}{x:t.den},t.pure=true->rZ g w t x v->rZ g' w t x v:=fun ht hv=>by
  rcases hv with⟨h1,cs,h2,h3⟩ |⟨h1,h2⟩
  ·exact .inl ⟨h1,cs,h2,uJ hS ht h3⟩
  ·exact .inr ⟨h1,uJ hS ht h2⟩
 have hD: ∀d,XP np d=true->yN g w d v->yN g' w d v:=by
  intro d hd hr;unfold XP at hd;split at hd
  ·trivial
  ·exact hr
  ·rename_i i o;have hi:=aNq hd;rcases hr with⟨h1,_⟩ |⟨h1,h2⟩
   ·cases h1
   ·refine .inr ⟨h1,?_⟩;obtain⟨p,hp1,hp2⟩:=h2;exact⟨p,(hJ i hi).trans hp1,hp2⟩
  ·rcases hr with⟨h1,_⟩ |⟨h1,h2⟩
   ·cases h1
   ·exact .inr ⟨h1,h2⟩
  ·exact hV hd hr
  ·cases hd
 obtain⟨d,k⟩:=s;cases k with
 |none=>exact⟨hD d hp h.1,trivial⟩
 |some k=>
  unfold RE at hp;split at hp
  ·rename_i heq;cases heq
  ·rename_i t x k' heq;cases heq;simp only[aMS,aMQ] at hp;exact⟨hV (t:= .list t) hp.1 h.1,(hC k _ hp.2).trans h.2⟩
  ·cases hp
theorem aGw {np:Nat}{g g':Gh}{w w':World}{env:List (Nat×oZ)}{tmps:Array Value}(h:AD g w env tmps) (hp:K4 np env=true) (hS: ∀b o,g.S b o->g'.S b o) (hc: ∀b o,g.S b o->w'.cell? ⟨b,o,none⟩=w.cell? ⟨b,o,none⟩)
  (hJ: ∀i p,i<np->g.J i=some p->g'.J i=some p) (hC: ∀i n v,i<np->g.cur i n=some v->g'.cur i n=some v):AD g' w' env tmps:=fun t=>by
 have le:Le g w ⟨g'.S,fun i=>if i<np then g'.J i else g.J i,fun i n=>if i<np then g'.cur i n else g.cur i n⟩ w':=by
  refine⟨hS,hc,fun i p hi=> ?_,fun i n v hi=> ?_⟩
  ·show (if i<np then _ else _)=_;split
   ·rename_i hlt;exact hJ i p hlt hi
   ·exact hi
  ·show (if i<np then _ else _)=_;split
   ·rename_i hlt;exact hC i n v hlt hi
   ·exact hi
 exact aGv (np:=np) (g:=⟨g'.S,fun i=>if i<np then g'.J i else g.J i,fun i n=>if i<np then g'.cur i n else g.cur i n⟩) (g':=g') rfl (fun i hi=>(aMI hi).symm) (fun i n hi=>by show g'.cur i n=(if i<np then g'.cur i n else g.cur i n);rw[aMI hi]) (a8s hp t) (A9 le (h t))
theorem s3.inner {A A':Nat->Nat->Prop}{L L':List oX}{g0 g g':Gh}{w0 w w':World}{H H':qO}(h:s3 A L g0 w0 g w H) (k:s3 A' L' g w g' w' H') (hA: ∀b o,A' b o->w.heap.size<=b\/xU g H b o) (hl:L.length<=L'.length)
  (hL: ∀i,i<L.length->∀b,L'[i]? =some b->p9 H i=some b):s3 A L g0 w0 g' w' H':=by
 have own: ∀b o,A' b o->w0.heap.size<=b\/A b o:=fun b o x=>by
  rcases hA b o x with h1|⟨i,blk,h1,h2⟩
  ·exact .inl (aNC h.fr.size h1)
  ·exact h.perm i blk b o h1 h2
 refine⟨fun b o x=> ?_,h.fr.trans k.fr own,fun i blk b o h1 h2=> ?_,fun i p hi hp=>k.J i p (by omega) (h.J i p hi hp),fun i hi=>k.live i (by omega),fun i u y us hi hg=> ?_,fun i n v hi hv=>k.cur i n v (by omega) (h.cur i n v hi hv)⟩
 ·obtain⟨h1,h2⟩:=h.shut b o x;obtain⟨k1,k2⟩:=k.shut b o h1;exact⟨k1,k2.trans h2⟩
 ·rcases k.perm i blk b o h1 h2 with h3|h3
  ·exact .inl (aNC h.fr.size h3)
  ·exact own b o h3
 ·obtain⟨x,ts,hx⟩:=k.ty i u y us (by omega) hg;exact h.ty i u x ts hi (hL i hi _ hx)
theorem s3.start {g:Gh}{w:World}{H:qO}{L':List oX}(hH:rH g w H) (hL: ∀i b,L'[i]? =some b->p9 H i=some b/\b≠.dead) (hty: ∀i,i<L'.length->∀b,p9 H i=some b->L'[i]? =some b):s3 (xU g H) L' g w g w H:=by
 refine⟨fun b o h=>⟨h,rfl⟩,Fr.refl _ _ _,fun i blk b o hg ho=> .inr ⟨i,blk,hg,ho⟩,fun _ _ _ h=>h,fun i hi=> ?_,fun i u y us hi hg=>⟨y,us,hty i hi _ hg⟩,fun _ _ _ _ h=>h⟩;obtain⟨h1,h2⟩:=hL i L'[i] (by simp);have hbk:=hH.blk i _ h1;generalize L'[i]=blk at hbk h2;cases blk with
 |cells t x ts=>obtain⟨p,cs,hp,_⟩:=hbk;exact .inl ⟨p,hp⟩
 |grow e c n=>obtain⟨v,xs,hv,_⟩:=hbk;exact .inr ⟨n,v,hv⟩
 |row e t l n=>obtain⟨_,v,xs,hv,_⟩:=hbk;exact .inr ⟨n,v,hv⟩
 |map k v l=>obtain⟨p,es,cl,hp,_⟩:=hbk;exact .inl ⟨p,hp⟩
 |iter s n=>obtain⟨p,hp,_⟩:=hbk;exact .inl ⟨p,hp⟩
 |dead=>exact absurd rfl h2
@[go_sem] def K5 (env:List (Nat×oZ)):List Nat->List oZ->List (Nat×oZ)
 |p::ps,s::ss=>K5 (sQ (some p) s env) ps ss
 |_,_=>env
theorem a8t {g:Gh}{w:World}: ∀{ps:List Nat}{ss:List oZ}{vs:List Value}{env:List (Nat×oZ)}{tmps:Array Value},AD g w env tmps->(∀p∈ps,p<tmps.size)->uB g w ss vs->ps.length=ss.length->
  AD g w (K5 env ps ss) ((ps.zip vs).foldl (fun t (q:Nat×Value)=>t.setIfInBounds q.1 q.2) tmps)/\((ps.zip vs).foldl (fun t (q:Nat×Value)=>t.setIfInBounds q.1 q.2) tmps).size=tmps.size
 |[],[],vs,env,tmps,h,_,ha,_=>by
  have:vs=[]:=ha;subst this;exact⟨h,rfl⟩
 |p::ps,s::ss,vs,env,tmps,h,hp,ha,hl=>by
  obtain⟨v,vs',rfl,h1,h2⟩:=ha;have hput:AD g w (sQ (some p) s env) (tmps.setIfInBounds p v):=WV (a:={tmps:=tmps,defers:=[]}) (o:=⟨some p,.move (.tmp 0),0, "",#[],none⟩) (N:=tmps.size) h (Le.refl g w) h1 rfl (by simpa[FV] using hp p (by simp))
  have:=a8t (tmps:=tmps.setIfInBounds p v) hput (fun q hq=>by simpa using hp q (aM4 _ hq)) h2 (by simpa using hl);exact⟨this.1,by rw[List.zip_cons_cons,List.foldl_cons];rw[this.2];simp⟩
def a8u (P:Program) (gf:Nat) (u:Ty) {ι:Type}(pre:u.den->Prop) (items:u.den->List ι) (vl:ι->List Value):Prop:=
 (∀args w,(callFunc gf args).run P w= .ok (.enter gf args) w)/\
 ∀(l b o:Nat) (x:u.den) (cs:List Value) (g:Gh) (W0:World) (J:Nat->World->Prop) (Jx:World->Prop),pre x->Rd g W0 u x cs->
  (∀i W,J i W->W.rangeAt b o cs/\∀b o,g.S b o->W.cell? ⟨b,o,none⟩=W0.cell? ⟨b,o,none⟩)->
  (∀i W d,J i W->J i {W with drawn:=d})->(∀W d,Jx W->Jx {W with drawn:=d})->
  (∀i it W,(items x)[i]? =some it->J i W->YieldAt Fence.wide 0 P l (vl it).toArray W fun e W'=>(e= .returned (.bool true)/\J (i+1) W')\/(e= .returned (.bool false)/\Jx W'))->
  ∀W,J 0 W->Calls P gf #[.func (.yield l) #[] #[],.pointer (some ⟨b,o,none⟩)] W fun e W'=>(∃v,e= .returned v)/\(J (items x).length W'\/Jx W')
def AJ {ι σ ρ:Type}(f:ι->σ->Option (σ⊕ρ)):List ι->σ->Option (σ⊕ρ)
 |[],x=>some (.inl x)
 |it::r,x=>(f it x).bind fun w=>match w with
  | .inl x'=>AJ f r x'
  | .inr y=>some (.inr y)
theorem aGx {ι σ ρ:Type}{f:ι->σ->Option (σ⊕ρ)}{it:ι}{r:List ι}{x:σ}{y:σ⊕ρ}(h:AJ f (it::r) x=some y): ∃w,f it x=some w/\(∀x',w= .inl x'->AJ f r x'=some y)/\(∀z,w= .inr z->y= .inr z):=by
 unfold AJ at h;cases hf:f it x with
 |none=>rw[hf] at h;cases h
 |some w=>
  rw[hf] at h;refine⟨w,rfl,fun x' e=> ?_,fun z e=> ?_⟩
  ·subst e;exact h
  ·subst e;exact(aML h).symm
def qA (st:St):Ex->St->Prop
 | .normal,s=> ∃k:uL,s.keep k=st
 |_,_=>False
def qF {σ ρ:Type}(encH:σ->List oX) (E0:List (Nat×oZ)) (N np np':Nat) (w:σ⊕ρ) (Q:Ex->St->Prop):Ex->St->Prop
 | .normal,s=> ∃(k:uL) (x:σ),w= .inl x/\s.keep k=⟨[],pG 0 (encH x),pN (encH x),N,np'⟩
 |e,s=> ∃(k:uL) (B:List oX),s.keep k=⟨[],pG 0 B,pN B,N,np'⟩/\(∃z,w= .inr z)/\Q e ⟨E0,pG 0 B,pN B,N,np⟩
section
variable {B:Nat}{A:Nat->Nat->Prop}{L:List oX}{g0 g:Gh}{w0 w:World}{b0 o0 n0:Nat}{cs:List Value}{E0:List (Nat×oZ)}{tmps:Array Value}{ds:List Deferred}
structure DG (B:Nat) (A:Nat->Nat->Prop) (L:List oX) (g0:Gh) (w0:World) (g:Gh) (w:World) (b0 o0 n0:Nat) (cs:List Value) (E0:List (Nat×oZ)) (tmps:Array Value) (ds:List Deferred) (g1:Gh) (W:World) (H:qO):Prop where
 env:AD g1 W E0 tmps
 heap:rH g1 W H
 good:s3 A L g0 w0 g1 W H
 sld: ∀b o,g.S b o->g1.S b o/\W.cell? ⟨b,o,none⟩=w.cell? ⟨b,o,none⟩
 rng:W.rangeAt b0 o0 cs
 len:cs.length=n0
 lt:0<n0->b0<W.heap.size
 out: ∀o,o0<=o->o<o0+n0->¬xU g1 H b0 o
 defs:xV B W ds
theorem DG.turn {g1:Gh}{W W2:World}{H:qO}(h:DG B A L g0 w0 g w b0 o0 n0 cs E0 tmps ds g1 W H) (t:tN w0.heap.size W W2) {ds':List Deferred}(hd:xV B W2 ds'):DG B A L g0 w0 g w b0 o0 n0 cs E0 tmps ds' g1 W2 H:=by
 refine⟨fun x=>A9 (t.le h.heap.sl) (h.env x),t.heapOk h.heap,h.good.turn h.heap.sl t,fun b o x=>⟨(h.sld b o x).1,(t.cell (h.heap.sl b o (h.sld b o x).1) o).1.trans (h.sld b o x).2⟩,fun j v hv=> ?_,h.len,fun x=>aNm (h.lt x) t.size,h.out,hd⟩;have hj:j<cs.length:=(aMX.1 hv).1;have:=h.len;exact(t.cell (h.lt (by omega)) _).1.trans (h.rng j v hv)
theorem DG.inner {g1 g2:Gh}{W W2:World}{H H2:qO}{L':List oX}{np':Nat}(h:DG B A L g0 w0 g w b0 o0 n0 cs E0 tmps ds g1 W H) (k:s3 (xU g1 H) L' g1 W g2 W2 H2) (hH:rH g2 W2 H2) (hpin:K4 np' E0=true) (hnp:np'=L'.length) (hl:L.length<=L'.length)
  (hL: ∀i,i<L.length->∀b,L'[i]? =some b->p9 H i=some b):DG B A L g0 w0 g w b0 o0 n0 cs E0 tmps ds g2 W2 H2:=by
 subst hnp;refine⟨aGw h.env hpin (fun b o x=>(k.shut b o x).1) (fun b o x=>(k.shut b o x).2) (fun i p hi x=>k.J i p hi x) (fun i n v hi x=>k.cur i n v hi x),hH,h.good.inner k (fun b o x=> .inr x) hl hL,fun b o x=> ?_,fun j v hv=> ?_,h.len,fun x=>aNm (h.lt x) k.fr.size,fun o h1 h2 ⟨i,blk,h3,h4⟩=> ?_,h.defs.same fun D hD=> ?_⟩
 ·obtain⟨h1,h2⟩:=h.sld b o x;exact⟨(k.shut b o h1).1,(k.shut b o h1).2.trans h2⟩
 ·have hj:j<cs.length:=(aMX.1 hv).1;have:=h.len;exact(k.fr.cell _ _ (h.lt (by omega)) (h.out _ (by omega) (by omega))).1.trans (h.rng j v hv)
 ·rcases k.perm i blk _ _ h3 h4 with h5|h5
  ·have:=h.lt (by omega);omega
  ·exact h.out o h1 h2 h5
 ·rw[k.fr.blk D (aNc.1 hD).1 (fun o ⟨i,blk,h1,h2⟩=>QY (h.heap.blk i blk h1) h2 hD rfl)];exact hD
theorem a8v {g1 g2:Gh}{W W2:World}{H H2:qO}{L':List oX}(hH:rH g1 W H) (k:s3 (xU g1 H) L' g1 W g2 W2 H2) {D:Nat}{ob:Obj}(hD:W.heap[D]? =some ob) (hm:EN ob=true):W2.heap[D]? =some ob:=by
 rw[k.fr.blk D (aNc.1 hD).1 (fun o ⟨i,blk,h1,h2⟩=>QY (hH.blk i blk h1) h2 hD hm)];exact hD
end
theorem tN.put {B:Nat}{W:World}{l:Nat}{o o':Obj}(h:W.heap[l]? =some o) (hB:B<=l) (hN:NG<=l) (hm:EN o=true) (hm':EN o'=true):tN B W (W.putObj l o'):=by
 have hlt:=(aNc.1 h).1;refine⟨rfl,rfl,rfl,by simp [World.putObj],fun b hb=> ?_⟩;by_cases e:b=l
 ·subst e;exact .inr ⟨hB,hN,_,_,h,World.putObj_heap_same hlt,hm,hm'⟩
 ·exact .inl (World.putObj_heap_other e)
theorem tN.new (B:Nat) (W:World) (o:Obj):tN B W (W.alloc o):=by
 refine⟨rfl,rfl,rfl,by simp,fun b hb=> .inl ?_⟩;exact aNg W o b hb
theorem a8w {e:Ex}{x:Exit}(h:BV x=some e):(x= .normal/\e= .normal)\/(x= .ret/\e= .ret)\/∃id,x= .exit id/\e= .exit id:=by
 cases x<;>simp only[BV,aMJ] at h
 ·exact .inl ⟨rfl,h.symm⟩
 ·exact .inr (.inr ⟨_,rfl,h.symm⟩)
 ·cases h
 ·exact .inr (.inl ⟨rfl,h.symm⟩)
 ·cases h
 ·cases h
def aGy:Ex->Option Code
 | .normal=>none
 | .ret=>some .ret
 | .exit id=>some (.exit id)
theorem a8x {P:Program}{gf:Nat}{u:Ty}{ι:Type}{pre:u.den->Prop}{items:u.den->List ι}{vl:ι->List Value}(hit:a8u P gf u pre items vl) {sl:ι->List oZ}(hsl: ∀it g w,uB g w (sl it) (vl it))
  {fo:Operand}{ps:Array Tmp}{assign body:Code}{s:St}{Q:Ex->St->Prop}{c:Nat}{k0:Option Nat}(hf:sM s.env fo=(.val .clo (some (gf,[(c,0)])),k0)) {xc:u.den}{toks:List (Nat×Nat)}(hc:p9 s.H c=some (.cells u xc toks)) (hpre:pre xc)
  {σ ρ:Type}{f:ι->σ->Option (σ⊕ρ)}{x0:σ}{y:σ⊕ρ}(hy:AJ f (items xc) x0=some y)
  (E0:List (Nat×oZ)) (E1:ι->List (Nat×oZ)) (encH:σ->List oX) (np':Nat) (k:uL) (hk:vU s.np k.ids=true) (h0:s.keep k=⟨E0,pG 0 (encH x0),pN (encH x0),s.N,s.np⟩)
  (hcd:k.ids.all (fun q=>decide (q.2≠c))=true) (hpin:K4 np' E0=true) (hnp:s.np<=np') (hlen: ∀x,np'<=pN (encH x)) (hdead: ∀x,((encH x).take np').all (fun b=>match b with| .dead=>false|_=>true)=true)
  (hps: ∀it,ps.toList.length=(sl it).length) (hpN:(ps.toList.all fun p=>decide (p<s.N))=true)
  (hround: ∀it x w,f it x=some w->(∀z,w= .inr z->y= .inr z)->Ev true P assign ⟨K5 E0 ps.toList (sl it),pG 0 (encH x),pN (encH x),s.N,np'⟩ (qA ⟨E1 it,pG 0 (encH x),pN (encH x),s.N,np'⟩)/\
   Ev true P body ⟨E1 it,pG 0 (encH x),pN (encH x),s.N,np'⟩ (qF encH E0 s.N s.np np' w Q))
  (hdone: ∀x,y= .inl x->Q .normal ⟨E0,pG 0 (encH x),pN (encH x),s.N,s.np⟩):Ev false P (.rangeFunc fo ps assign body) s Q:=by
 intro ro hro A L g0 w0 g a w B hB hr hg hn;have hN:ro=none:=by cases ro<;>first|rfl|cases hro
 subst hN;have hfv:=yT hr.env fo;rw[hf] at hfv;obtain⟨p,hpJ,hev⟩: ∃p,g.J c=some p/\a.eval fo= .func (.func gf) #[] #[.pointer (some ⟨p.1,p.2,none⟩)]:=by
  rcases hfv.1 with⟨h1,_⟩ |⟨_,vs,⟨p,vs',h4,h5,h6⟩,h3⟩
  ·cases h1
  ·rw[show vs'=[] from h6] at h5;subst h5;simp only[aNB,and_true] at h3;exact⟨p,h4,h3⟩
 obtain⟨p',cs,hp',hRc,hra,hth,hns,htk⟩:=hr.heap.blk c _ hc;rw[hpJ] at hp';obtain rfl:=aML hp';have hcl:=rP hRc;obtain⟨hr1,hg1,hn1,_⟩:=WU hr hg hn k hk;have hout: ∀o,p.2<=o->o<p.2+u.cells->¬xU (t8 g s.np k.ids) (s.keep k).H p.1 o:=by
  rintro o h1 h2 ⟨i,blk,h3,h4⟩;have h3':p9 (M8 s k (vU s.np k.ids)).H i=some blk:=h3;rw[hk] at h3';obtain⟨o',h5,rfl⟩:=G3 h3';obtain⟨c1,h6,h7⟩:=(HY hk h5 fun c1 hc1=>hr.heap.blk o' c1 hc1).2 _ _ h4;have h8:=aOa.1 hcd _ h5;exact hr.heap.dis o' c c1 _ p.1 o (aNq h8) h6 hc h7 ⟨p,hpJ,rfl,h1,h2⟩
 rw[h0] at hr1 hg1 hout;have inv0:DG B A L g0 w0 g w p.1 p.2 u.cells cs E0 a.tmps a.defers (t8 g s.np k.ids) w (pG 0 (encH x0)):=
  ⟨hr1.env,hr1.heap,hg1,fun b o h=>⟨h,rfl⟩,hra,hcl,fun hpos=>by
   obtain⟨v,hv⟩:=aMM.1 (hth.1 0 hpos).1;exact QA hv,hout,hr.def_⟩
 have hNG:NG<=w.heap.size:=hr.heap.tab.1.1;have hBw:w0.heap.size<=w.heap.size:=hg.fr.size;refine wpIn_rangeFunc fun fn _=> ?_;obtain⟨rec,hrec⟩: ∃rec:LoopState->Option Code->Loop,rec=fun st pe=>{state:=st,pending:=pe,fn,tmps:=a.tmps,params:=ps,assign,body,defers:=w.heap.size}:=⟨_,rfl⟩;obtain⟨W1,hW1⟩: ∃W1,(w.alloc (.deferred (some []))).alloc (.loop (rec .ready none))=W1:=⟨_,rfl⟩;have hL1:W1.heap[w.heap.size+1]? =some (.loop (rec .ready none)):=by
  rw[<-hW1];have:=World.alloc_heap_new (w.alloc (.deferred (some []))) (.loop (rec .ready none));rwa [World.size_alloc] at this
 have hK1:W1.heap[w.heap.size]? =some (.deferred (some [])):=by
  rw[<-hW1];exact(aNg _ _ _ (by simp)).trans (World.alloc_heap_new w _)
 have t1:tN w0.heap.size w W1:=by rw[<-hW1];exact(tN.new _ _ _).trans (tN.new _ _ _)
 obtain⟨ds,hds⟩: ∃ds:List Deferred,{target:= .collected w.heap.size,args:= #[]}::a.defers=ds:=⟨_,rfl⟩;have hd1:xV B W1 ds:=by
  rw[<-hds];refine⟨List.nodup_cons.2 ⟨fun hm=> ?_,hr.def_.1⟩,fun d hd=> ?_⟩
  ·obtain⟨D,h1,_,_,h4⟩:=hr.def_.2 _ hm;have h5:w.heap.size=D:=by injection h1 with h1;injection h1
   have:=(aNc.1 h4).1;omega
  ·rcases aM1.1 hd with rfl|hd
   ·exact⟨_,rfl,by omega,hNG,hK1⟩
   ·obtain⟨D,h1,h2,h3,h4⟩:=hr.def_.2 _ hd;have hlt:=(aNc.1 h4).1;refine⟨D,h1,h2,h3,?_⟩;rw[<-hW1];exact(aNg _ _ D (by simp;omega)).trans ((aNg _ _ D hlt).trans h4)
 let l:=w.heap.size+1
 let J:Nat->World->Prop:=fun i W=> ∃g1 x,AJ f ((items xc).drop i) x=some y/\DG B A L g0 w0 g w p.1 p.2 u.cells cs E0 a.tmps ds g1 W (pG 0 (encH x))/\
  (∀j,pN (encH x)<=j->g1.J j=none/\∀n,g1.cur j n=none)/\W.heap[l]? =some (.loop (rec .ready none))
 let Jx:World->Prop:=fun W=> ∃g1 Bl e cd z,aGy e=some cd/\y= .inr z/\Q e ⟨E0,pG 0 Bl,pN Bl,s.N,s.np⟩/\DG B A L g0 w0 g w p.1 p.2 u.cells cs E0 a.tmps ds g1 W (pG 0 Bl)/\
  (∀j,pN Bl<=j->g1.J j=none/\∀n,g1.cur j n=none)/\s.np<=pN Bl/\W.heap[l]? =some (.loop (rec .done (some cd)))
 have tdrawn: ∀(W:World) (d:Nat),tN w0.heap.size W {W with drawn:=d}:=fun W d=>⟨rfl,rfl,rfl,aM2 _,fun _ _=> .inl rfl⟩
 have hJd: ∀i W d,J i W->J i {W with drawn:=d}:=fun i W d ⟨g1,x,h1,h2,h3,h4⟩=>⟨g1,x,h1,h2.turn (tdrawn W d) (h2.defs.same fun _ h=>h),h3,h4⟩
 have hJxd: ∀W d,Jx W->Jx {W with drawn:=d}:=fun W d ⟨g1,Bl,e,cd,z,h1,h2,h3,h4,h5,h6,h7⟩=>⟨g1,Bl,e,cd,z,h1,h2,h3,h4.turn (tdrawn W d) (h4.defs.same fun _ h=>h),h5,h6,h7⟩
 have hround2: ∀i it W,(items xc)[i]? =some it->J i W->YieldAt Fence.wide 0 P l (vl it).toArray W fun e W'=>(e= .returned (.bool true)/\J (i+1) W')\/(e= .returned (.bool false)/\Jx W'):=by
  rintro i it W hi ⟨g1,x,hfold,inv,nb,hl⟩;have hil:i<(items xc).length:=(aMX.1 hi).1;have hdrop:(items xc).drop i=it::(items xc).drop (i+1):=by
   rw[aM8 hil];congr 1;exact(aMX.1 hi).2
  rw[hdrop] at hfold;obtain⟨wv,hw,hinl,hinr⟩:=aGx hfold;obtain⟨evA,evB⟩:=hround it x wv hw hinr;have hvl:(vl it).toArray.size=ps.size:=by
   rw[aNA,(R7 (hsl it g1 W)).1,<-hps it,aNi]
  have hyl:=run_yield (P:=P) (args:=(vl it).toArray) hl (by rw[hrec];exact hvl);rw[hrec] at hyl;refine⟨fn,_,assign,body,hyl,roundIn_of_wpIn trivial ?_⟩;have hz:(ps.zip (vl it).toArray).foldl (fun tmps (t,v)=>tmps.setIfInBounds t v) a.tmps=(ps.toList.zip (vl it)).foldl (fun t (q:Nat×Value)=>t.setIfInBounds q.1 q.2) a.tmps:=by
   rw[<-aOL,Array.toList_zip]
  rw[hz];obtain⟨henv,hsz⟩:=a8t inv.env (fun q hq=>by rw[hr.size];exact aNq (aOa.1 hpN q hq)) (hsl it g1 W) (hps it);have hL'len:((encH x).take np').length=np':=by
   rw[aM5];have:=hlen x;rw[R9] at this;omega
  have hLget: ∀i b,((encH x).take np')[i]? =some b->p9 (pG 0 (encH x)) i=some b:=fun i b h=>by
   rw[wB];exact(aOH (by have:=(aMX.1 h).1;omega)).symm.trans h
  have hLget2: ∀i b,((encH x).take np')[i]? =some b->p9 (pG 0 (encH x)) i=some b/\b≠.dead:=fun i b h=>⟨hLget i b h,fun e=>by
   have:=aOa.1 (hdead x) b (List.mem_of_getElem? h);subst e;cases this⟩
  have hLty: ∀i,i<((encH x).take np').length->∀b,p9 (pG 0 (encH x)) i=some b->((encH x).take np')[i]? =some b:=fun i hi b h=>by
   rw[wB] at h;exact(aOH (by omega)).trans h
  have gs:=s3.start inv.heap hLget2 hLty;have rA:tT W.heap.size g1 W ⟨K5 E0 ps.toList (sl it),pG 0 (encH x),pN (encH x),s.N,np'⟩ {tmps:=(ps.toList.zip (vl it)).foldl (fun t (q:Nat×Value)=>t.setIfInBounds q.1 q.2) a.tmps,defers:=[]}:=⟨henv,inv.heap,hsz.trans hr.size,nb,a7e _ _,hlen x⟩;have hlow:L.length<=((encH x).take np').length:=by rw[hL'len,<-hn];exact hnp
  refine aOn (evA (some l) rfl _ _ g1 W g1 _ W _ (aM2 _) rA gs hL'len.symm) fun e a1 wa hp=> ?_;obtain⟨e',g2,s2,e1,e2,e3,e4,e5⟩:=hp;rcases a8w e1 with⟨rfl,rfl⟩ |⟨rfl,rfl⟩ |⟨id,rfl,rfl⟩
  ·obtain⟨kA,hkA⟩:=e2;obtain⟨g3,k1,k2,k3,_⟩:=EO e3 e4 e5 kA;rw[hkA] at k1 k2;have inva:=inv.inner k2 k1.heap hpin hL'len.symm hlow (fun i hi b h=>hLget i b h);have hla:=a8v inv.heap k2 hl rfl;refine⟨_,run_beginRound hla (by rw[hrec]),?_⟩;obtain⟨Wb,hWb⟩: ∃Wb,wa.putObj l (.loop {rec .ready none with state:= .busy})=Wb:=⟨_,rfl⟩
   have tb:tN w0.heap.size wa Wb:=by rw[<-hWb];exact tN.put hla (by show w0.heap.size<=w.heap.size+1;omega) (by show NG<=w.heap.size+1;omega) rfl rfl
   have hlt:=(aNc.1 hla).1;have other: ∀{W:World}{o o':Obj}{D:Nat},W.heap[l]? =some (.loop (rec .ready none))\/W.heap[l]? =some (.loop {rec .ready none with state:= .busy})->W.heap[D]? =some (.deferred (some []))->(W.putObj l o').heap[D]? =some (.deferred (some [])):=by
    intro W o o' D h1 h2;rw[World.putObj_heap_other (fun e=>by subst e;rcases h1 with h1|h1<;>(rw[h1] at h2;cases h2))]
    exact h2
   have invb:=inva.turn tb (inva.defs.same fun D hD=>by rw[<-hWb];exact other (o:= .loop (rec .ready none)) (.inl hla) hD);have hlb:Wb.heap[l]? =some (.loop {rec .ready none with state:= .busy}):=by rw[<-hWb];exact World.putObj_heap_same hlt
   rw[hWb];have gsb:=s3.start invb.heap hLget2 hLty;have rB:tT W.heap.size g3 Wb ⟨E1 it,pG 0 (encH x),pN (encH x),s.N,np'⟩ a1:=⟨fun t=>A9 (tb.le k1.heap.sl) (k1.env t),invb.heap,k1.size,k1.nb,k1.def_.same fun D hD=>by rw[<-hWb];exact other (o:= .loop (rec .ready none)) (.inl hla) hD,hlen x⟩;have hWW:W.heap.size<=Wb.heap.size:=aNC k2.fr.size tb.size;refine aOn (evB (some l) rfl _ _ g3 Wb g3 a1 Wb _ hWW rB gsb hL'len.symm) fun e a2 wc hp=> ?_;obtain⟨e',g4,s4,e1,e2,e3,e4,e5⟩:=hp;have tX: ∀(kB:uL) (Bl:List oX),s4.keep kB=⟨[],pG 0 Bl,pN Bl,s.N,np'⟩->∀jump:Option Code,∃g5,DG B A L g0 w0 g w p.1 p.2 u.cells cs E0 a.tmps ds g5 (wc.putObj l (.loop (rec (if jump.isNone then .ready else .done) jump))) (pG 0 Bl)/\
     (∀j,pN Bl<=j->g5.J j=none/\∀n,g5.cur j n=none)/\np'<=pN Bl/\(wc.putObj l (.loop (rec (if jump.isNone then .ready else .done) jump))).heap[l]? =some (.loop (rec (if jump.isNone then .ready else .done) jump))/\
     (Instr.endRound l jump).run P wc= .ok (.bool jump.isNone) (wc.putObj l (.loop (rec (if jump.isNone then .ready else .done) jump))):=by
    intro kB Bl hkB jump;obtain⟨g5,j1,j2,j3,_⟩:=EO e3 e4 e5 kB;rw[hkB] at j1 j2;have invc:=invb.inner j2 j1.heap hpin hL'len.symm hlow (fun i hi b h=>hLget i b h);have hlc:=a8v invb.heap j2 hlb rfl;have hltc:=(aNc.1 hlc).1;have tc:tN w0.heap.size wc (wc.putObj l (.loop (rec (if jump.isNone then .ready else .done) jump))):=tN.put hlc (by show w0.heap.size<=w.heap.size+1;omega) (by show NG<=w.heap.size+1;omega) rfl rfl;refine⟨g5,invc.turn tc (invc.defs.same fun D hD=>other (o:= .loop (rec .ready none)) (.inr hlc) hD),j1.nb,j1.np,World.putObj_heap_same hltc,?_⟩;have:=run_endRound (P:=P) jump hlc;rw[this,hrec]
   rcases a8w e1 with⟨rfl,rfl⟩ |⟨rfl,rfl⟩ |⟨id,rfl,rfl⟩
   ·obtain⟨kB,x',rfl,hkB⟩:=e2;obtain⟨g5,q1,q2,q3,q4,q5⟩:=tX kB _ hkB none;exact⟨_,_,q5,.inl ⟨rfl,g5,x',hinl x' rfl,q1,q2,q4⟩⟩
   ·obtain⟨kB,Bl,hkB,⟨z,rfl⟩,hq⟩:=e2;obtain⟨g5,q1,q2,q3,q4,q5⟩:=tX kB _ hkB (some .ret);exact⟨_,_,q5,.inr ⟨rfl,g5,Bl,.ret,.ret,z,rfl,hinr z rfl,hq,q1,q2,aNC hnp q3,q4⟩⟩
   ·obtain⟨kB,Bl,hkB,⟨z,rfl⟩,hq⟩:=e2;obtain⟨g5,q1,q2,q3,q4,q5⟩:=tX kB _ hkB (some (.exit id));exact⟨_,_,q5,.inr ⟨rfl,g5,Bl,.exit id,.exit id,z,rfl,hinr z rfl,hq,q1,q2,aNC hnp q3,q4⟩⟩
  ·exact e2.elim
  ·exact e2.elim
 refine⟨l,[{target:= .collected w.heap.size,args:= #[]}],W1,{target:= .fn (.func gf) #[.pointer (some ⟨p.1,p.2,none⟩)],args:= #[.func (.yield l) #[] #[]]},W1,gf,#[.func (.yield l) #[] #[]]++ #[.pointer (some ⟨p.1,p.2,none⟩)],W1,?_,?_,fun _ _=>trivial,?_,fun h=>(by cases h),?_⟩
 ·rw[<-hW1,hrec];exact run_enterLoop_outer _ _ _ _ _
 ·simp only[resolve,hev];simp [go_sem]
 ·simp [invoke,go_sem,hit.1]
 ·have inv1:=inv0.turn t1 hd1;refine(a7n (ro:=none) (n:=0-1) (hit.2 l p.1 p.2 xc cs g w J Jx hpre hRc (fun i W ⟨g1,x,_,h2,_⟩=>⟨h2.rng,fun b o hb=>(h2.sld b o hb).2⟩) hJd hJxd hround2 W1 ⟨_,x0,hy,inv1,hr1.nb,hL1⟩)).mono ?_;have hend: ∀{W:World}{r:Loop},W.heap[l]? =some (.loop r)->∀{ds0:List Deferred},xV B W ds0->xV B (W.putObj l (.loop {r with state:= .exhausted})) ds0:=by
   intro W r h1 ds0 h2;refine h2.same fun D hD=> ?_;rw[World.putObj_heap_other (fun e=>by subst e;rw[h1] at hD;cases hD)];exact hD
  rintro e W2 ⟨⟨v,rfl⟩,(⟨g1,x,h1,h2,h3,h4⟩ |⟨g1,Bl,e,cd,z,h1,h2,h3,h4,h5,h6,h7⟩)⟩
  ·rw[aNu] at h1;have hyx:y= .inl x:=(aML h1).symm;have hin:=h2.turn (tN.put (o':= .loop {rec .ready none with state:= .exhausted}) h4 (by show w0.heap.size<=w.heap.size+1;omega) (by show NG<=w.heap.size+1;omega) rfl rfl) (hend h4 h2.defs)
   refine⟨none,W2.putObj l (.loop {rec .ready none with state:= .exhausted}),by have:=run_endLoop (P:=P) h4 (by rw[hrec];simp);rw[hrec] at this⊢;exact this,?_⟩
   refine⟨.normal,g1,_,rfl,hdone x hyx,⟨hin.env,hin.heap,hr.size,h3,?_,aNC hnp (hlen x)⟩,hin.good,hn⟩;have:=hin.defs;rw[<-hds] at this;exact this
  ·have hin:=h4.turn (tN.put (o':= .loop {rec .done (some cd) with state:= .exhausted}) h7 (by show w0.heap.size<=w.heap.size+1;omega) (by show NG<=w.heap.size+1;omega) rfl rfl) (hend h7 h4.defs)
   refine⟨some cd,W2.putObj l (.loop {rec .done (some cd) with state:= .exhausted}),by have:=run_endLoop (P:=P) h7 (by rw[hrec];simp);rw[hrec] at this⊢;exact this,?_⟩
   have hdef:=hin.defs;rw[<-hds] at hdef;have hrel:tT B g1 (W2.putObj l (.loop {rec .done (some cd) with state:= .exhausted})) ⟨E0,pG 0 Bl,pN Bl,s.N,s.np⟩ {a with defers:=[{target:= .collected w.heap.size,args:= #[]}]++a.defers}:=⟨hin.env,hin.heap,hr.size,h5,hdef,h6⟩
   cases e with
   |normal=>cases h1
   |ret=>
    obtain rfl:=aML h1;exact wpIn_ret ⟨.ret,g1,_,rfl,h3,hrel,hin.good,hn⟩
   |exit id=>
    obtain rfl:=aML h1;exact wpIn_exit ⟨.exit id,g1,_,rfl,h3,hrel,hin.good,hn⟩
section
variable {σ ρ:Type}{encH:σ->List oX}{E0:List (Nat×oZ)}{N np np':Nat}{w:σ⊕ρ}{Q:Ex->St->Prop}{st s:St}
theorem a8y (k:uL) (h:s.keep k=st):qA st .normal s:=⟨k,h⟩
theorem a8z (k:uL) (x:σ) (hw:w= .inl x) (h:s.keep k=⟨[],pG 0 (encH x),pN (encH x),N,np'⟩):qF encH E0 N np np' w Q .normal s:=⟨k,x,hw,h⟩
theorem aGz (k:uL) (B:List oX) (z:ρ) (hw:w= .inr z) (h:s.keep k=⟨[],pG 0 B,pN B,N,np'⟩) (hq:Q .ret ⟨E0,pG 0 B,pN B,N,np⟩):qF encH E0 N np np' w Q .ret s:=⟨k,B,h,⟨z,hw⟩,hq⟩
end
end Go.Proofs.YtbbpilohihldiaaGreatDoor.Vc
namespace Go.Proofs.YtbbpilohihldiaaGreatDoor
open Go.RowKit Go.Shelf Vc
section
attribute [local go_sem] Oper.semAt_some
def xY (d:(Ty.pair .str (.pair (.list .str) (.pair .str .unit))).den):List (Int×List UInt8):=
 (0,d.1)::((List.range d.2.1.length).map fun j:Nat=>((j:Int)+1,d.2.1.getD j []))++[((d.2.1.length:Int)+1,d.2.2.1)]
def N4 (it:Int×List UInt8):List Value:=[.int .i64 it.1,.string ⟨it.2.toArray⟩]
@[go_sem] def XQ (it:Int×List UInt8):List oZ:=[(.val (.int .i64) it.1,none),(.val .str it.2,none)]
theorem a8A (it:Int×List UInt8) (g:Gh) (w:World):uB g w (XQ it) (N4 it):=⟨_,_,rfl,⟨uY _ _ _ _,trivial⟩,_,_,rfl,⟨HS _ _ _,trivial⟩,rfl⟩
theorem a8B (d:(Ty.pair .str (.pair (.list .str) (.pair .str .unit))).den):(xY d).length=d.2.1.length+2:=by simp [xY]
theorem XR (d:(Ty.pair .str (.pair (.list .str) (.pair .str .unit))).den):(xY d)[0]? =some (0,d.1):=by simp [xY]
theorem XS (d:(Ty.pair .str (.pair (.list .str) (.pair .str .unit))).den) {j:Nat}(h:j<d.2.1.length):(xY d)[j+1]? =some ((j:Int)+1,d.2.1.getD j []):=by
 simp [xY,aM0,h]
theorem XT (d:(Ty.pair .str (.pair (.list .str) (.pair .str .unit))).den):(xY d)[d.2.1.length+1]? =some ((d.2.1.length:Int)+1,d.2.2.1):=by
 simp [xY]
theorem a8C:a8u Tryz.prog 92 (.pair .str (.pair (.list .str) (.pair .str .unit))) (fun d=>d.2.1.length<=4611686018427387904) xY N4:=by
 refine⟨fun _ _=>rfl,?_⟩;intro l b o d cs g W0 J Jx hpre hR hrd hJd hJxd hY W h0;obtain⟨c1,c2,rfl,hh,c3,c4,rfl,hl,c5,c6,rfl,ht,hu⟩:=hR;rw[show c1=[.string ⟨d.1.toArray⟩] from hh] at hrd;rw[show c5=[.string ⟨d.2.2.1.toArray⟩] from ht,show c6=[] from hu] at hrd;obtain⟨a,cap,rfl,hcap,hel⟩:=hl;have r0: ∀i W,J i W->W.cell? ⟨b,o,none⟩=some (.string ⟨d.1.toArray⟩):=fun i W h=>by simpa using(hrd i W h).1 0 _ rfl
 have r1: ∀i W,J i W->W.cell? ⟨b,o+1,none⟩=some (.slice a d.2.1.length cap):=fun i W h=>(hrd i W h).1 1 _ rfl;have r2: ∀i W,J i W->W.cell? ⟨b,o+2,none⟩=some (.string ⟨d.2.2.1.toArray⟩):=fun i W h=>(hrd i W h).1 2 _ rfl;have re: ∀j,j<d.2.1.length->∃b' o',a=some ⟨b',o',none⟩/\∀i W,J i W->W.cell? ⟨b',o'+j,none⟩=some (.string ⟨(d.2.1.getD j []).toArray⟩):=by
  intro j hj;rcases hel with h|⟨b',o',h1,h2⟩
  ·rw[h] at hj;cases hj
  ·refine⟨b',o',h1,fun i W h=> ?_⟩;have hg:d.2.1[j]? =some (d.2.1.getD j []):=by rw[aNa,aMR hj];rfl
   obtain⟨cs,k1,k2,k3,k4⟩:=QD h2 hg;rw[show cs=[.string ⟨(d.2.1.getD j []).toArray⟩] from k4] at k2;have k5:=k2 0 _ rfl;have k6:=k3 0 (by decide);rw[aNN,show j*Ty.str.cells=j from aON j] at k5 k6;rw[(hrd i W h).2 _ _ k6];exact k5
 have q0:=XR d;have qm:=fun j=>XS d (j:=j);have ql:=XT d;have qn:=a8B d;generalize hn:d.2.1.length=n at*;refine(callsIn_wide (n:=0)).1 (callsIn_of_wp Tryz.func92 rfl trivial ?_);simp only[Tryz.ntmps92,aNA,aMO,aNw,Nat.reduceAdd,Nat.reduceSub,Array.replicate_succ,Array.replicate_zero,List.push_toArray,List.append_toArray,List.nil_append,List.cons_append];have c0:=r0 0 W h0;obtain⟨fn,tmps,assign,body,hy,hQ⟩:=hY 0 _ W q0 h0;dsimp only[N4] at hy
 gi_wp2
 refine⟨rfl,hQ.mono ?_⟩;clear hQ hy;rintro e W1 (⟨rfl,hJ1⟩ |⟨rfl,hJx⟩)
 ·have s1:=r1 _ W1 hJ1
  gi_wp2
  gi_loopw [13] (fun i wr=> ∃k:Nat,k<=n/\i= .int .i64 k/\J (k+1) wr) (fun i _=>n- (RowKit.intOf i).toNat)
  case atStart=>exact⟨0,aNt _,rfl,hJ1⟩
  case round=>
   obtain⟨k,hk,rfl,hJs⟩:=hrel;by_cases hlt:k<n
   ·obtain⟨b',o',rfl,hce⟩:=re k hlt;have hc':=hce _ _ hJs;have hq:=qm k hlt;clear re qm ql q0 hce;generalize d.2.1.getD k []=x at hc' hq;obtain⟨fn,tmps,assign,body,hy,hQ⟩:=hY _ _ wr hq hJs;dsimp only[N4] at hy
    gi_wp2
    refine⟨rfl,hQ.mono ?_⟩;clear hQ hy;rintro e W2 (⟨rfl,hJ2⟩ |⟨rfl,hJx⟩)
    ·gi_wp2
     go_roundw
     case rel=>exact⟨k+1,by omega,by simp,hJ2⟩
     case measure=>
      show n- (k+1)<n-k;omega
    ·gi_wp2
     refine bodyPost_ret (results_none rfl _ _ _) rfl ?_;exact⟨⟨_,rfl⟩,.inr hJx⟩
   ·obtain rfl:k=n:=by omega
    have s1:=r1 _ _ hJs;have s2:=r2 _ _ hJs;obtain⟨fn,tmps,assign,body,hy,hQ⟩:=hY _ _ wr ql hJs;dsimp only[N4] at hy
    gi_wp2
    refine⟨rfl,hQ.mono ?_⟩;clear hQ hy;rintro e W2 (⟨rfl,hJ2⟩ |⟨rfl,hJx⟩)
    ·gi_wp2
     go_end0
     exact⟨⟨_,rfl⟩,.inl (by rw[qn];exact hJ2)⟩
    ·gi_wp2
     go_end0
     exact⟨⟨_,rfl⟩,.inr hJx⟩
 ·gi_wp2
  refine bodyPost_ret (results_none rfl _ _ _) rfl ?_;exact⟨⟨_,rfl⟩,.inr hJx⟩
end
end Go.Proofs.YtbbpilohihldiaaGreatDoor
namespace Go.Proofs.YtbbpilohihldiaaGreatDoor
open Vc
noncomputable section
@[go_sem] abbrev tC:Ty:=(.pair .str (.pair .str (.pair .str (.pair (.list .str) (.pair (.list .str) (.pair (.int .i64) (.pair (.list (.pair .str (.pair .str .unit))) .unit)))))))
@[go_sem] abbrev I4:Ty:=(.pair .str (.pair (.list .str) (.pair (.list (.pair .str (.pair .str .unit))) (.pair (.list tC) .unit))))
@[go_sem] abbrev AK:Ty:=(.pair .str (.pair (.list .str) (.pair .str .unit)))
@[go_sem] abbrev wO:Ty:=(.pair .mref (.pair (.list (.int .u8)) .unit))
@[go_sem] abbrev CO:Ty:=(.pair .str (.pair (.int .i64) .unit))
@[go_sem] abbrev K6:Ty:=(.pair (.int .i64) (.pair .str (.pair (.int .i64) (.pair (.int .i64) .unit))))
@[go_sem] abbrev rF:Ty:=(.pair CO (.pair K6 (.pair (.int .i64) (.pair (.int .i64) (.pair I4 (.pair .mp (.pair (.list (.int .i64)) (.pair (.int .i64) .unit))))))))
@[go_sem] abbrev yT8:Ty:=(.pair .str (.pair .str (.pair .str (.pair (.list .str) (.pair (.rl 9 .str) (.pair (.int .i64) (.pair (.list (.pair .str (.pair .str .unit))) .unit)))))))
@[go_sem] abbrev sH:Ty:=(.pair yT8 (.pair .bool (.pair .mp .unit)))
@[go_sem] abbrev a8E:Ty:=(.pair tC (.pair .bool (.pair .mp .unit)))
abbrev pL:Type:=((List UInt8)×((List UInt8)×Unit))
abbrev qT:Type:=((List UInt8)×((List UInt8)×((List UInt8)×((List (List UInt8))×((List (List UInt8))×(Int×((List pL)×Unit)))))))
abbrev yX:Type:=((List UInt8)×((List (List UInt8))×((List UInt8)×Unit)))
abbrev rJ:Type:=(Int×((List UInt8)×(Int×(Int×Unit))))
abbrev qZ:Type:=((List UInt8)×((List (List UInt8))×((List pL)×((List qT)×Unit))))
abbrev ER:Type:=((List UInt8)×(Int×(Int×(Int×(qZ×((List Int)×Unit))))))
@[go_sem] abbrev XU:Ty:=(.pair .str (.pair (.rl 9 .str) (.pair .str .unit)))
@[go_sem] abbrev s7:Nat×TI:=(9,⟨.str,0,0,false,[]⟩)
theorem sB:sF Tryz.prog s7.1 s7.2:=⟨by kernel_rfl,(show Tryz.prog.underlying _=_ from by kernel_rfl)⟩
@[go_sem] abbrev zR:Nat×TI:=(23,⟨(.list .str),9,16,false,[]⟩)
theorem B8:sF Tryz.prog zR.1 zR.2:=⟨by kernel_rfl,(show _/\_/\_ from⟨by kernel_rfl,by kernel_rfl,by kernel_rfl⟩)⟩
@[go_sem] abbrev DH:Nat×TI:=(34,⟨AK,0,0,false,[(1,9,1)]⟩)
theorem G7:sF Tryz.prog DH.1 DH.2:=⟨by kernel_rfl,(show ((_/\∃_,_/\_)\/_)/\_ from⟨.inl ⟨rfl,_,Tryz.underlying34,(show _/\_/\_/\_ from⟨rfl,by kernel_rfl,by kernel_rfl,(show _/\_/\_/\_ from⟨rfl,by kernel_rfl,by kernel_rfl,(show _/\_/\_/\_ from⟨rfl,by kernel_rfl,by kernel_rfl,trivial⟩)⟩)⟩)⟩,(fun h=>absurd h (by decide))⟩)⟩
@[go_sem] abbrev K7:Nat×TI:=(25,⟨(.list tC),55,128,false,[]⟩)
theorem RF:sF Tryz.prog K7.1 K7.2:=⟨by kernel_rfl,(show _/\_/\_ from⟨by kernel_rfl,by kernel_rfl,by kernel_rfl⟩)⟩
@[go_sem] abbrev ES:Nat×TI:=(27,⟨I4,0,0,false,[(1,9,1),(2,149,2),(3,55,7)]⟩)
theorem I5:sF Tryz.prog ES.1 ES.2:=⟨by kernel_rfl,(show ((_/\∃_,_/\_)\/_)/\_ from⟨.inl ⟨rfl,_,Tryz.underlying27,(show _/\_/\_/\_ from⟨rfl,by kernel_rfl,by kernel_rfl,(show _/\_/\_/\_ from⟨rfl,by kernel_rfl,by kernel_rfl,(show _/\_/\_/\_ from⟨rfl,by kernel_rfl,by kernel_rfl,(show _/\_/\_/\_ from⟨rfl,by kernel_rfl,by kernel_rfl,trivial⟩)⟩)⟩)⟩)⟩,(fun h=>absurd h (by decide))⟩)⟩
@[go_sem] abbrev G8:Nat×TI:=(55,⟨tC,0,0,false,[(3,9,1),(4,9,1),(6,149,2)]⟩)
theorem K8:sF Tryz.prog G8.1 G8.2:=⟨by kernel_rfl,(show ((_/\∃_,_/\_)\/_)/\_ from⟨.inl ⟨rfl,_,Tryz.underlying55,(show _/\_/\_/\_ from⟨rfl,by kernel_rfl,by kernel_rfl,(show _/\_/\_/\_ from⟨rfl,by kernel_rfl,by kernel_rfl,(show _/\_/\_/\_ from⟨rfl,by kernel_rfl,by kernel_rfl,(show _/\_/\_/\_ from⟨rfl,by kernel_rfl,by kernel_rfl,(show _/\_/\_/\_ from⟨rfl,by kernel_rfl,by kernel_rfl,(show _/\_/\_/\_ from⟨rfl,by kernel_rfl,by kernel_rfl,(show _/\_/\_/\_ from⟨rfl,by kernel_rfl,by kernel_rfl,trivial⟩)⟩)⟩)⟩)⟩)⟩)⟩)⟩,(fun h=>absurd h (by decide))⟩)⟩
@[go_sem] abbrev ET:Nat×TI:=(42,⟨(.list (.int .u8)),5,1,false,[]⟩)
theorem I6:sF Tryz.prog ET.1 ET.2:=⟨by kernel_rfl,(show _/\_/\_ from⟨by kernel_rfl,by kernel_rfl,by kernel_rfl⟩)⟩
@[go_sem] abbrev G9:Nat×TI:=(84,⟨wO,0,0,false,[(1,5,1)]⟩)
theorem K9:sF Tryz.prog G9.1 G9.2:=⟨by kernel_rfl,(show ((_/\∃_,_/\_)\/_)/\_ from⟨.inl ⟨rfl,_,Tryz.underlying84,(show _/\_/\_/\_ from⟨rfl,by kernel_rfl,by kernel_rfl,(show _/\_/\_/\_ from⟨rfl,by kernel_rfl,by kernel_rfl,trivial⟩)⟩)⟩,(fun h=>absurd h (by decide))⟩)⟩
@[go_sem] abbrev CP:Nat×TI:=(24,⟨(.list (.pair .str (.pair .str .unit))),149,32,false,[]⟩)
theorem EU:sF Tryz.prog CP.1 CP.2:=⟨by kernel_rfl,(show _/\_/\_ from⟨by kernel_rfl,by kernel_rfl,by kernel_rfl⟩)⟩
@[go_sem] abbrev EV:Nat×TI:=(149,⟨(.pair .str (.pair .str .unit)),0,1,false,[]⟩)
theorem I7:sF Tryz.prog EV.1 EV.2:=⟨by kernel_rfl,(show ((_/\∃_,_/\_)\/_)/\_ from⟨.inl ⟨rfl,_,Tryz.underlying149,(show _/\_/\_/\_ from⟨rfl,by kernel_rfl,by kernel_rfl,(show _/\_/\_/\_ from⟨rfl,by kernel_rfl,by kernel_rfl,trivial⟩)⟩)⟩,(fun _=>⟨by kernel_rfl,1,by decide,(.struct rfl Tryz.underlying149 (by kernel_rfl) (.cons (by decide) rfl (by kernel_rfl) (by kernel_rfl) (.str Tryz.underlying9) (.cons (by decide) rfl (by kernel_rfl) (by kernel_rfl) (.str Tryz.underlying9) .nil)))⟩)⟩)⟩
@[go_sem] abbrev v6:Nat×TI:=(3,⟨(.int .i64),0,0,false,[]⟩)
theorem vM:sF Tryz.prog v6.1 v6.2:=⟨by kernel_rfl,(show Tryz.prog.underlying _=_ from by kernel_rfl)⟩
@[go_sem] abbrev GA:Nat×TI:=(5,⟨(.int .u8),0,0,false,[]⟩)
theorem KA:sF Tryz.prog GA.1 GA.2:=⟨by kernel_rfl,(show Tryz.prog.underlying _=_ from by kernel_rfl)⟩
@[go_sem] abbrev KB:Nat×TI:=(21,⟨(.int .i32),0,0,false,[]⟩)
theorem RG:sF Tryz.prog KB.1 KB.2:=⟨by kernel_rfl,(show Tryz.prog.underlying _=_ from by kernel_rfl)⟩
@[go_sem] abbrev DI:Nat×TI:=(4,⟨.bool,0,0,false,[]⟩)
theorem GB:sF Tryz.prog DI.1 DI.2:=⟨by kernel_rfl,(show Tryz.prog.underlying _=_ from by kernel_rfl)⟩
@[go_sem] abbrev RH:Nat×TI:=(60,⟨.ref,0,0,false,[]⟩)
theorem a8F:sF Tryz.prog RH.1 RH.2:=⟨by kernel_rfl,(show∃_,_ from⟨_,Tryz.underlying60⟩)⟩
@[go_sem] abbrev I8:Nat×TI:=(66,⟨.mp,9,4,false,[]⟩)
theorem N5:sF Tryz.prog I8.1 I8.2:=⟨by kernel_rfl,(show Tryz.prog.underlying _=_ from by kernel_rfl)⟩
@[go_sem] abbrev wP:Nat×TI:=(69,⟨rF,0,0,false,[(9,9,1),(10,149,2),(11,55,7),(13,3,1)]⟩)
theorem xZ:sF Tryz.prog wP.1 wP.2:=⟨by kernel_rfl,(show ((_/\∃_,_/\_)\/_)/\_ from⟨.inl ⟨rfl,_,Tryz.underlying69,(show _/\_/\_/\_ from⟨rfl,by kernel_rfl,by kernel_rfl,(show _/\_/\_/\_ from⟨rfl,by kernel_rfl,by kernel_rfl,(show _/\_/\_/\_ from⟨rfl,by kernel_rfl,by kernel_rfl,(show _/\_/\_/\_ from⟨rfl,by kernel_rfl,by kernel_rfl,(show _/\_/\_/\_ from⟨rfl,by kernel_rfl,by kernel_rfl,(show _/\_/\_/\_ from⟨rfl,by kernel_rfl,by kernel_rfl,(show _/\_/\_/\_ from⟨rfl,by kernel_rfl,by kernel_rfl,(show _/\_/\_/\_ from⟨rfl,by kernel_rfl,by kernel_rfl,trivial⟩)⟩)⟩)⟩)⟩)⟩)⟩)⟩)⟩,(fun h=>absurd h (by decide))⟩)⟩
@[go_sem] abbrev EW:Nat×TI:=(28,⟨(.int .i64),0,0,false,[]⟩)
theorem I9:sF Tryz.prog EW.1 EW.2:=⟨by kernel_rfl,(show Tryz.prog.underlying _=_ from by kernel_rfl)⟩
@[go_sem] abbrev RI:Nat×TI:=(24,⟨(.list (.pair .str (.pair .str .unit))),149,32,true,[]⟩)
theorem a8G:sF Tryz.prog RI.1 RI.2:=⟨by kernel_rfl,(show _/\_/\_ from⟨by kernel_rfl,by kernel_rfl,by kernel_rfl⟩)⟩
@[go_sem] abbrev yY:Nat×TI:=(65,⟨K6,0,1,false,[]⟩)
theorem AL:sF Tryz.prog yY.1 yY.2:=⟨by kernel_rfl,(show ((_/\∃_,_/\_)\/_)/\_ from⟨.inl ⟨rfl,_,Tryz.underlying65,(show _/\_/\_/\_ from⟨rfl,by kernel_rfl,by kernel_rfl,(show _/\_/\_/\_ from⟨rfl,by kernel_rfl,by kernel_rfl,(show _/\_/\_/\_ from⟨rfl,by kernel_rfl,by kernel_rfl,(show _/\_/\_/\_ from⟨rfl,by kernel_rfl,by kernel_rfl,trivial⟩)⟩)⟩)⟩)⟩,(fun _=>⟨by kernel_rfl,1,by decide,(.struct rfl Tryz.underlying65 (by kernel_rfl) (.cons (by decide) rfl (by kernel_rfl) (by kernel_rfl) (.int Tryz.underlying3) (.cons (by decide) rfl (by kernel_rfl) (by kernel_rfl) (.str Tryz.underlying9) (.cons (by decide) rfl (by kernel_rfl) (by kernel_rfl) (.int Tryz.underlying3) (.cons (by decide) rfl (by kernel_rfl) (by kernel_rfl) (.int Tryz.underlying3) .nil)))))⟩)⟩)⟩
@[go_sem] abbrev B9:Nat×TI:=(204,⟨sH,0,0,false,[(3,9,1),(6,149,2)]⟩)
theorem CQ:sF Tryz.prog B9.1 B9.2:=⟨by kernel_rfl,(show ((_/\∃_,_/\_)\/_)/\_ from⟨.inl ⟨rfl,_,Tryz.underlying204,(show _/\_/\_/\_ from⟨rfl,by kernel_rfl,by kernel_rfl,(show _/\_/\_/\_ from⟨rfl,by kernel_rfl,by kernel_rfl,(show _/\_/\_/\_ from⟨rfl,by kernel_rfl,by kernel_rfl,trivial⟩)⟩)⟩)⟩,(fun h=>absurd h (by decide))⟩)⟩
@[go_sem] abbrev RJ:Nat×TI:=(205,⟨.fn,0,0,false,[]⟩)
theorem a8H:sF Tryz.prog RJ.1 RJ.2:=⟨by kernel_rfl,(show∃_ _ _,_ from⟨_,_,_,Tryz.underlying205⟩)⟩
@[go_sem] abbrev RK:Nat×TI:=(207,⟨.mp,9,205,false,[]⟩)
theorem a8I:sF Tryz.prog RK.1 RK.2:=⟨by kernel_rfl,(show Tryz.prog.underlying _=_ from by kernel_rfl)⟩
@[go_sem] abbrev RL:Nat×TI:=(241,⟨(.int .u32),0,0,false,[]⟩)
theorem a8J:sF Tryz.prog RL.1 RL.2:=⟨by kernel_rfl,(show Tryz.prog.underlying _=_ from by kernel_rfl)⟩
@[go_sem] abbrev RM:Nat×TI:=(23,⟨(.list .str),9,16,true,[]⟩)
theorem a8K:sF Tryz.prog RM.1 RM.2:=⟨by kernel_rfl,(show _/\_/\_ from⟨by kernel_rfl,by kernel_rfl,by kernel_rfl⟩)⟩
@[go_sem] abbrev KC:Nat×TI:=(67,⟨(.list (.int .i64)),3,8,false,[]⟩)
theorem RN:sF Tryz.prog KC.1 KC.2:=⟨by kernel_rfl,(show _/\_/\_ from⟨by kernel_rfl,by kernel_rfl,by kernel_rfl⟩)⟩
@[go_sem] abbrev CR:Nat×TI:=(55,⟨yT8,0,0,false,[(3,9,1),(6,149,2)]⟩)
theorem EX:sF Tryz.prog CR.1 CR.2:=⟨by kernel_rfl,(show ((_/\∃_,_/\_)\/_)/\_ from⟨.inl ⟨rfl,_,Tryz.underlying55,(show _/\_/\_/\_ from⟨rfl,by kernel_rfl,by kernel_rfl,(show _/\_/\_/\_ from⟨rfl,by kernel_rfl,by kernel_rfl,(show _/\_/\_/\_ from⟨rfl,by kernel_rfl,by kernel_rfl,(show _/\_/\_/\_ from⟨rfl,by kernel_rfl,by kernel_rfl,(show _/\_/\_/\_ from⟨rfl,by kernel_rfl,by kernel_rfl,(show _/\_/\_/\_ from⟨rfl,by kernel_rfl,by kernel_rfl,(show _/\_/\_/\_ from⟨rfl,by kernel_rfl,by kernel_rfl,trivial⟩)⟩)⟩)⟩)⟩)⟩)⟩)⟩,(fun h=>absurd h (by decide))⟩)⟩
@[go_sem] abbrev KD:Nat×TI:=(202,⟨.ref,0,0,false,[]⟩)
theorem RO:sF Tryz.prog KD.1 KD.2:=⟨by kernel_rfl,(show∃_,_ from⟨_,Tryz.underlying202⟩)⟩
@[go_sem] abbrev N6:Nat×TI:=(63,⟨CO,0,1,false,[]⟩)
theorem XV:sF Tryz.prog N6.1 N6.2:=⟨by kernel_rfl,(show ((_/\∃_,_/\_)\/_)/\_ from⟨.inl ⟨rfl,_,Tryz.underlying63,(show _/\_/\_/\_ from⟨rfl,by kernel_rfl,by kernel_rfl,(show _/\_/\_/\_ from⟨rfl,by kernel_rfl,by kernel_rfl,trivial⟩)⟩)⟩,(fun _=>⟨by kernel_rfl,1,by decide,(.struct rfl Tryz.underlying63 (by kernel_rfl) (.cons (by decide) rfl (by kernel_rfl) (by kernel_rfl) (.str Tryz.underlying9) (.cons (by decide) rfl (by kernel_rfl) (by kernel_rfl) (.int Tryz.underlying3) .nil)))⟩)⟩)⟩
@[go_sem] abbrev XW:Nat×TI:=(204,⟨a8E,0,0,false,[(3,9,1),(4,9,1),(6,149,2)]⟩)
theorem aGA:sF Tryz.prog XW.1 XW.2:=⟨by kernel_rfl,(show ((_/\∃_,_/\_)\/_)/\_ from⟨.inl ⟨rfl,_,Tryz.underlying204,(show _/\_/\_/\_ from⟨rfl,by kernel_rfl,by kernel_rfl,(show _/\_/\_/\_ from⟨rfl,by kernel_rfl,by kernel_rfl,(show _/\_/\_/\_ from⟨rfl,by kernel_rfl,by kernel_rfl,trivial⟩)⟩)⟩)⟩,(fun h=>absurd h (by decide))⟩)⟩
theorem qD:Tryz.prog.follows .mixedOrders=true:=by kernel_rfl
@[go_sem] abbrev N7:Nat×pY:=(135,⟨[.v,.v],XH,[],[],none⟩)
theorem RP:qH Tryz.prog N7:=⟨aF6,fun _ h=>by cases h⟩
@[go_sem] abbrev a8L:Nat×pY:=(243,⟨[.v],XI,[],[],none⟩)
theorem aGB:qH Tryz.prog a8L:=⟨aF7,fun _ h=>by cases h⟩
@[go_sem] abbrev a8M:Nat×pY:=(173,⟨[.v,.v],XJ,[],[],none⟩)
theorem aGC:qH Tryz.prog a8M:=⟨aGa,fun _ h=>by cases h⟩
@[go_sem] abbrev RQ:Nat×pY:=(93,⟨[.p wO [1]],XK,[],[],none⟩)
theorem XX:qH Tryz.prog RQ:=⟨aGd,fun _ h=>by cases h⟩
@[go_sem] abbrev RR:Nat×pY:=(54,⟨[.p wO [1]],XM,[],[],none⟩)
theorem XY:qH Tryz.prog RR:=⟨aGl,fun _ h=>by cases h⟩
@[go_sem] abbrev a8N:Nat×pY:=(240,⟨[.r,.v,.v],XO,[],[],none⟩)
theorem aGD:qH Tryz.prog a8N:=⟨aGu,fun _ h=>by cases h⟩
@[go_sem] abbrev XZ:Nat×pY:=(147,⟨[.v],noC,[],[],some a8j⟩)
theorem aGE:qH Tryz.prog XZ:=aF9
end
theorem wQ {σ ρ:Type}(f:σ->Option (σ⊕ρ)) (x:σ):pR f x=(f x).bind fun w=>match w with
  | .inl y=>pR f y
  | .inr r=>some r:=by
 cases h:f x with
 |none=>
  cases h2:pR f x with
  |none=>rfl
  |some r=>
   obtain⟨n,hn⟩:=RB h2;cases n with
   |zero=>cases hn
   |succ n=>unfold iter at hn;rw[h] at hn;cases hn
 |some w=>
  cases w with
  |inl y=>exact JZ h
  |inr r=>exact xA h
theorem y3 {t:Ty}{l:List t.den}{i:Nat}(h:i<l.length):qG t l (i:Int)=l[i]:=by
 unfold qG;rw[aNp,aNa,aMR h];rfl
theorem xB {l:List UInt8}{i:Nat}(h:i<l.length):pI l (i:Int)=(l[i].toNat:Int):=by
 unfold pI;rw[aNp,aNa,aMR h];rfl
def tZ {β:Type}(f:Nat->β) (b:β):Option Nat->β
 |some k=>f k
 |none=>b
theorem Y0 {α ρ:Type}{f:Int->Option (Int⊕(Unit⊕ρ))}{l:List α}(p:α->Bool) (g:Nat->ρ)
  (hf: ∀(i:Nat) (h:i<l.length),f i=if p l[i]=true then some (.inr (.inr (g i))) else some (.inl (i+1)))
  (he:f l.length=some (.inr (.inl ()))): ∀(n j:Nat),j+n=l.length->pR f j=some (tZ (fun k=> .inr (g (j+k))) (.inl ()) ((l.drop j).findIdx? p))
 |0,j,hj=>by
  have:j=l.length:=by omega
  subst this;rw[aNu,wQ,he];rfl
 |n+1,j,hj=>by
  have hlt:j<l.length:=by omega
  rw[wQ,hf j hlt,aM8 hlt,aND];by_cases hp:p l[j]=true
  ·rw[aMI hp,aMI hp];rfl
  ·rw[aMK hp,aMK hp];show pR f ((j:Int)+1)=_;have:=Y0 p g hf he n (j+1) (by omega);rw[show ((j:Int)+1)=((j+1:Nat):Int) by omega,this];cases(l.drop (j+1)).findIdx? p with
   |none=>rfl
   |some k=>
    show some (Sum.inr (g (j+1+k)))=some (Sum.inr (g (j+(k+1))));rw[show j+1+k=j+(k+1) by omega]
theorem CS {α ρ:Type}{f:Int->Option (Int⊕(Unit⊕ρ))}{l:List α}(p:α->Bool) (g:Nat->ρ)
  (hf: ∀(i:Nat) (h:i<l.length),f i=if p l[i]=true then some (.inr (.inr (g i))) else some (.inl (i+1)))
  (he:f l.length=some (.inr (.inl ()))):pR f 0=some (tZ (fun k=> .inr (g k)) (.inl ()) (l.findIdx? p)):=by
 have:=Y0 p g hf he l.length 0 (by omega);simpa using this
theorem a8O {s:List UInt8}{i:Nat}(h:i<s.length) (ha:s[i].toNat<128):tM s i=(s[i].toNat:Int)/\yK s i=i+1:=by
 have h1:=Lib.decodeL_drop ⟨s.toArray⟩ i;have h2:(⟨s.toArray⟩:ByteArray).data.toList.drop i=s[i]::s.drop (i+1):=by
  show s.drop i=_;rw[aM8 h]
 rw[h2,Lib.decodeL_ascii _ _ ha] at h1;unfold tM yK V9;rw[<-h1,aMI h];exact⟨rfl,rfl⟩
theorem aGF {n b0 b1 b2 b3:Nat}(h:128<=b0):128<=(Lib.decodeN n b0 b1 b2 b3).1:=by
 unfold Lib.decodeN
 repeat' split
 all_goals first|omega|(dsimp only;omega)
theorem a8P {s:List UInt8}{i:Nat}(h:i<s.length) (ha:128<=s[i].toNat):128<=tM s i:=by
 unfold tM;rw[Lib.decode_at];have:(⟨s.toArray⟩:ByteArray).get! i=s[i]:=by
  show s.toArray[i]! =_;simp [h]
 rw[this];exact Int.ofNat_le.2 (aGF ha)
theorem a8Q {ρ:Type}{f:Nat->Option (Nat⊕(Unit⊕ρ))}{s:List UInt8}(p:Int->Bool) (g:Nat->ρ) (hb: ∀c,128<=c->p c=true)
  (hf: ∀(i:Nat) (h:i<s.length),f i=if p (tM s i)=true then some (.inr (.inr (g i))) else some (.inl (yK s i)))
  (he:f s.length=some (.inr (.inl ()))): ∀(n j:Nat),j+n=s.length->pR f j=some (tZ (fun k=> .inr (g (j+k))) (.inl ()) ((s.drop j).findIdx? (fun b=>p b.toNat)))
 |0,j,hj=>by
  have:j=s.length:=by omega
  subst this;rw[aNu,wQ,he];rfl
 |n+1,j,hj=>by
  have hlt:j<s.length:=by omega
  rw[wQ,hf j hlt,aM8 hlt,aND];by_cases ha:s[j].toNat<128
  ·obtain⟨e1,e2⟩:=a8O hlt ha;rw[e1,e2];by_cases hp:p (s[j].toNat:Int)=true
   ·rw[aMI hp,aMI hp];rfl
   ·rw[aMK hp,aMK hp];show pR f (j+1)=_;rw[a8Q p g hb hf he n (j+1) (by omega)];cases(s.drop (j+1)).findIdx? (fun b=>p b.toNat) with
    |none=>rfl
    |some k=>
     show some (Sum.inr (g (j+1+k)))=some (Sum.inr (g (j+(k+1))));rw[show j+1+k=j+(k+1) by omega]
  ·rw[aMI (hb _ (a8P hlt (by omega))),aMI (hb _ (by omega))];rfl
theorem a8R {ρ:Type}{f:Nat->Option (Nat⊕(Unit⊕ρ))}{s:List UInt8}(p:Int->Bool) (g:Nat->ρ) (hb: ∀c,128<=c->p c=true)
  (hf: ∀(i:Nat) (h:i<s.length),f i=if p (tM s i)=true then some (.inr (.inr (g i))) else some (.inl (yK s i)))
  (he:f s.length=some (.inr (.inl ()))):pR f 0=some (tZ (fun k=> .inr (g k)) (.inl ()) (s.findIdx? (fun b=>p b.toNat))):=by
 have:=a8Q p g hb hf he s.length 0 (by omega);simpa using this
def pQ {α:Type}(l:List α):Prop:=l.length<=4000000000
noncomputable section
def RS (O:qZ) (Z:(List UInt8)):Int→Option (Int⊕(Unit⊕(Int×Bool))):=fun aA=>if (decide (aA<(O.2.2.2.1.length:Int)))=true then if 0≤aA∧aA<(O.2.2.2.1.length:Int) then if (decide ((qG tC O.2.2.2.1 aA).1=Z))=true then some (.inr (.inr ((aA,true)))) else if p8 (aA+(1:Int)) then some (.inl (aA+(1:Int))) else none else none else some (.inr (.inl ()))
def RT (O:qZ) (Z:(List UInt8)):Option (Int×Bool):=s5 (pR (RS O Z) (0:Int)) fun _=>some (((0:Int),false))
attribute [irreducible] RT
def a8S (O:yX):Unit:=()
section
variable (O:yX)
abbrev Y1:List oZ:=[(.val AK O,none)]
abbrev Y2:List oX:=[]
@[go_sem] def Y3:pD:=⟨[],[(.val .clo (some (92,[(0,0)])),none)],[.cells AK O []]⟩
def a8T:List oZ→List oX→Option pD:=qM (V:=yX) (fun x=>Y1 x) (fun x=>Y2) fun x=>Y3 x
@[go_sem] theorem aLj:a8T (no_index (Y1 O)) (no_index Y2)=some (Y3 O):=qQ (fun a0 b0 h1 h2=>by cases h1;cases h2;rfl) O
end
@[go_sem] abbrev Y4:Nat×pY:=(50,⟨[.v],a8T,[],[],none⟩)
theorem Y5:qB Tryz.prog [DH] (pZ []):=⟨⟨G7,trivial⟩,qS,qD⟩
theorem a8U:qH Tryz.prog Y4:=by
 refine qR Y5 Tryz.func50 (c:=_) rfl (N:=4) (by kernel_rfl) (ts:=[(2,none)]) rfl (fun _ _=>rfl) ?_;intro O hs hrow;dsimp only[Y1,Y2,Y3,qI,pG,pN,qE,qK,Nat.reduceAdd] at hs hrow⊢;obtain⟨z0,hC0⟩: ∃z,(a8S O)=z:=⟨_,rfl⟩
 try rw[hC0]
 unfold a8S at hC0;refine oY Y5 ?_;refine oY Y5 ?_;refine pH ?_;cases hC0;exact⟨[(0,0)],by rfl,by rfl,by rfl⟩
def EY (O:((List Int)×Unit)) (Z:(List UInt8)):Option Unit:=if List.length O.1+Z.length≤140737488355328 then some (()) else none
section
variable (O:(List UInt8)) (Z:((List Int)×Unit)) (aA:Nat)
abbrev Y6:List oZ:=[(.val .ref (some (0,0)),none),(.val .str O,none)]
abbrev Y7:List oX:=[.cells wO ((some (0,0)),Z) [(1,1)],.grow 5 1 aA]
@[go_sem] def Y8:pD:=⟨[aA=(Z.1.length),((EY Z O)).isSome=true],[(.val (.int .i64) (O.length:Int),none),(.any,none)],[.cells wO ((some (0,0)),((Z.1++sP O),())) [(1,1)],.grow 5 1 ((Z.1++sP O).length)]⟩
def a8V:List oZ→List oX→Option pD:=qM (V:=((List UInt8)×((List Int)×Unit)×Nat)) (fun x=>Y6 x.1) (fun x=>Y7 x.2.1 x.2.2) fun x=>Y8 x.1 x.2.1 x.2.2
@[go_sem] theorem aLk:a8V (no_index (Y6 O)) (no_index (Y7 Z aA))=some (Y8 O Z aA):=qQ (fun⟨a0,a1,a2⟩ ⟨b0,b1,b2⟩ h1 h2=>by cases h1;cases h2;rfl) (O,Z,aA)
end
@[go_sem] abbrev Y9:Nat×pY:=(53,⟨[.p wO [1],.v],a8V,[],[],none⟩)
theorem N8:qB Tryz.prog [s7,ET,G9] (pZ [RQ]):=⟨⟨sB,⟨I6,⟨K9,trivial⟩⟩⟩,pK XX qS,qD⟩
theorem a8W:qH Tryz.prog Y9:=by
 refine qR N8 Tryz.func53 (c:=_) rfl (N:=19) (by kernel_rfl) (ts:=[(4,none),(5,none)]) rfl (fun _ _=>rfl) ?_;intro⟨O,Z,aA⟩ hs hrow;dsimp only[Y6,Y7,Y8,qI,pG,pN,qE,qK,Nat.reduceAdd] at hs hrow⊢;obtain⟨rfl,hz⟩:=hs;obtain⟨z0,hC0⟩:=aMM.1 hz
 try rw[rG hC0]
 clear hz;unfold EY at hC0;refine oY N8 ?_;refine oY N8 ?_ (hp:=by first|rfl|trivial)
 obtain⟨hg1,hC0⟩:=pJ hC0;refine oY N8 ?_ (hp:=by exact⟨by first|rfl|trivial,hg1⟩)
 refine oY N8 ?_;refine pH ?_;cases hC0;exact⟨[(0,0),(1,1)],by rfl,by rfl,by rfl⟩
attribute [irreducible] EY
def RU (O:(List (List UInt8))) (Z:(List (List UInt8))):Int→Option (Int⊕(Unit⊕Bool)):=fun aA=>if (decide (aA<(O.length:Int)))=true then if 0≤aA∧aA<(O.length:Int) then if 0≤aA∧aA<(Z.length:Int) then if (!decide ((qG .str O aA)=(qG .str Z aA)))=true then some (.inr (.inr (false))) else if p8 (aA+(1:Int)) then some (.inl (aA+(1:Int))) else none else none else none else some (.inr (.inl ()))
def v7 (O:(List (List UInt8))) (Z:(List (List UInt8))):Option Bool:=if (!decide ((O.length:Int)=(Z.length:Int)))=true then some (false) else s5 (pR (RU O Z) (0:Int)) fun _=>some (true)
section
variable (O:(List (List UInt8))) (Z:(List (List UInt8)))
abbrev YA:List oZ:=[(.val (.list .str) O,none),(.val (.list .str) Z,none)]
abbrev YB:List oX:=[]
@[go_sem] def YC:pD:=⟨[((v7 O Z)).isSome=true],[(.val .bool (val (v7 O Z)),none)],[]⟩
def a8X:List oZ→List oX→Option pD:=qM (V:=((List (List UInt8))×(List (List UInt8)))) (fun x=>YA x.1 x.2) (fun x=>YB) fun x=>YC x.1 x.2
@[go_sem] theorem aLl:a8X (no_index (YA O Z)) (no_index YB)=some (YC O Z):=qQ (fun⟨a0,a1⟩ ⟨b0,b1⟩ h1 h2=>by cases h1;cases h2;rfl) (O,Z)
end
@[go_sem] abbrev YD:Nat×pY:=(87,⟨[.v,.v],a8X,[],[],none⟩)
theorem DJ:qB Tryz.prog [s7,zR] (pZ []):=⟨⟨sB,⟨B8,trivial⟩⟩,qS,qD⟩
theorem a8Y:qH Tryz.prog YD:=by
 refine qR DJ Tryz.func87 (c:=_) rfl (N:=26) (by kernel_rfl) (ts:=[(4,none)]) rfl (fun _ _=>rfl) ?_;intro⟨O,Z⟩ hs hrow;dsimp only[YA,YB,YC,qI,pG,pN,qE,qK,Nat.reduceAdd] at hs hrow⊢;have hz:=hs;obtain⟨z0,hC0⟩:=aMM.1 hz
 try rw[rG hC0]
 clear hz hs;unfold v7 at hC0;refine oY DJ ?_;refine pX ?_;refine oY DJ ?_;refine pP hC0 (fun hC0 hc1=> ?_) (fun hC0 hc1=> ?_)
 ·refine oY DJ ?_;refine pH (rI ?_);cases hC0;exact⟨[],by rfl,by rfl,by rfl⟩
 ·refine qJ (pM (pX ?_));refine oY DJ ?_;refine rR ?_;obtain⟨y1,hy1,hC0⟩:=yW hC0;refine wN 0 (fun s=> ∃v,y1= .inl v∧s=(fun _=>⟨[],[],0,26,0⟩) v) ?_ ?_
  ·refine wM hy1 (fun x=>⟨[(0,(.val (.list .str) O,none)),(1,(.val (.list .str) Z,none)),(5,(.val (.int .i64) x,none))],[],0,26,0⟩) ⟨[0,1,5],[]⟩ (by rfl) ?_;intro aA w1 n1 hC1 hN1;unfold RU at hC1;dsimp only at hC1⊢;refine pX ?_;refine oY DJ ?_;refine pP hC1 (fun hC1 hc2=> ?_) (fun hC1 hc2=> ?_)
   ·refine qJ (pM (pX (rR ?_)));obtain⟨hg1,hC1⟩:=pJ hC1;obtain⟨hg2,hC1⟩:=pJ hC1;refine AH DJ ?_ (hp:=by exact⟨hg1,hg2⟩);refine pP hC1 (fun hC1 hc3=> ?_) (fun hC1 hc3=> ?_)
    ·refine oY DJ ?_;refine pH (rS (rI (yV (yU (rS (rI ?_))))));cases hC1;cases hN1;dsimp only at hC0;cases hC0;exact⟨[],by rfl,by rfl,by rfl⟩
    ·refine qJ (qV (pM ?_));obtain⟨hg3,hC1⟩:=pJ hC1;refine qY DJ ?_ (hp:=by exact hg3);cases hC1;exact tO ⟨⟨[0,1,5],[]⟩,_,by rfl,hN1⟩
   ·refine vW (wC (vY ?_));cases hC1;cases hN1;exact vX ⟨⟨[],[]⟩,_,rfl,by rfl⟩
  ·rintro _ ⟨v,rfl,rfl⟩;dsimp only at hC0⊢;refine wL (pM ?_);refine oY DJ ?_;refine pH ?_;cases hC0;exact⟨[],by rfl,by rfl,by rfl⟩
attribute [irreducible] v7
def RV (O:(List pL)) (Z:(List pL)):Int→Option (Int⊕(Unit⊕Bool)):=fun aA=>if (decide (aA<(O.length:Int)))=true then if 0≤aA∧aA<(O.length:Int) then if 0≤aA∧aA<(Z.length:Int) then if (!((decide ((qG (.pair .str (.pair .str .unit)) O aA).1=(qG (.pair .str (.pair .str .unit)) Z aA).1))&&(decide ((qG (.pair .str (.pair .str .unit)) O aA).2.1=(qG (.pair .str (.pair .str .unit)) Z aA).2.1))))=true then some (.inr (.inr (false))) else if p8 (aA+(1:Int)) then some (.inl (aA+(1:Int))) else none else none else none else some (.inr (.inl ()))
def y4 (O:(List pL)) (Z:(List pL)):Option Bool:=if (!decide ((O.length:Int)=(Z.length:Int)))=true then some (false) else s5 (pR (RV O Z) (0:Int)) fun _=>some (true)
section
variable (O:(List pL)) (Z:(List pL))
abbrev YE:List oZ:=[(.val (.list (.pair .str (.pair .str .unit))) O,none),(.val (.list (.pair .str (.pair .str .unit))) Z,none)]
abbrev YF:List oX:=[]
@[go_sem] def YG:pD:=⟨[((y4 O Z)).isSome=true],[(.val .bool (val (y4 O Z)),none)],[]⟩
def a8Z:List oZ→List oX→Option pD:=qM (V:=((List pL)×(List pL))) (fun x=>YE x.1 x.2) (fun x=>YF) fun x=>YG x.1 x.2
@[go_sem] theorem aLm:a8Z (no_index (YE O Z)) (no_index YF)=some (YG O Z):=qQ (fun⟨a0,a1⟩ ⟨b0,b1⟩ h1 h2=>by cases h1;cases h2;rfl) (O,Z)
end
@[go_sem] abbrev YH:Nat×pY:=(88,⟨[.v,.v],a8Z,[],[],none⟩)
theorem DK:qB Tryz.prog [CP,EV] (pZ []):=⟨⟨EU,⟨I7,trivial⟩⟩,qS,qD⟩
theorem a80:qH Tryz.prog YH:=by
 refine qR DK Tryz.func88 (c:=_) rfl (N:=26) (by kernel_rfl) (ts:=[(4,none)]) rfl (fun _ _=>rfl) ?_;intro⟨O,Z⟩ hs hrow;dsimp only[YE,YF,YG,qI,pG,pN,qE,qK,Nat.reduceAdd] at hs hrow⊢;have hz:=hs;obtain⟨z0,hC0⟩:=aMM.1 hz
 try rw[rG hC0]
 clear hz hs;unfold y4 at hC0;refine oY DK ?_;refine pX ?_;refine oY DK ?_;refine pP hC0 (fun hC0 hc1=> ?_) (fun hC0 hc1=> ?_)
 ·refine oY DK ?_;refine pH (rI ?_);cases hC0;exact⟨[],by rfl,by rfl,by rfl⟩
 ·refine qJ (pM (pX ?_));refine oY DK ?_;refine rR ?_;obtain⟨y1,hy1,hC0⟩:=yW hC0;refine wN 0 (fun s=> ∃v,y1= .inl v∧s=(fun _=>⟨[],[],0,26,0⟩) v) ?_ ?_
  ·refine wM hy1 (fun x=>⟨[(0,(.val (.list (.pair .str (.pair .str .unit))) O,none)),(1,(.val (.list (.pair .str (.pair .str .unit))) Z,none)),(5,(.val (.int .i64) x,none))],[],0,26,0⟩) ⟨[0,1,5],[]⟩ (by rfl) ?_;intro aA w1 n1 hC1 hN1;unfold RV at hC1;dsimp only at hC1⊢;refine pX ?_;refine oY DK ?_;refine pP hC1 (fun hC1 hc2=> ?_) (fun hC1 hc2=> ?_)
   ·refine qJ (pM (pX (rR ?_)));obtain⟨hg1,hC1⟩:=pJ hC1;obtain⟨hg2,hC1⟩:=pJ hC1;refine AH DK ?_ (hp:=by exact⟨hg1,hg2⟩);refine pP hC1 (fun hC1 hc3=> ?_) (fun hC1 hc3=> ?_)
    ·refine oY DK ?_;refine pH (rS (rI (yV (yU (rS (rI ?_))))));cases hC1;cases hN1;dsimp only at hC0;cases hC0;exact⟨[],by rfl,by rfl,by rfl⟩
    ·refine qJ (qV (pM ?_));obtain⟨hg3,hC1⟩:=pJ hC1;refine qY DK ?_ (hp:=by exact hg3);cases hC1;exact tO ⟨⟨[0,1,5],[]⟩,_,by rfl,hN1⟩
   ·refine vW (wC (vY ?_));cases hC1;cases hN1;exact vX ⟨⟨[],[]⟩,_,rfl,by rfl⟩
  ·rintro _ ⟨v,rfl,rfl⟩;dsimp only at hC0⊢;refine wL (pM ?_);refine oY DK ?_;refine pH ?_;cases hC0;exact⟨[],by rfl,by rfl,by rfl⟩
attribute [irreducible] y4
def KE (O:qT) (Z:qT):Option Unit:=if ((((((decide (O.1=Z.1))&&(decide (O.2.1=Z.2.1)))&&(decide (O.2.2.1=Z.2.2.1)))&&(decide (O.2.2.2.2.2.1=Z.2.2.2.2.2.1)))==true)=true→((v7 O.2.2.2.1 Z.2.2.2.1)).isSome=true) then if (((((((decide (O.1=Z.1))&&(decide (O.2.1=Z.2.1)))&&(decide (O.2.2.1=Z.2.2.1)))&&(decide (O.2.2.2.2.2.1=Z.2.2.2.2.2.1)))&&(val (v7 O.2.2.2.1 Z.2.2.2.1)))==true)=true→((v7 O.2.2.2.2.1 Z.2.2.2.2.1)).isSome=true) then if ((((((((decide (O.1=Z.1))&&(decide (O.2.1=Z.2.1)))&&(decide (O.2.2.1=Z.2.2.1)))&&(decide (O.2.2.2.2.2.1=Z.2.2.2.2.2.1)))&&(val (v7 O.2.2.2.1 Z.2.2.2.1)))&&(val (v7 O.2.2.2.2.1 Z.2.2.2.2.1)))==true)=true→((y4 O.2.2.2.2.2.2.1 Z.2.2.2.2.2.2.1)).isSome=true) then some (()) else none else none else none
section
variable (O:qT) (Z:qT)
abbrev YI:List oZ:=[(.val tC O,none),(.val tC Z,none)]
abbrev YJ:List oX:=[]
@[go_sem] def YK:pD:=⟨[((KE O Z)).isSome=true],[(.val .bool (((((((decide (O.1=Z.1))&&(decide (O.2.1=Z.2.1)))&&(decide (O.2.2.1=Z.2.2.1)))&&(decide (O.2.2.2.2.2.1=Z.2.2.2.2.2.1)))&&(val (v7 O.2.2.2.1 Z.2.2.2.1)))&&(val (v7 O.2.2.2.2.1 Z.2.2.2.2.1)))&&(val (y4 O.2.2.2.2.2.2.1 Z.2.2.2.2.2.2.1))),none)],[]⟩
def a81:List oZ→List oX→Option pD:=qM (V:=(qT×qT)) (fun x=>YI x.1 x.2) (fun x=>YJ) fun x=>YK x.1 x.2
@[go_sem] theorem aLn:a81 (no_index (YI O Z)) (no_index YJ)=some (YK O Z):=qQ (fun⟨a0,a1⟩ ⟨b0,b1⟩ h1 h2=>by cases h1;cases h2;rfl) (O,Z)
end
@[go_sem] abbrev a82:Nat×pY:=(89,⟨[.v,.v],a81,[],[],none⟩)
theorem YL:qB Tryz.prog [v6,s7,zR,CP,G8] (pZ [YD,YH]):=⟨⟨vM,⟨sB,⟨B8,⟨EU,⟨K8,trivial⟩⟩⟩⟩⟩,pK a8Y (pK a80 qS),qD⟩
theorem aGG:qH Tryz.prog a82:=by
 refine qR YL Tryz.func89 (c:=_) rfl (N:=52) (by kernel_rfl) (ts:=[(4,none)]) rfl (fun _ _=>rfl) ?_;intro⟨O,Z⟩ hs hrow;dsimp only[YI,YJ,YK,qI,pG,pN,qE,qK,Nat.reduceAdd] at hs hrow⊢;have hz:=hs;obtain⟨z0,hC0⟩:=aMM.1 hz
 try rw[rG hC0]
 clear hz hs;unfold KE at hC0;refine oY YL ?_;obtain⟨hg1,hC0⟩:=pJ hC0;obtain⟨hg2,hC0⟩:=pJ hC0;obtain⟨hg3,hC0⟩:=pJ hC0;refine oY YL ?_ (hp:=by exact⟨fun hh=>hh,fun hh=>hh,fun hh=>hh,fun hh=>hh,fun hh=>sG hh,fun hh=>hh,fun hh=>hh,fun hh=>hh,fun hh=>hh,fun hh=>sG hh,fun hh=>hh,fun hh=>hh,fun hh=>hh,fun hh=>hh,fun hh=>sG hh,fun hh=>hh,fun hh=>hh,fun hh=>hh,fun hh=>hh,hg1,fun hh=>sG hh,fun hh=>hh,fun hh=>hh,fun hh=>hh,fun hh=>hh,hg2,fun hh=>sG hh,fun hh=>hh,fun hh=>hh,fun hh=>hh,fun hh=>hh,hg3,(fun hh=>sG hh)⟩);refine pH ?_;cases hC0;exact⟨[],by rfl,by rfl,by rfl⟩
attribute [irreducible] KE
end
noncomputable section
def N9 (O:(List UInt8)):Nat→Option (Nat⊕(Unit⊕Bool)):=fun Z=>if (decide (Z<O.length))=true then if (decide (Z<O.length))=true then if (((((decide ((tM O Z)<(97:Int)))||(decide ((122:Int)<(tM O Z))))&&((decide ((tM O Z)<(65:Int)))||(decide ((90:Int)<(tM O Z)))))&&((decide ((tM O Z)<(48:Int)))||(decide ((57:Int)<(tM O Z)))))&&(!decide ((tM O Z)=(45:Int))))=true then some (.inr (.inr (false))) else some (.inl (yK O Z)) else none else some (.inr (.inl ()))
def GC (O:(List UInt8)):Option Bool:=s5 (pR (N9 O) 0) fun _=>some (((decide ((1:Int)≤(O.length:Int)))&&(decide ((O.length:Int)≤(40:Int)))))
section
variable (O:(List UInt8))
abbrev YM:List oZ:=[(.val .str O,none)]
abbrev YN:List oX:=[]
@[go_sem] def YO:pD:=⟨[((GC O)).isSome=true],[(.val .bool (val (GC O)),none)],[]⟩
def a83:List oZ→List oX→Option pD:=qM (V:=(List UInt8)) (fun x=>YM x) (fun x=>YN) fun x=>YO x
@[go_sem] theorem aLo:a83 (no_index (YM O)) (no_index YN)=some (YO O):=qQ (fun a0 b0 h1 h2=>by cases h1;cases h2;rfl) O
end
@[go_sem] abbrev a84:Nat×pY:=(106,⟨[.v],a83,[],[],none⟩)
theorem GD:qB Tryz.prog [s7] (pZ []):=⟨⟨sB,trivial⟩,qS,qD⟩
theorem aGH:qH Tryz.prog a84:=by
 refine qR GD Tryz.func106 (c:=_) rfl (N:=44) (by kernel_rfl) (ts:=[(2,none)]) rfl (fun _ _=>rfl) ?_;intro O hs hrow;dsimp only[YM,YN,YO,qI,pG,pN,qE,qK,Nat.reduceAdd] at hs hrow⊢;have hz:=hs;obtain⟨z0,hC0⟩:=aMM.1 hz
 try rw[rG hC0]
 clear hz hs;unfold GC at hC0;refine oY GD ?_;refine pX ?_;refine oY GD ?_;refine rR ?_;obtain⟨y1,hy1,hC0⟩:=yW hC0;refine wN 0 (fun s=> ∃v,y1= .inl v∧s=(fun _=>⟨[(0,(.val .str O,none))],[],0,44,0⟩) v) ?_ ?_
 ·refine wM hy1 (fun x=>⟨[(0,(.val .str O,none)),(6,(.val .ref (some (0,0)),none))],[(0,.iter O x)],1,44,0⟩) ⟨[0,6],[(0,64)]⟩ (by rfl) ?_;intro Z w1 n1 hC1 hN1;unfold N9 at hC1;dsimp only at hC1⊢;refine oY GD ?_;refine pX ?_;refine pP hC1 (fun hC1 hc1=> ?_) (fun hC1 hc1=> ?_)
  ·refine qJ (pM (rR ?_));obtain⟨hg1,hC1⟩:=pJ hC1;refine oY GD ?_ (hp:=by exact hg1);refine oY GD ?_ (hp:=by exact⟨fun hh=>hh,fun hh=>xX hh,fun hh=>hh,fun hh=>hh,fun hh=>hh,fun hh=>hh,fun hG hh=>G5 hG hh,fun hh=>sG hh,fun hh=>hh,fun hh=>hh,fun hh=>hh,fun hh=>hh,fun hG hh=>G5 hG hh,fun hh=>sG hh,fun hh=>hh,(fun hh=>sG hh)⟩);refine pP hC1 (fun hC1 hc2=> ?_) (fun hC1 hc2=> ?_)
   ·refine oY GD ?_;refine pH (rS (yV (yU (rS (rI ?_)))));cases hC1;cases hN1;dsimp only at hC0;cases hC0;exact⟨[],by rfl,by rfl,by rfl⟩
   ·refine qJ (qV ?_);cases hC1;exact tO ⟨⟨[0,6],[(0,0)]⟩,_,by rfl,hN1⟩
  ·refine vW (wC (vY ?_));cases hC1;cases hN1;exact vX ⟨⟨[0],[]⟩,_,rfl,by rfl⟩
 ·rintro _ ⟨v,rfl,rfl⟩;dsimp only at hC0⊢;refine wL (pM ?_);refine oY GD ?_ (hp:=by exact⟨fun hh=>hh,fun hh=>hh,(fun hh=>sG hh)⟩);refine pH ?_;cases hC0;exact⟨[],by rfl,by rfl,by rfl⟩
attribute [irreducible] GC
def a85:Unit:=()
section
abbrev YP:List oZ:=[]
abbrev YQ:List oX:=[]
@[go_sem] def YR:pD:=⟨[],[(.val (.list .str) ([([110,101,119]:List UInt8),([102,117,122,122,121]:List UInt8),([116,114,97,110,115,108,97,116,101,100]:List UInt8),([114,101,118,105,101,119,101,100]:List UInt8),([111,98,115,111,108,101,116,101]:List UInt8)]:List (List UInt8)),some 0)],[.grow 9 1 (([([110,101,119]:List UInt8),([102,117,122,122,121]:List UInt8),([116,114,97,110,115,108,97,116,101,100]:List UInt8),([114,101,118,105,101,119,101,100]:List UInt8),([111,98,115,111,108,101,116,101]:List UInt8)]:List (List UInt8)).length)]⟩
def a86:List oZ→List oX→Option pD:=qM (V:=Unit) (fun x=>YP) (fun x=>YQ) fun x=>YR
@[go_sem] theorem aLp:a86 (no_index YP) (no_index YQ)=some YR:=qQ (fun _ _ h1 h2=>by cases h1;cases h2;rfl) ()
end
@[go_sem] abbrev RW:Nat×pY:=(111,⟨[],a86,[],[],none⟩)
theorem YS:qB Tryz.prog [zR] (pZ []):=⟨⟨B8,trivial⟩,qS,qD⟩
theorem a87:qH Tryz.prog RW:=by
 refine qR YS Tryz.func111 (c:=_) rfl (N:=2) (by kernel_rfl) (ts:=[(0,none)]) rfl (fun _ _=>rfl) ?_;intro⟨⟩ hs hrow;dsimp only[YP,YQ,YR,qI,pG,pN,qE,qK,Nat.reduceAdd] at hs hrow⊢;obtain⟨z0,hC0⟩: ∃z,a85=z:=⟨_,rfl⟩
 try rw[hC0]
 unfold a85 at hC0;refine oY YS ?_;refine oY YS ?_;refine pH ?_;cases hC0;exact⟨[(0,32)],by rfl,by rfl,by rfl⟩
def YT (O:Int):Option Unit:=if 0≤O∧O<(([([110,101,119]:List UInt8),([102,117,122,122,121]:List UInt8),([116,114,97,110,115,108,97,116,101,100]:List UInt8),([114,101,118,105,101,119,101,100]:List UInt8),([111,98,115,111,108,101,116,101]:List UInt8)]:List (List UInt8)).length:Int) then some (()) else none
attribute [irreducible] YT
def a88 (O:Int):Unit:=()
section
variable (O:Int)
abbrev YU:List oZ:=[(.val (.int .u8) O,none)]
abbrev YV:List oX:=[]
@[go_sem] def YW:pD:=⟨[],[(.val .bool (((decide ((97:Int)≤O))&&(decide (O≤(122:Int))))||((decide ((65:Int)≤O))&&(decide (O≤(90:Int))))),none)],[]⟩
def a89:List oZ→List oX→Option pD:=qM (V:=Int) (fun x=>YU x) (fun x=>YV) fun x=>YW x
@[go_sem] theorem aLq:a89 (no_index (YU O)) (no_index YV)=some (YW O):=qQ (fun a0 b0 h1 h2=>by cases h1;cases h2;rfl) O
end
@[go_sem] abbrev YX:Nat×pY:=(120,⟨[.v],a89,[],[],none⟩)
theorem YY:qB Tryz.prog [] (pZ []):=⟨trivial,qS,qD⟩
theorem a9a:qH Tryz.prog YX:=by
 refine qR YY Tryz.func120 (c:=_) rfl (N:=17) (by kernel_rfl) (ts:=[(2,none)]) rfl (fun _ _=>rfl) ?_;intro O hs hrow;dsimp only[YU,YV,YW,qI,pG,pN,qE,qK,Nat.reduceAdd] at hs hrow⊢;obtain⟨z0,hC0⟩: ∃z,(a88 O)=z:=⟨_,rfl⟩
 try rw[hC0]
 unfold a88 at hC0;refine oY YY ?_;refine oY YY ?_ (hp:=by exact⟨fun hh=>hh,fun hh=>sG hh,fun hh=>hh,fun hh=>hh,fun hh=>hh,fun hh=>hh,fun hG hh=>K0 hG hh,(fun hh=>xX hh)⟩);refine pH ?_;cases hC0;exact⟨[],by rfl,by rfl,by rfl⟩
def a9b (O:Int):Unit:=()
section
variable (O:Int)
abbrev YZ:List oZ:=[(.val (.int .i32) O,none)]
abbrev Z0:List oX:=[]
@[go_sem] def Z1:pD:=⟨[],[(.val .bool ((decide ((127:Int)<O))||(((((!(((decide ((97:Int)≤(IntKind.wrap .u8 O)))&&(decide ((IntKind.wrap .u8 O)≤(122:Int))))||((decide ((65:Int)≤(IntKind.wrap .u8 O)))&&(decide ((IntKind.wrap .u8 O)≤(90:Int))))))&&((decide (O<(48:Int)))||(decide ((57:Int)<O))))&&(!decide (O=(45:Int))))&&(!decide (O=(95:Int))))&&(!decide (O=(46:Int))))),none)],[]⟩
def a9c:List oZ→List oX→Option pD:=qM (V:=Int) (fun x=>YZ x) (fun x=>Z0) fun x=>Z1 x
@[go_sem] theorem aLr:a9c (no_index (YZ O)) (no_index Z0)=some (Z1 O):=qQ (fun a0 b0 h1 h2=>by cases h1;cases h2;rfl) O
end
@[go_sem] abbrev a9d:Nat×pY:=(122,⟨[.v],a9c,[],[],none⟩)
theorem Z2:qB Tryz.prog [GA,KB] (pZ [YX]):=⟨⟨KA,⟨RG,trivial⟩⟩,pK a9a qS,qD⟩
theorem aGI:qH Tryz.prog a9d:=by
 refine qR Z2 Tryz.func122 (c:=_) rfl (N:=31) (by kernel_rfl) (ts:=[(2,none)]) rfl (fun _ _=>rfl) ?_;intro O hs hrow;dsimp only[YZ,Z0,Z1,qI,pG,pN,qE,qK,Nat.reduceAdd] at hs hrow⊢;obtain⟨z0,hC0⟩: ∃z,(a9b O)=z:=⟨_,rfl⟩
 try rw[hC0]
 unfold a9b at hC0;refine oY Z2 ?_;refine oY Z2 ?_ (hp:=by exact⟨fun hh=>hh,fun hh=>hh,fun hh=>hh,fun hh=>hh,fun hh=>hh,fun hh=>hh,fun hh=>hh,fun hh=>hh,fun hG hh=>G5 hG hh,fun hh=>hh,fun hG hh=>K0 hG hh,fun hh=>hh,fun hh=>hh,fun hh=>hh,fun hG hh=>K0 hG hh,fun hh=>hh,fun hh=>hh,fun hh=>hh,fun hG hh=>K0 hG hh,fun hh=>hh,fun hh=>hh,fun hh=>hh,fun hG hh=>K0 hG hh,(fun hh=>xX hh)⟩);refine pH ?_;cases hC0;exact⟨[],by rfl,by rfl,by rfl⟩
def a9e (O:(List UInt8)):Unit:=()
section
variable (O:(List UInt8))
abbrev Z3:List oZ:=[(.val .str O,none)]
abbrev Z4:List oX:=[]
@[go_sem] def Z5:pD:=⟨[],[(.val .bool false,none)],[]⟩
def a9f:List oZ→List oX→Option pD:=qM (V:=(List UInt8)) (fun x=>Z3 x) (fun x=>Z4) fun x=>Z5
@[go_sem] theorem aLs:a9f (no_index (Z3 O)) (no_index Z4)=some Z5:=qQ (fun a0 b0 h1 h2=>by cases h1;cases h2;rfl) O
end
@[go_sem] abbrev RX:Nat×pY:=(125,⟨[.v],a9f,[],[],none⟩)
theorem Z6:qB Tryz.prog [] (pZ []):=⟨trivial,qS,qD⟩
theorem Z7:qH Tryz.prog RX:=by
 refine qR Z6 Tryz.func125 (c:=_) rfl (N:=3) (by kernel_rfl) (ts:=[(2,none)]) rfl (fun _ _=>rfl) ?_;intro O hs hrow;dsimp only[Z3,Z4,Z5,qI,pG,pN,qE,qK,Nat.reduceAdd] at hs hrow⊢;obtain⟨z0,hC0⟩: ∃z,(a9e O)=z:=⟨_,rfl⟩
 try rw[hC0]
 unfold a9e at hC0;refine oY Z6 ?_;refine oY Z6 ?_;refine pH ?_;cases hC0;exact⟨[],by rfl,by rfl,by rfl⟩
def a9g (O:(List UInt8)):Unit:=()
section
variable (O:(List UInt8))
abbrev Z8:List oZ:=[(.val .str O,none)]
abbrev Z9:List oX:=[]
@[go_sem] def ZA:pD:=⟨[],[(.val .bool ((!decide (O=([]:List UInt8)))&&(decide ((O.length:Int)≤(200:Int)))),none)],[]⟩
def a9h:List oZ→List oX→Option pD:=qM (V:=(List UInt8)) (fun x=>Z8 x) (fun x=>Z9) fun x=>ZA x
@[go_sem] theorem aLt:a9h (no_index (Z8 O)) (no_index Z9)=some (ZA O):=qQ (fun a0 b0 h1 h2=>by cases h1;cases h2;rfl) O
end
@[go_sem] abbrev a9i:Nat×pY:=(127,⟨[.v],a9h,[],[],none⟩)
theorem ZB:qB Tryz.prog [s7] (pZ []):=⟨⟨sB,trivial⟩,qS,qD⟩
theorem aGJ:qH Tryz.prog a9i:=by
 refine qR ZB Tryz.func127 (c:=_) rfl (N:=10) (by kernel_rfl) (ts:=[(2,none)]) rfl (fun _ _=>rfl) ?_;intro O hs hrow;dsimp only[Z8,Z9,ZA,qI,pG,pN,qE,qK,Nat.reduceAdd] at hs hrow⊢;obtain⟨z0,hC0⟩: ∃z,(a9g O)=z:=⟨_,rfl⟩
 try rw[hC0]
 unfold a9g at hC0;refine oY ZB ?_;refine oY ZB ?_ (hp:=by exact⟨fun hh=>hh,fun hh=>hh,(fun hh=>sG hh)⟩);refine pH ?_;cases hC0;exact⟨[],by rfl,by rfl,by rfl⟩
def a9j (O:(List UInt8)) (Z:((List UInt8)×(Int×Unit))) (aA:rJ) (aB:Int) (aC:Int) (aD:qZ) (aE:((List Int)×(Int×Unit))) (aF:(List ((List UInt8)×Bool))):Unit:=()
section
variable (O:(List UInt8)) (Z:((List UInt8)×(Int×Unit))) (aA:rJ) (aB:Int) (aC:Int) (aD:qZ) (aE:((List Int)×(Int×Unit))) (aF:Nat) (aG:Nat) (aH:(List ((List UInt8)×Bool)))
abbrev ZC:List oZ:=[(.val .str O,none),(.val .ref (some (0,0)),none)]
abbrev ZD:List oX:=[.cells .ref (some (1,0)) [],.cells rF (Z,(aA,(aB,(aC,(aD,((some 4),aE)))))) [(11,2),(13,3)],.grow 55 7 aF,.grow 3 1 aG,.map .str .bool aH]
@[go_sem] def ZE:pD:=⟨[aF=(aD.2.2.2.1.length),aG=(aE.1.length)],[(.val .bool (rM .str .bool aH O),none)],[.cells .ref (some (1,0)) [],.cells rF ((Z.1,(Z.2.1,())),((aA.1,(aA.2.1,(aA.2.2.1,(aA.2.2.2.1,())))),(aB,(aC,((aD.1,(aD.2.1,(aD.2.2.1,(aD.2.2.2.1,())))),((some 4),(aE.1,(aE.2.1,())))))))) [(11,2),(13,3)],.grow 55 7 (aD.2.2.2.1.length),.grow 3 1 (aE.1.length),.map .str .bool aH]⟩
def a9k:List oZ→List oX→Option pD:=qM (V:=((List UInt8)×((List UInt8)×(Int×Unit))×rJ×Int×Int×qZ×((List Int)×(Int×Unit))×Nat×Nat×(List ((List UInt8)×Bool)))) (fun x=>ZC x.1) (fun x=>ZD x.2.1 x.2.2.1 x.2.2.2.1 x.2.2.2.2.1 x.2.2.2.2.2.1 x.2.2.2.2.2.2.1 x.2.2.2.2.2.2.2.1 x.2.2.2.2.2.2.2.2.1 x.2.2.2.2.2.2.2.2.2) fun x=>ZE x.1 x.2.1 x.2.2.1 x.2.2.2.1 x.2.2.2.2.1 x.2.2.2.2.2.1 x.2.2.2.2.2.2.1 x.2.2.2.2.2.2.2.1 x.2.2.2.2.2.2.2.2.1 x.2.2.2.2.2.2.2.2.2
@[go_sem] theorem aLu:a9k (no_index (ZC O)) (no_index (ZD Z aA aB aC aD aE aF aG aH))=some (ZE O Z aA aB aC aD aE aF aG aH):=qQ (fun⟨a0,a1,a2,a3,a4,a5,a6,a7,a8,a9⟩ ⟨b0,b1,b2,b3,b4,b5,b6,b7,b8,b9⟩ h1 h2=>by cases h1;cases h2;rfl) (O,Z,aA,aB,aC,aD,aE,aF,aG,aH)
end
@[go_sem] abbrev a9l:Nat×pY:=(128,⟨[.v,.p .ref []],a9k,[(0,0,.p rF [11,13]),(1,12,.m)],[0,1,2,3,4],none⟩)
theorem ZF:qB Tryz.prog [DI,s7,RH,I8,wP] (pZ []):=⟨⟨GB,⟨sB,⟨a8F,⟨N5,⟨xZ,trivial⟩⟩⟩⟩⟩,qS,qD⟩
theorem aGK:qH Tryz.prog a9l:=by
 refine qR ZF Tryz.func128 (c:=_) rfl (N:=10) (by kernel_rfl) (ts:=[(3,none)]) rfl (fun _ _=>rfl) ?_;intro⟨O,Z,aA,aB,aC,aD,aE,aF,aG,aH⟩ hs hrow;dsimp only[ZC,ZD,ZE,qI,pG,pN,qE,qK,Nat.reduceAdd] at hs hrow⊢;obtain⟨rfl,rfl⟩:=hs;obtain⟨z0,hC0⟩: ∃z,(a9j O Z aA aB aC aD aE aH)=z:=⟨_,rfl⟩
 try rw[hC0]
 unfold a9j at hC0;refine oY ZF ?_;refine oY ZF ?_;refine pH ?_;cases hC0;exact⟨[(0,0),(1,1),(2,2),(3,3),(4,4)],by rfl,by rfl,by rfl⟩
def a9m (O:Int):Unit:=()
section
variable (O:Int)
abbrev ZG:List oZ:=[(.val (.int .i64) O,none)]
abbrev ZH:List oX:=[]
@[go_sem] def ZI:pD:=⟨[],[(.val .bool ((decide ((1:Int)≤O))&&(decide (O≤(4:Int)))),none)],[]⟩
def a9n:List oZ→List oX→Option pD:=qM (V:=Int) (fun x=>ZG x) (fun x=>ZH) fun x=>ZI x
@[go_sem] theorem aLv:a9n (no_index (ZG O)) (no_index ZH)=some (ZI O):=qQ (fun a0 b0 h1 h2=>by cases h1;cases h2;rfl) O
end
@[go_sem] abbrev ZJ:Nat×pY:=(164,⟨[.v],a9n,[],[],none⟩)
theorem ZK:qB Tryz.prog [] (pZ []):=⟨trivial,qS,qD⟩
theorem a9o:qH Tryz.prog ZJ:=by
 refine qR ZK Tryz.func164 (c:=_) rfl (N:=9) (by kernel_rfl) (ts:=[(2,none)]) rfl (fun _ _=>rfl) ?_;intro O hs hrow;dsimp only[ZG,ZH,ZI,qI,pG,pN,qE,qK,Nat.reduceAdd] at hs hrow⊢;obtain⟨z0,hC0⟩: ∃z,(a9m O)=z:=⟨_,rfl⟩
 try rw[hC0]
 unfold a9m at hC0;refine oY ZK ?_;refine oY ZK ?_ (hp:=by exact⟨fun hh=>hh,(fun hh=>sG hh)⟩);refine pH ?_;cases hC0;exact⟨[],by rfl,by rfl,by rfl⟩
end
noncomputable section
def wR (O:ER) (Z:rJ) (aA:Int):(Int×Int):=if (decide (O.2.2.2.1=(0:Int)))=true then (Z.2.2.1,aA) else (O.2.2.1,O.2.2.2.1)
def KF (O:(List UInt8)) (Z:Int) (aA:(List UInt8)):Option Unit:=if p8 ((O.length:Int)-Z) then if (((decide ((aA.length:Int)≤((O.length:Int)-Z)))==true)=true→p8 (Z+(aA.length:Int))) then if (((decide ((aA.length:Int)≤((O.length:Int)-Z)))==true)=true→0≤Z∧Z≤(Z+(aA.length:Int))∧(Z+(aA.length:Int))≤(O.length:Int)) then some (()) else none else none else none
attribute [irreducible] KF
def RY (O:(List UInt8)):Int→Option (Int⊕(Unit⊕Int)):=fun Z=>if (decide (Z≤(4:Int)))=true then (YT Z).bind fun aA=>if (decide ((qG .str ([([110,101,119]:List UInt8),([102,117,122,122,121]:List UInt8),([116,114,97,110,115,108,97,116,101,100]:List UInt8),([114,101,118,105,101,119,101,100]:List UInt8),([111,98,115,111,108,101,116,101]:List UInt8)]:List (List UInt8)) Z)=O))=true then some (.inr (.inr (Z))) else if p8 (Z+(1:Int)) then some (.inl (Z+(1:Int))) else none else some (.inr (.inl ()))
def KG (O:(List UInt8)):Option Int:=s5 (pR (RY O) (0:Int)) fun _=>some ((-1:Int))
attribute [irreducible] KG
def RZ (O:(List pL)) (Z:(List UInt8)):Int→Option (Int⊕(Unit⊕((List UInt8)×Bool))):=fun aA=>if (decide (aA<(O.length:Int)))=true then if 0≤aA∧aA<(O.length:Int) then if (decide ((qG (.pair .str (.pair .str .unit)) O aA).1=Z))=true then if 0≤aA∧aA<(O.length:Int) then some (.inr (.inr (((qG (.pair .str (.pair .str .unit)) O aA).2.1,true)))) else none else if p8 (aA+(1:Int)) then some (.inl (aA+(1:Int))) else none else none else some (.inr (.inl ()))
def S0 (O:(List pL)) (Z:(List UInt8)):Option ((List UInt8)×Bool):=s5 (pR (RZ O Z) (0:Int)) fun _=>some ((([]:List UInt8),false))
attribute [irreducible] S0
def S1 (O:(List pL)) (Z:(List UInt8)) (aA:(List UInt8)):Int→Option (Int⊕(Unit⊕(List pL))):=fun aB=>if (decide (aB<((((([]:List pL)++O).length):Nat):Int)))=true then if 0≤aB∧aB<((((([]:List pL)++O).length):Nat):Int) then if (decide ((qG (.pair .str (.pair .str .unit)) (([]:List pL)++O) aB).1=Z))=true then if 0≤aB∧aB<((((([]:List pL)++O).length):Nat):Int) then some (.inr (.inr ((List.set (([]:List pL)++O) (Int.toNat aB) ((qG (.pair .str (.pair .str .unit)) (([]:List pL)++O) aB).1,(aA,(qG (.pair .str (.pair .str .unit)) (([]:List pL)++O) aB).2.2)))))) else none else if p8 (aB+(1:Int)) then some (.inl (aB+(1:Int))) else none else none else some (.inr (.inl ()))
def KH (O:(List pL)) (Z:(List UInt8)):Int→Option (Int⊕Int):=fun aA=>if (((decide (aA<(O.length:Int)))==true)=true→0≤aA∧aA<(O.length:Int)) then if ((decide (aA<(O.length:Int)))&&(Op.bytesLess (qG (.pair .str (.pair .str .unit)) O aA).1 Z||decide ((qG (.pair .str (.pair .str .unit)) O aA).1=Z)))=true then if p8 (aA+(1:Int)) then some (.inl (aA+(1:Int))) else none else some (.inr aA) else none
def S2 (O:(List pL)) (Z:(List UInt8)) (aA:(List UInt8)):Option (List pL):=if (0+O.length)*32≤140737488355328 then s5 (pR (S1 O Z aA) (0:Int)) fun _=>rE (pR (KH O Z) (0:Int)) fun aB=>if 0≤(0:Int)∧(0:Int)≤aB∧aB≤(O.length:Int) then if (0+(pE O (0:Int) aB).length)*32≤140737488355328 then if (((([]:List pL)++(pE O (0:Int) aB)).length)+([(Z,(aA,()))]:List pL).length)*32≤140737488355328 then if 0≤aB∧aB≤(O.length:Int)∧(O.length:Int)≤(O.length:Int) then if ((((([]:List pL)++(pE O (0:Int) aB))++([(Z,(aA,()))]:List pL)).length)+(pE O aB (O.length:Int)).length)*32≤140737488355328 then some ((((([]:List pL)++(pE O (0:Int) aB))++([(Z,(aA,()))]:List pL))++(pE O aB (O.length:Int)))) else none else none else none else none else none else none
attribute [irreducible] S2
end
noncomputable section
def KI (O:(List UInt8)):Nat→Option (Nat⊕(Unit⊕Bool)):=fun Z=>if (decide (Z<O.length))=true then if (decide (Z<O.length))=true then if (decide (Z<O.length))=true then if ((decide ((97:Int)≤(tM O Z)))&&(decide ((tM O Z)≤(122:Int))))=true then some (.inl (yK O Z)) else if ((decide ((0:Int)<((Z:Nat):Int)))&&(((((decide ((48:Int)≤(tM O Z)))&&(decide ((tM O Z)≤(57:Int))))||(decide ((tM O Z)=(45:Int))))||(decide ((tM O Z)=(95:Int))))||(decide ((tM O Z)=(46:Int)))))=true then some (.inl (yK O Z)) else some (.inr (.inr (false))) else none else none else some (.inr (.inl ()))
def DL (O:(List UInt8)):Option Bool:=s5 (pR (KI O) 0) fun _=>some (((decide ((1:Int)≤(O.length:Int)))&&(decide ((O.length:Int)≤(40:Int)))))
section
variable (O:(List UInt8))
abbrev ZL:List oZ:=[(.val .str O,none)]
abbrev ZM:List oX:=[]
@[go_sem] def ZN:pD:=⟨[((DL O)).isSome=true],[(.val .bool (val (DL O)),none)],[]⟩
def a9p:List oZ→List oX→Option pD:=qM (V:=(List UInt8)) (fun x=>ZL x) (fun x=>ZM) fun x=>ZN x
@[go_sem] theorem aLw:a9p (no_index (ZL O)) (no_index ZM)=some (ZN O):=qQ (fun a0 b0 h1 h2=>by cases h1;cases h2;rfl) O
end
@[go_sem] abbrev NA:Nat×pY:=(162,⟨[.v],a9p,[],[],none⟩)
theorem DM:qB Tryz.prog [s7] (pZ []):=⟨⟨sB,trivial⟩,qS,qD⟩
theorem a9q:qH Tryz.prog NA:=by
 refine qR DM Tryz.func162 (c:=_) rfl (N:=51) (by kernel_rfl) (ts:=[(2,none)]) rfl (fun _ _=>rfl) ?_;intro O hs hrow;dsimp only[ZL,ZM,ZN,qI,pG,pN,qE,qK,Nat.reduceAdd] at hs hrow⊢;have hz:=hs;obtain⟨z0,hC0⟩:=aMM.1 hz
 try rw[rG hC0]
 clear hz hs;unfold DL at hC0;refine oY DM ?_;refine pX ?_;refine oY DM ?_;refine rR ?_;obtain⟨y1,hy1,hC0⟩:=yW hC0;refine wN 0 (fun s=> ∃v,y1= .inl v∧s=(fun _=>⟨[(0,(.val .str O,none))],[],0,51,0⟩) v) ?_ ?_
 ·refine wM hy1 (fun x=>⟨[(0,(.val .str O,none)),(7,(.val .ref (some (0,0)),none))],[(0,.iter O x)],1,51,0⟩) ⟨[0,7],[(0,64)]⟩ (by rfl) ?_;intro Z w1 n1 hC1 hN1;unfold KI at hC1;dsimp only at hC1⊢;refine oY DM ?_;refine pX ?_;refine pP hC1 (fun hC1 hc1=> ?_) (fun hC1 hc1=> ?_)
  ·refine qJ (pM (rR ?_));obtain⟨hg1,hC1⟩:=pJ hC1;obtain⟨hg2,hC1⟩:=pJ hC1;refine oY DM ?_ (hp:=by exact⟨hg1,hg2⟩);refine oY DM ?_ (hp:=by exact⟨fun hh=>hh,(fun hh=>sG hh)⟩);refine rR ?_;refine oY DM ?_;refine pP hC1 (fun hC1 hc2=> ?_) (fun hC1 hc2=> ?_)
   ·refine qJ (qV (qV ?_));cases hC1;exact tO ⟨⟨[0,7],[(0,0)]⟩,_,by rfl,hN1⟩
   ·refine oY DM ?_ (hp:=by exact⟨fun hh=>hh,fun hh=>hh,fun hh=>hh,fun hh=>hh,fun hG hh=>K0 hG hh,fun hh=>hh,fun hh=>hh,fun hh=>hh,fun hG hh=>G5 hG hh,fun hh=>hh,fun hh=>hh,fun hh=>hh,fun hG hh=>G5 hG hh,fun hh=>hh,fun hh=>hh,fun hh=>hh,fun hG hh=>G5 hG hh,(fun hh=>sG hh)⟩);refine pP hC1 (fun hC1 hc3=> ?_) (fun hC1 hc3=> ?_)
    ·refine qJ (qV (qV ?_));cases hC1;exact tO ⟨⟨[0,7],[(0,0)]⟩,_,by rfl,hN1⟩
    ·refine oY DM ?_;refine pH (rS (rS (yV (yU (rS (rI ?_))))));cases hC1;cases hN1;dsimp only at hC0;cases hC0;exact⟨[],by rfl,by rfl,by rfl⟩
  ·refine vW (wC (vY ?_));cases hC1;cases hN1;exact vX ⟨⟨[0],[]⟩,_,rfl,by rfl⟩
 ·rintro _ ⟨v,rfl,rfl⟩;dsimp only at hC0⊢;refine wL (pM ?_);refine oY DM ?_ (hp:=by exact⟨fun hh=>hh,fun hh=>hh,(fun hh=>sG hh)⟩);refine pH ?_;cases hC0;exact⟨[],by rfl,by rfl,by rfl⟩
attribute [irreducible] DL
def a9r (O:((List UInt8)×(Int×Unit))) (Z:rJ) (aA:Int) (aB:Int) (aC:qZ) (aD:((List Int)×(Int×Unit))) (aE:Int) (aF:(List UInt8)) (aG:(List ((List UInt8)×Bool))):Unit:=()
section
variable (O:Int) (Z:(List UInt8)) (aA:((List UInt8)×(Int×Unit))) (aB:rJ) (aC:Int) (aD:Int) (aE:qZ) (aF:((List Int)×(Int×Unit))) (aG:Nat) (aH:Nat) (aI:(List ((List UInt8)×Bool)))
abbrev ZO:List oZ:=[(.val .ref (some (0,0)),none),(.val (.int .i64) O,none),(.val .str Z,none)]
abbrev ZP:List oX:=[.cells rF (aA,(aB,(aC,(aD,(aE,((some 3),aF)))))) [(11,1),(13,2)],.grow 55 7 aG,.grow 3 1 aH,.map .str .bool aI]
@[go_sem] def ZQ:pD:=⟨[aG=(aE.2.2.2.1.length),aH=(aF.1.length)],[(.val .bool (((decide (aD=(0:Int)))&&(decide (aB.1=O)))&&(decide (aB.2.1=Z))),none)],[.cells rF ((aA.1,(aA.2.1,())),((aB.1,(aB.2.1,(aB.2.2.1,(aB.2.2.2.1,())))),(aC,(aD,((aE.1,(aE.2.1,(aE.2.2.1,(aE.2.2.2.1,())))),((some 3),(aF.1,(aF.2.1,())))))))) [(11,1),(13,2)],.grow 55 7 (aE.2.2.2.1.length),.grow 3 1 (aF.1.length),.map .str .bool aI]⟩
def a9s:List oZ→List oX→Option pD:=qM (V:=(Int×(List UInt8)×((List UInt8)×(Int×Unit))×rJ×Int×Int×qZ×((List Int)×(Int×Unit))×Nat×Nat×(List ((List UInt8)×Bool)))) (fun x=>ZO x.1 x.2.1) (fun x=>ZP x.2.2.1 x.2.2.2.1 x.2.2.2.2.1 x.2.2.2.2.2.1 x.2.2.2.2.2.2.1 x.2.2.2.2.2.2.2.1 x.2.2.2.2.2.2.2.2.1 x.2.2.2.2.2.2.2.2.2.1 x.2.2.2.2.2.2.2.2.2.2) fun x=>ZQ x.1 x.2.1 x.2.2.1 x.2.2.2.1 x.2.2.2.2.1 x.2.2.2.2.2.1 x.2.2.2.2.2.2.1 x.2.2.2.2.2.2.2.1 x.2.2.2.2.2.2.2.2.1 x.2.2.2.2.2.2.2.2.2.1 x.2.2.2.2.2.2.2.2.2.2
@[go_sem] theorem aLx:a9s (no_index (ZO O Z)) (no_index (ZP aA aB aC aD aE aF aG aH aI))=some (ZQ O Z aA aB aC aD aE aF aG aH aI):=qQ (fun⟨a0,a1,a2,a3,a4,a5,a6,a7,a8,a9,a10⟩ ⟨b0,b1,b2,b3,b4,b5,b6,b7,b8,b9,b10⟩ h1 h2=>by cases h1;cases h2;rfl) (O,Z,aA,aB,aC,aD,aE,aF,aG,aH,aI)
end
@[go_sem] abbrev a9t:Nat×pY:=(176,⟨[.p rF [11,13],.v,.v],a9s,[(0,12,.m)],[0,1,2,3],none⟩)
theorem ZR:qB Tryz.prog [v6,s7,EW,yY,wP] (pZ []):=⟨⟨vM,⟨sB,⟨I9,⟨AL,⟨xZ,trivial⟩⟩⟩⟩⟩,qS,qD⟩
theorem aGL:qH Tryz.prog a9t:=by
 refine qR ZR Tryz.func176 (c:=_) rfl (N:=30) (by kernel_rfl) (ts:=[(6,none)]) rfl (fun _ _=>rfl) ?_;intro⟨O,Z,aA,aB,aC,aD,aE,aF,aG,aH,aI⟩ hs hrow;dsimp only[ZO,ZP,ZQ,qI,pG,pN,qE,qK,Nat.reduceAdd] at hs hrow⊢;obtain⟨rfl,rfl⟩:=hs;obtain⟨z0,hC0⟩: ∃z,(a9r aA aB aC aD aE aF O Z aI)=z:=⟨_,rfl⟩
 try rw[hC0]
 unfold a9r at hC0;refine oY ZR ?_;refine oY ZR ?_ (hp:=by exact⟨fun hh=>hh,fun hh=>hh,fun hh=>hh,fun hh=>hh,fun hh=>hh,fun hh=>hh,fun hh=>sG hh,fun hh=>hh,fun hh=>hh,fun hh=>hh,fun hh=>hh,fun hh=>hh,fun hh=>hh,(fun hh=>sG hh)⟩);refine pH ?_;cases hC0;exact⟨[(0,0),(1,1),(2,2),(3,3)],by rfl,by rfl,by rfl⟩
def tP (O:((List UInt8)×(Int×Unit))) (Z:rJ) (aA:Int) (aB:Int) (aC:qZ) (aD:((List Int)×(Int×Unit))) (aE:Int) (aF:(List ((List UInt8)×Bool))):(Int×Int):=if (decide (aB=(0:Int)))=true then (Z.2.2.1,aE) else (aA,aB)
section
variable (O:Int) (Z:((List UInt8)×(Int×Unit))) (aA:rJ) (aB:Int) (aC:Int) (aD:qZ) (aE:((List Int)×(Int×Unit))) (aF:Nat) (aG:Nat) (aH:(List ((List UInt8)×Bool)))
abbrev ZS:List oZ:=[(.val .ref (some (0,0)),none),(.val (.int .i64) O,none)]
abbrev ZT:List oX:=[.cells rF (Z,(aA,(aB,(aC,(aD,((some 3),aE)))))) [(11,1),(13,2)],.grow 55 7 aF,.grow 3 1 aG,.map .str .bool aH]
@[go_sem] def ZU:pD:=⟨[aF=(aD.2.2.2.1.length),aG=(aE.1.length)],[],[.cells rF ((Z.1,(Z.2.1,())),((aA.1,(aA.2.1,(aA.2.2.1,(aA.2.2.2.1,())))),((tP Z aA aB aC aD aE O aH).1,((tP Z aA aB aC aD aE O aH).2,((aD.1,(aD.2.1,(aD.2.2.1,(aD.2.2.2.1,())))),((some 3),(aE.1,(aE.2.1,())))))))) [(11,1),(13,2)],.grow 55 7 (aD.2.2.2.1.length),.grow 3 1 (aE.1.length),.map .str .bool aH]⟩
def a9u:List oZ→List oX→Option pD:=qM (V:=(Int×((List UInt8)×(Int×Unit))×rJ×Int×Int×qZ×((List Int)×(Int×Unit))×Nat×Nat×(List ((List UInt8)×Bool)))) (fun x=>ZS x.1) (fun x=>ZT x.2.1 x.2.2.1 x.2.2.2.1 x.2.2.2.2.1 x.2.2.2.2.2.1 x.2.2.2.2.2.2.1 x.2.2.2.2.2.2.2.1 x.2.2.2.2.2.2.2.2.1 x.2.2.2.2.2.2.2.2.2) fun x=>ZU x.1 x.2.1 x.2.2.1 x.2.2.2.1 x.2.2.2.2.1 x.2.2.2.2.2.1 x.2.2.2.2.2.2.1 x.2.2.2.2.2.2.2.1 x.2.2.2.2.2.2.2.2.1 x.2.2.2.2.2.2.2.2.2
@[go_sem] theorem aLy:a9u (no_index (ZS O)) (no_index (ZT Z aA aB aC aD aE aF aG aH))=some (ZU O Z aA aB aC aD aE aF aG aH):=qQ (fun⟨a0,a1,a2,a3,a4,a5,a6,a7,a8,a9⟩ ⟨b0,b1,b2,b3,b4,b5,b6,b7,b8,b9⟩ h1 h2=>by cases h1;cases h2;rfl) (O,Z,aA,aB,aC,aD,aE,aF,aG,aH)
end
@[go_sem] abbrev yZ:Nat×pY:=(177,⟨[.p rF [11,13],.v],a9u,[(0,12,.m)],[1,2,3],none⟩)
theorem ZV:qB Tryz.prog [v6,EW,yY,wP] (pZ []):=⟨⟨vM,⟨I9,⟨AL,⟨xZ,trivial⟩⟩⟩⟩,qS,qD⟩
theorem DN:qH Tryz.prog yZ:=by
 refine qR ZV Tryz.func177 (c:=_) rfl (N:=21) (by kernel_rfl) (ts:=[]) rfl (fun _ _=>rfl) ?_;intro⟨O,Z,aA,aB,aC,aD,aE,aF,aG,aH⟩ hs hrow;dsimp only[ZS,ZT,ZU,qI,pG,pN,qE,qK,Nat.reduceAdd] at hs hrow⊢;obtain⟨rfl,rfl⟩:=hs;obtain⟨z0,hC0⟩: ∃z,(tP Z aA aB aC aD aE O aH)=z:=⟨_,rfl⟩
 try rw[hC0]
 unfold tP at hC0;refine oY ZV ?_;refine pP hC0 (fun hC0 hc1=> ?_) (fun hC0 hc1=> ?_)
 ·refine qY ZV ?_;cases hC0;exact⟨[(0,0),(1,1),(2,2),(3,3)],by rfl,by rfl,by rfl⟩
 ·refine qJ ?_;cases hC0;exact⟨[(0,0),(1,1),(2,2),(3,3)],by rfl,by rfl,by rfl⟩
def vZ (O:(List UInt8)) (Z:(List UInt8)) (aA:(List UInt8)) (aB:(List (List UInt8))) (aC:(Int×((List pL)×Unit))) (aD:Bool) (aE:(List (List UInt8))) (aF:(List ((List UInt8)×Bool))):(List ((List UInt8)×(Option Nat))):=if aD=true then (sI .str .fn ([102,108,97,103]:List UInt8) (some 218) (sI .str .fn ([115,116,97,116,101]:List UInt8) (some 217) (sI .str .fn ([116,97,114,103,101,116]:List UInt8) (some 216) (sI .str .fn ([115,111,117,114,99,101]:List UInt8) (some 215) (sI .str .fn ([102,105,101,108,100]:List UInt8) (some 214) (sI .str .fn ([99,111,109,109,101,110,116]:List UInt8) (some 213) ([]:List ((List UInt8)×(Option Nat))))))))) else (sI .str .fn ([102,105,101,108,100]:List UInt8) (some 214) (sI .str .fn ([99,111,109,109,101,110,116]:List UInt8) (some 213) ([]:List ((List UInt8)×(Option Nat)))))
section
variable (O:(List UInt8)) (Z:(List UInt8)) (aA:(List UInt8)) (aB:(List (List UInt8))) (aC:Nat) (aD:(Int×((List pL)×Unit))) (aE:Bool) (aF:Nat) (aG:Nat) (aH:(List (List UInt8))) (aI:Nat) (aJ:(List ((List UInt8)×Bool)))
abbrev ZW:List oZ:=[(.val .ref (some (0,0)),none)]
abbrev ZX:List oX:=[.cells sH ((O,(Z,(aA,(aB,((some (3,aC)),aD))))),(aE,((some 4),()))) [(3,1),(6,2)],.grow 9 1 aF,.grow 149 2 aG,.row 9 .str aH aI,.map .str .bool aJ]
@[go_sem] def ZY:pD:=⟨[aF=(aB.length),aG=(aD.2.1.length),aC=aI],[(.val .mp (some 5),none)],[.cells sH ((O,(Z,(aA,(aB,((some (3,(aH.length))),(aD.1,(aD.2.1,()))))))),(aE,((some 4),()))) [(3,1),(6,2)],.grow 9 1 (aB.length),.grow 149 2 (aD.2.1.length),.row 9 .str aH (aH.length),.map .str .bool aJ,.map .str .fn (vZ O Z aA aB aD aE aH aJ)]⟩
def a9v:List oZ→List oX→Option pD:=qM (V:=((List UInt8)×(List UInt8)×(List UInt8)×(List (List UInt8))×Nat×(Int×((List pL)×Unit))×Bool×Nat×Nat×(List (List UInt8))×Nat×(List ((List UInt8)×Bool)))) (fun x=>ZW) (fun x=>ZX x.1 x.2.1 x.2.2.1 x.2.2.2.1 x.2.2.2.2.1 x.2.2.2.2.2.1 x.2.2.2.2.2.2.1 x.2.2.2.2.2.2.2.1 x.2.2.2.2.2.2.2.2.1 x.2.2.2.2.2.2.2.2.2.1 x.2.2.2.2.2.2.2.2.2.2.1 x.2.2.2.2.2.2.2.2.2.2.2) fun x=>ZY x.1 x.2.1 x.2.2.1 x.2.2.2.1 x.2.2.2.2.1 x.2.2.2.2.2.1 x.2.2.2.2.2.2.1 x.2.2.2.2.2.2.2.1 x.2.2.2.2.2.2.2.2.1 x.2.2.2.2.2.2.2.2.2.1 x.2.2.2.2.2.2.2.2.2.2.1 x.2.2.2.2.2.2.2.2.2.2.2
@[go_sem] theorem aLz:a9v (no_index ZW) (no_index (ZX O Z aA aB aC aD aE aF aG aH aI aJ))=some (ZY O Z aA aB aC aD aE aF aG aH aI aJ):=qQ (fun⟨a0,a1,a2,a3,a4,a5,a6,a7,a8,a9,a10,a11⟩ ⟨b0,b1,b2,b3,b4,b5,b6,b7,b8,b9,b10,b11⟩ h1 h2=>by cases h1;cases h2;rfl) (O,Z,aA,aB,aC,aD,aE,aF,aG,aH,aI,aJ)
end
@[go_sem] abbrev ZZ:Nat×pY:=(179,⟨[.p sH [3,6]],a9v,[(0,4,.r),(0,8,.m)],[0,1,2,3,4],none⟩)
theorem a9w:qB Tryz.prog [] (pZ []):=⟨trivial,qS,qD⟩
theorem KJ:qB Tryz.prog [DI,s7,B9,RJ,RK] (pZ []):=⟨⟨GB,⟨sB,⟨CQ,⟨a8H,⟨a8I,trivial⟩⟩⟩⟩⟩,a9w.Γ,qD⟩
theorem aGM:qH Tryz.prog ZZ:=by
 refine qR a9w Tryz.func179 (c:=_) rfl (N:=15) (by kernel_rfl) (ts:=[(2,none)]) rfl (fun _ _=>rfl) ?_;intro⟨O,Z,aA,aB,aC,aD,aE,aF,aG,aH,aI,aJ⟩ hs hrow;dsimp only[ZW,ZX,ZY,qI,pG,pN,qE,qK,Nat.reduceAdd] at hs hrow⊢;obtain⟨rfl,rfl,rfl⟩:=hs;obtain⟨rfl,_⟩:=hrow;obtain⟨z0,hC0⟩: ∃z,(vZ O Z aA aB aD aE aH aJ)=z:=⟨_,rfl⟩
 try rw[hC0]
 unfold vZ at hC0;refine oY KJ ?_;refine oY KJ ?_;refine pX ?_;refine oY KJ ?_;refine pP hC0 (fun hC0 hc1=> ?_) (fun hC0 hc1=> ?_)
 ·refine qY KJ ?_;refine pM ?_;refine oY KJ ?_;refine pH ?_;cases hC0;exact⟨[(0,0),(1,1),(2,2),(3,3),(4,4),(5,37)],by rfl,by rfl,by rfl⟩
 ·refine qJ (pM ?_);refine oY KJ ?_;refine pH ?_;cases hC0;exact⟨[(0,0),(1,1),(2,2),(3,3),(4,4),(5,37)],by rfl,by rfl,by rfl⟩
def KK (O:(List UInt8)) (Z:(List UInt8)):Option Unit:=if (((decide ((Z.length:Int)≤(O.length:Int)))==true)=true→0≤(0:Int)∧(0:Int)≤(Z.length:Int)∧(Z.length:Int)≤(O.length:Int)) then some (()) else none
section
variable (O:(List UInt8)) (Z:(List UInt8))
abbrev a0a:List oZ:=[(.val .str O,none),(.val .str Z,none)]
abbrev a0b:List oX:=[]
@[go_sem] def a0c:pD:=⟨[((KK O Z)).isSome=true],[(.val .bool ((decide ((Z.length:Int)≤(O.length:Int)))&&(decide ((pE O (0:Int) (Z.length:Int))=Z))),none)],[]⟩
def a9x:List oZ→List oX→Option pD:=qM (V:=((List UInt8)×(List UInt8))) (fun x=>a0a x.1 x.2) (fun x=>a0b) fun x=>a0c x.1 x.2
@[go_sem] theorem aLA:a9x (no_index (a0a O Z)) (no_index a0b)=some (a0c O Z):=qQ (fun⟨a0,a1⟩ ⟨b0,b1⟩ h1 h2=>by cases h1;cases h2;rfl) (O,Z)
end
@[go_sem] abbrev a0d:Nat×pY:=(183,⟨[.v,.v],a9x,[],[],none⟩)
theorem a0e:qB Tryz.prog [s7] (pZ []):=⟨⟨sB,trivial⟩,qS,qD⟩
theorem a9y:qH Tryz.prog a0d:=by
 refine qR a0e Tryz.func183 (c:=_) rfl (N:=18) (by kernel_rfl) (ts:=[(4,none)]) rfl (fun _ _=>rfl) ?_;intro⟨O,Z⟩ hs hrow;dsimp only[a0a,a0b,a0c,qI,pG,pN,qE,qK,Nat.reduceAdd] at hs hrow⊢;have hz:=hs;obtain⟨z0,hC0⟩:=aMM.1 hz
 try rw[rG hC0]
 clear hz hs;unfold KK at hC0;refine oY a0e ?_;obtain⟨hg1,hC0⟩:=pJ hC0;refine oY a0e ?_ (hp:=by exact⟨fun hh=>hh,fun hh=>hh,fun hh=>hh,hg1,fun hh=>hh,fun hh=>hh,(fun hh=>sG hh)⟩);refine pH ?_;cases hC0;exact⟨[],by rfl,by rfl,by rfl⟩
attribute [irreducible] KK
def NB (O:(List UInt8)):Option Unit:=if List.length O≤9223372036854775807 then some (()) else none
section
variable (O:(List UInt8))
abbrev a0f:List oZ:=[(.val .str O,none)]
abbrev a0g:List oX:=[]
@[go_sem] def a0h:pD:=⟨[((NB O)).isSome=true],[(.val .bool (Lib.validD O),none)],[]⟩
def a9z:List oZ→List oX→Option pD:=qM (V:=(List UInt8)) (fun x=>a0f x) (fun x=>a0g) fun x=>a0h x
@[go_sem] theorem aLB:a9z (no_index (a0f O)) (no_index a0g)=some (a0h O):=qQ (fun a0 b0 h1 h2=>by cases h1;cases h2;rfl) O
end
@[go_sem] abbrev a9A:Nat×pY:=(198,⟨[.v],a9z,[],[],none⟩)
theorem a0i:qB Tryz.prog [] (pZ [a8L]):=⟨trivial,pK aGB qS,qD⟩
theorem aGN:qH Tryz.prog a9A:=by
 refine qR a0i Tryz.func198 (c:=_) rfl (N:=5) (by kernel_rfl) (ts:=[(2,none)]) rfl (fun _ _=>rfl) ?_;intro O hs hrow;dsimp only[a0f,a0g,a0h,qI,pG,pN,qE,qK,Nat.reduceAdd] at hs hrow⊢;have hz:=hs;obtain⟨z0,hC0⟩:=aMM.1 hz
 try rw[rG hC0]
 clear hz hs;unfold NB at hC0;refine oY a0i ?_;obtain⟨hg1,hC0⟩:=pJ hC0;refine oY a0i ?_ (hp:=by exact hg1);refine pH ?_;cases hC0;exact⟨[],by rfl,by rfl,by rfl⟩
attribute [irreducible] NB
end
noncomputable section
def KL (O:(List UInt8)) (Z:(List UInt8)):Option ((List UInt8)×Bool):=(KK O Z).bind fun aA=>if (!((decide ((Z.length:Int)≤(O.length:Int)))&&(decide ((pE O (0:Int) (Z.length:Int))=Z))))=true then some ((O,false)) else if 0≤(Z.length:Int)∧(Z.length:Int)≤(O.length:Int)∧(O.length:Int)≤(O.length:Int) then some (((pE O (Z.length:Int) (O.length:Int)),true)) else none
section
variable (O:(List UInt8)) (Z:(List UInt8))
abbrev a0j:List oZ:=[(.val .str O,none),(.val .str Z,none)]
abbrev a0k:List oX:=[]
@[go_sem] def a0l:pD:=⟨[((KL O Z)).isSome=true],[(.val .str ((val (KL O Z)).1),none),(.val .bool ((val (KL O Z)).2),none)],[]⟩
def a9B:List oZ→List oX→Option pD:=qM (V:=((List UInt8)×(List UInt8))) (fun x=>a0j x.1 x.2) (fun x=>a0k) fun x=>a0l x.1 x.2
@[go_sem] theorem aLC:a9B (no_index (a0j O Z)) (no_index a0k)=some (a0l O Z):=qQ (fun⟨a0,a1⟩ ⟨b0,b1⟩ h1 h2=>by cases h1;cases h2;rfl) (O,Z)
end
@[go_sem] abbrev a9C:Nat×pY:=(184,⟨[.v,.v],a9B,[],[],none⟩)
theorem NC:qB Tryz.prog [s7] (pZ [a0d]):=⟨⟨sB,trivial⟩,pK a9y qS,qD⟩
theorem aGO:qH Tryz.prog a9C:=by
 refine qR NC Tryz.func184 (c:=_) rfl (N:=15) (by kernel_rfl) (ts:=[(4,none),(5,none)]) rfl (fun _ _=>rfl) ?_;intro⟨O,Z⟩ hs hrow;dsimp only[a0j,a0k,a0l,qI,pG,pN,qE,qK,Nat.reduceAdd] at hs hrow⊢;have hz:=hs;obtain⟨z0,hC0⟩:=aMM.1 hz
 try rw[rG hC0]
 clear hz hs;unfold KL at hC0;refine oY NC ?_;refine pX ?_;obtain⟨aA,hv1,hw1,hC0⟩:=pV hC0
 try simp only[go_sem] at hw1
 refine oY NC ?_ (hp:=by exact(pU hv1)) (h:=by simp only[go_sem,hw1];rfl);refine pP hC0 (fun hC0 hc1=> ?_) (fun hC0 hc1=> ?_)
 ·refine oY NC ?_;refine pH (rI ?_);cases hC0;exact⟨[],by rfl,by rfl,by rfl⟩
 ·refine qJ (pM ?_);obtain⟨hg2,hC0⟩:=pJ hC0;refine oY NC ?_ (hp:=by exact hg2);refine pH ?_;cases hC0;exact⟨[],by rfl,by rfl,by rfl⟩
attribute [irreducible] KL
def ND (O:(List (List UInt8))) (Z:(List UInt8)):Int→Option (Int⊕(Unit⊕Int)):=fun aA=>if (decide (aA<(O.length:Int)))=true then if 0≤aA∧aA<(O.length:Int) then if (decide (Z=(qG .str O aA)))=true then some (.inr (.inr (aA))) else if p8 (aA+(1:Int)) then some (.inl (aA+(1:Int))) else none else none else some (.inr (.inl ()))
def BA (O:(List (List UInt8))) (Z:(List UInt8)):Option Int:=s5 (pR (ND O Z) (0:Int)) fun _=>some ((-1:Int))
section
variable (O:(List (List UInt8))) (Z:(List UInt8))
abbrev a0m:List oZ:=[(.val (.list .str) O,none),(.val .str Z,none)]
abbrev a0n:List oX:=[]
@[go_sem] def a0o:pD:=⟨[((BA O Z)).isSome=true],[(.val (.int .i64) (val (BA O Z)),none)],[]⟩
def a9D:List oZ→List oX→Option pD:=qM (V:=((List (List UInt8))×(List UInt8))) (fun x=>a0m x.1 x.2) (fun x=>a0n) fun x=>a0o x.1 x.2
@[go_sem] theorem aLD:a9D (no_index (a0m O Z)) (no_index a0n)=some (a0o O Z):=qQ (fun⟨a0,a1⟩ ⟨b0,b1⟩ h1 h2=>by cases h1;cases h2;rfl) (O,Z)
end
@[go_sem] abbrev S3:Nat×pY:=(193,⟨[.v,.v],a9D,[],[],none⟩)
theorem EZ:qB Tryz.prog [s7,zR] (pZ []):=⟨⟨sB,⟨B8,trivial⟩⟩,qS,qD⟩
theorem a9E:qH Tryz.prog S3:=by
 refine qR EZ Tryz.func193 (c:=_) rfl (N:=19) (by kernel_rfl) (ts:=[(4,none)]) rfl (fun _ _=>rfl) ?_;intro⟨O,Z⟩ hs hrow;dsimp only[a0m,a0n,a0o,qI,pG,pN,qE,qK,Nat.reduceAdd] at hs hrow⊢;have hz:=hs;obtain⟨z0,hC0⟩:=aMM.1 hz
 try rw[rG hC0]
 clear hz hs;unfold BA at hC0;refine oY EZ ?_;refine pX ?_;refine oY EZ ?_;refine rR ?_;obtain⟨y1,hy1,hC0⟩:=yW hC0;refine wN 0 (fun s=> ∃v,y1= .inl v∧s=(fun _=>⟨[],[],0,19,0⟩) v) ?_ ?_
 ·refine wM hy1 (fun x=>⟨[(0,(.val (.list .str) O,none)),(1,(.val .str Z,none)),(7,(.val (.int .i64) (O.length:Int),none)),(8,(.val (.int .i64) x,none))],[],0,19,0⟩) ⟨[0,1,7,8],[]⟩ (by rfl) ?_;intro aA w1 n1 hC1 hN1;unfold ND at hC1;dsimp only at hC1⊢;refine oY EZ ?_;refine pX ?_;refine pP hC1 (fun hC1 hc1=> ?_) (fun hC1 hc1=> ?_)
  ·refine qJ (pM (pX (rR ?_)));refine oY EZ ?_;obtain⟨hg1,hC1⟩:=pJ hC1;refine oY EZ ?_ (hp:=by exact hg1);refine pP hC1 (fun hC1 hc2=> ?_) (fun hC1 hc2=> ?_)
   ·refine oY EZ ?_;refine pH (rS (rI (yV (yU (rS (rI ?_))))));cases hC1;cases hN1;dsimp only at hC0;cases hC0;exact⟨[],by rfl,by rfl,by rfl⟩
   ·refine qJ (qV (pM ?_));obtain⟨hg2,hC1⟩:=pJ hC1;refine qY EZ ?_ (hp:=by exact hg2);cases hC1;exact tO ⟨⟨[0,1,7,8],[]⟩,_,by rfl,hN1⟩
  ·refine vW (wC (vY ?_));cases hC1;cases hN1;exact vX ⟨⟨[],[]⟩,_,rfl,by rfl⟩
 ·rintro _ ⟨v,rfl,rfl⟩;dsimp only at hC0⊢;refine wL (pM ?_);refine oY EZ ?_;refine pH ?_;cases hC0;exact⟨[],by rfl,by rfl,by rfl⟩
attribute [irreducible] BA
def KM (O:Int) (Z:(List UInt8)) (aA:Int):Int→Option (Int⊕(Unit⊕Int)):=fun aB=>if (decide (aB<(Z.length:Int)))=true then if 0≤aB∧aB<(Z.length:Int) then if (decide ((pI Z aB)=aA))=true then some (.inr (.inr (aB))) else if (((!decide (O=(4:Int)))==true)=true→0≤aB∧aB<(Z.length:Int)) then if ((!decide (O=(4:Int)))&&(decide ((pI Z aB)=(92:Int))))=true then if p8 (aB+(1:Int)) then if p8 ((aB+(1:Int))+(1:Int)) then some (.inl ((aB+(1:Int))+(1:Int))) else none else none else if p8 (aB+(1:Int)) then some (.inl (aB+(1:Int))) else none else none else none else some (.inr (.inl ()))
def KN (O:Int) (Z:(List UInt8)) (aA:Int):Option Int:=if (!((decide ((1:Int)≤O))&&(decide (O≤(4:Int)))))=true then some ((-1:Int)) else s5 (pR (KM O Z aA) (0:Int)) fun _=>some ((-1:Int))
attribute [irreducible] KN
def S4 (O:Int) (Z:(List UInt8)):Int→Option (Int⊕(Unit⊕Bool)):=fun aA=>if (decide (aA<(Z.length:Int)))=true then if 0≤aA∧aA<(Z.length:Int) then if (decide ((pI Z aA)=O))=true then some (.inr (.inr (true))) else if p8 (aA+(1:Int)) then some (.inl (aA+(1:Int))) else none else none else some (.inr (.inl ()))
def KO (O:Int) (Z:(List UInt8)):Option Bool:=s5 (pR (S4 O Z) (0:Int)) fun _=>some (false)
attribute [irreducible] KO
def CT (O:Int):Option (List UInt8):=if (decide (O<(128:Int)))=true then some ((sD ([(IntKind.wrap .u8 O)]:List Int))) else if (decide (O<(2048:Int)))=true then if p8 ((192:Int)+(IntKind.wrap .i64 (Int.tdiv O (64:Int)))) then if p8 ((128:Int)+(Int.tmod O (64:Int))) then some ((sD ([(IntKind.wrap .u8 ((192:Int)+(IntKind.wrap .i64 (Int.tdiv O (64:Int))))),(IntKind.wrap .u8 ((128:Int)+(Int.tmod O (64:Int))))]:List Int))) else none else none else if (decide (O<(65536:Int)))=true then if p8 ((224:Int)+(IntKind.wrap .i64 (Int.tdiv O (4096:Int)))) then if p8 ((128:Int)+(Int.tmod (IntKind.wrap .i64 (Int.tdiv O (64:Int))) (64:Int))) then if p8 ((128:Int)+(Int.tmod O (64:Int))) then some ((sD ([(IntKind.wrap .u8 ((224:Int)+(IntKind.wrap .i64 (Int.tdiv O (4096:Int))))),(IntKind.wrap .u8 ((128:Int)+(Int.tmod (IntKind.wrap .i64 (Int.tdiv O (64:Int))) (64:Int)))),(IntKind.wrap .u8 ((128:Int)+(Int.tmod O (64:Int))))]:List Int))) else none else none else none else if p8 ((240:Int)+(IntKind.wrap .i64 (Int.tdiv O (262144:Int)))) then if p8 ((128:Int)+(Int.tmod (IntKind.wrap .i64 (Int.tdiv O (4096:Int))) (64:Int))) then if p8 ((128:Int)+(Int.tmod (IntKind.wrap .i64 (Int.tdiv O (64:Int))) (64:Int))) then if p8 ((128:Int)+(Int.tmod O (64:Int))) then some ((sD ([(IntKind.wrap .u8 ((240:Int)+(IntKind.wrap .i64 (Int.tdiv O (262144:Int))))),(IntKind.wrap .u8 ((128:Int)+(Int.tmod (IntKind.wrap .i64 (Int.tdiv O (4096:Int))) (64:Int)))),(IntKind.wrap .u8 ((128:Int)+(Int.tmod (IntKind.wrap .i64 (Int.tdiv O (64:Int))) (64:Int)))),(IntKind.wrap .u8 ((128:Int)+(Int.tmod O (64:Int))))]:List Int))) else none else none else none else none
attribute [irreducible] CT
end
noncomputable section
def DO (O:(List UInt8)) (Z:Int):(Int×Int)→Option ((Int×Int)⊕(Int⊕(Int×Int))):=fun(aA,aB)=>if (decide (aB<Z))=true then if 0≤aB∧aB<(O.length:Int) then if (((decide ((pI O aB)<(128:Int)))==false)=true→0≤aB∧aB<(O.length:Int)) then if ((decide ((pI O aB)<(128:Int)))||(decide ((191:Int)<(pI O aB))))=true then some (.inr (.inr (((65533:Int),(1:Int))))) else if p8 ((64:Int)*aA) then if 0≤aB∧aB<(O.length:Int) then if p8 (((64:Int)*aA)+(IntKind.wrap .i64 (pI O aB))) then if p8 ((((64:Int)*aA)+(IntKind.wrap .i64 (pI O aB)))- (128:Int)) then if p8 (aB+(1:Int)) then some (.inl (((((64:Int)*aA)+(IntKind.wrap .i64 (pI O aB)))- (128:Int)),(aB+(1:Int)))) else none else none else none else none else none else none else none else some (.inr (.inl aA))
def S5 (O:(List UInt8)):Option (Int×Int):=if 0≤(0:Int)∧(0:Int)<(O.length:Int) then s5 (σ:=(Int×Int)) (if (decide ((IntKind.wrap .i64 (pI O (0:Int)))<(128:Int)))=true then some (.inr (((IntKind.wrap .i64 (pI O (0:Int))),(1:Int)))) else if ((decide ((192:Int)≤(IntKind.wrap .i64 (pI O (0:Int)))))&&(decide ((IntKind.wrap .i64 (pI O (0:Int)))<(224:Int))))=true then if p8 ((IntKind.wrap .i64 (pI O (0:Int)))- (192:Int)) then some (.inl (((IntKind.wrap .i64 (pI O (0:Int)))- (192:Int)),(2:Int))) else none else if ((decide ((224:Int)≤(IntKind.wrap .i64 (pI O (0:Int)))))&&(decide ((IntKind.wrap .i64 (pI O (0:Int)))<(240:Int))))=true then if p8 ((IntKind.wrap .i64 (pI O (0:Int)))- (224:Int)) then some (.inl (((IntKind.wrap .i64 (pI O (0:Int)))- (224:Int)),(3:Int))) else none else if ((decide ((240:Int)≤(IntKind.wrap .i64 (pI O (0:Int)))))&&(decide ((IntKind.wrap .i64 (pI O (0:Int)))<(248:Int))))=true then if p8 ((IntKind.wrap .i64 (pI O (0:Int)))- (240:Int)) then some (.inl (((IntKind.wrap .i64 (pI O (0:Int)))- (240:Int)),(4:Int))) else none else some (.inr (((65533:Int),(1:Int)))) ) fun(Z,aA)=>if (decide ((O.length:Int)<aA))=true then some (((65533:Int),(1:Int))) else s5 (pR (DO O aA) (Z,(1:Int))) fun aB=>if (((!(((decide ((0:Int)≤aB))&&(decide (aB≤(1114111:Int))))&&((decide (aB<(55296:Int)))||(decide ((57343:Int)<aB)))))==false)=true→((CT aB)).isSome=true) then if (((!(((decide ((0:Int)≤aB))&&(decide (aB≤(1114111:Int))))&&((decide (aB<(55296:Int)))||(decide ((57343:Int)<aB)))))==false)=true→0≤(0:Int)∧(0:Int)≤aA∧aA≤(O.length:Int)) then if ((!(((decide ((0:Int)≤aB))&&(decide (aB≤(1114111:Int))))&&((decide (aB<(55296:Int)))||(decide ((57343:Int)<aB)))))||(!decide ((val (CT aB))=(pE O (0:Int) aA))))=true then some (((65533:Int),(1:Int))) else some ((aB,aA)) else none else none else none
attribute [irreducible] S5
def IA (O:Int) (Z:Int):Bool:=if (decide (O=(1:Int)))=true then (decide (Z=(10:Int))) else qW (σ:=Bool) (if (decide (O=(2:Int)))=true then (decide (O=(2:Int))) else (decide (O=(3:Int))) ) fun aA=>if aA=true then ((decide (Z=(10:Int)))||(decide (Z=(34:Int)))) else ((decide (Z=(60:Int)))||(decide (Z=(34:Int))))
section
variable (O:Int) (Z:Int)
abbrev a0p:List oZ:=[(.val (.int .i64) O,none),(.val (.int .u8) Z,none)]
abbrev a0q:List oX:=[]
@[go_sem] def a0r:pD:=⟨[],[(.val .bool (IA O Z),none)],[]⟩
def a9F:List oZ→List oX→Option pD:=qM (V:=(Int×Int)) (fun x=>a0p x.1 x.2) (fun x=>a0q) fun x=>a0r x.1 x.2
@[go_sem] theorem aLE:a9F (no_index (a0p O Z)) (no_index a0q)=some (a0r O Z):=qQ (fun⟨a0,a1⟩ ⟨b0,b1⟩ h1 h2=>by cases h1;cases h2;rfl) (O,Z)
end
@[go_sem] abbrev a9G:Nat×pY:=(211,⟨[.v,.v],a9F,[],[],none⟩)
theorem F0:qB Tryz.prog [] (pZ []):=⟨trivial,qS,qD⟩
theorem aGP:qH Tryz.prog a9G:=by
 refine qR F0 Tryz.func211 (c:=_) rfl (N:=25) (by kernel_rfl) (ts:=[(4,none)]) rfl (fun _ _=>rfl) ?_;intro⟨O,Z⟩ hs hrow;dsimp only[a0p,a0q,a0r,qI,pG,pN,qE,qK,Nat.reduceAdd] at hs hrow⊢;obtain⟨z0,hC0⟩: ∃z,(IA O Z)=z:=⟨_,rfl⟩
 try rw[hC0]
 unfold IA at hC0;refine oY F0 ?_;refine pX ?_;refine oY F0 ?_;refine rR ?_;refine oY F0 ?_;refine pP hC0 (fun hC0 hc1=> ?_) (fun hC0 hc1=> ?_)
 ·refine oY F0 ?_;refine pH (rS (rI ?_));cases hC0;exact⟨[],by rfl,by rfl,by rfl⟩
 ·refine pX ?_;refine oY F0 ?_;obtain⟨aA,hC1,hC0⟩:=vE hC0;refine I1 (fun s=>s=(fun x=>⟨[(1,(.val (.int .u8) Z,none)),(10,(.val .bool x,none))],[],0,25,0⟩) aA) ?_ ?_
  ·refine pP hC1 (fun hC1 hc2=> ?_) (fun hC1 hc2=> ?_)
   ·refine qJ ?_;cases hC1;exact AG ⟨⟨[1,10],[]⟩,by rfl⟩
   ·refine qY F0 ?_;cases hC1;exact AG ⟨⟨[1,10],[]⟩,by rfl⟩
  ·rintro _ rfl;dsimp only at hC0⊢;refine pM ?_;refine pP hC0 (fun hC0 hc3=> ?_) (fun hC0 hc3=> ?_)
   ·refine oY F0 ?_ (hp:=by exact⟨fun hh=>hh,(fun hh=>xX hh)⟩);refine pH (rS (rI ?_));cases hC0;exact⟨[],by rfl,by rfl,by rfl⟩
   ·refine qJ (qV (pM ?_));refine oY F0 ?_ (hp:=by exact⟨fun hh=>hh,(fun hh=>xX hh)⟩);refine pH ?_;cases hC0;exact⟨[],by rfl,by rfl,by rfl⟩
def IB (O:((List Int)×Unit)) (Z:Int):Option Unit:=if (O.1.length+([Z]:List Int).length)*1≤140737488355328 then some (()) else none
section
variable (O:Int) (Z:((List Int)×Unit)) (aA:Nat)
abbrev a0s:List oZ:=[(.val .ref (some (0,0)),none),(.val (.int .u8) O,none)]
abbrev a0t:List oX:=[.cells wO ((some (0,0)),Z) [(1,1)],.grow 5 1 aA]
@[go_sem] def a0u:pD:=⟨[aA=(Z.1.length),((IB Z O)).isSome=true],[(.any,none)],[.cells wO ((some (0,0)),((Z.1++([O]:List Int)),())) [(1,1)],.grow 5 1 ((Z.1++([O]:List Int)).length)]⟩
def a9H:List oZ→List oX→Option pD:=qM (V:=(Int×((List Int)×Unit)×Nat)) (fun x=>a0s x.1) (fun x=>a0t x.2.1 x.2.2) fun x=>a0u x.1 x.2.1 x.2.2
@[go_sem] theorem aLF:a9H (no_index (a0s O)) (no_index (a0t Z aA))=some (a0u O Z aA):=qQ (fun⟨a0,a1,a2⟩ ⟨b0,b1,b2⟩ h1 h2=>by cases h1;cases h2;rfl) (O,Z,aA)
end
@[go_sem] abbrev a9I:Nat×pY:=(212,⟨[.p wO [1],.v],a9H,[],[],none⟩)
theorem NE:qB Tryz.prog [ET,G9] (pZ [RQ]):=⟨⟨I6,⟨K9,trivial⟩⟩,pK XX qS,qD⟩
theorem aGQ:qH Tryz.prog a9I:=by
 refine qR NE Tryz.func212 (c:=_) rfl (N:=17) (by kernel_rfl) (ts:=[(4,none)]) rfl (fun _ _=>rfl) ?_;intro⟨O,Z,aA⟩ hs hrow;dsimp only[a0s,a0t,a0u,qI,pG,pN,qE,qK,Nat.reduceAdd] at hs hrow⊢;obtain⟨rfl,hz⟩:=hs;obtain⟨z0,hC0⟩:=aMM.1 hz
 try rw[rG hC0]
 clear hz;unfold IB at hC0;refine oY NE ?_;refine oY NE ?_ (hp:=by first|rfl|trivial)
 obtain⟨hg1,hC0⟩:=pJ hC0;refine oY NE ?_ (hp:=by exact⟨by first|rfl|trivial,hg1⟩)
 refine oY NE ?_;refine pH ?_;cases hC0;exact⟨[(0,0),(1,1)],by rfl,by rfl,by rfl⟩
attribute [irreducible] IB
def a9J (O:pL) (Z:(List UInt8)):Unit:=()
section
variable (O:pL) (Z:(List UInt8))
abbrev a0v:List oZ:=[(.val (.pair .str (.pair .str .unit)) O,none),(.val .ref (some (0,0)),none)]
abbrev a0w:List oX:=[.cells .str Z []]
@[go_sem] def a0x:pD:=⟨[],[(.val .bool (!(Op.bytesLess O.1 Z||decide (O.1=Z))),none)],[.cells .str Z []]⟩
def a9K:List oZ→List oX→Option pD:=qM (V:=(pL×(List UInt8))) (fun x=>a0v x.1) (fun x=>a0w x.2) fun x=>a0x x.1 x.2
@[go_sem] theorem aLG:a9K (no_index (a0v O)) (no_index (a0w Z))=some (a0x O Z):=qQ (fun⟨a0,a1⟩ ⟨b0,b1⟩ h1 h2=>by cases h1;cases h2;rfl) (O,Z)
end
@[go_sem] abbrev a9L:Nat×pY:=(239,⟨[.v,.p .str []],a9K,[],[0],none⟩)
theorem a0y:qB Tryz.prog [s7,EV] (pZ []):=⟨⟨sB,⟨I7,trivial⟩⟩,qS,qD⟩
theorem aGR:qH Tryz.prog a9L:=by
 refine qR a0y Tryz.func239 (c:=_) rfl (N:=8) (by kernel_rfl) (ts:=[(3,none)]) rfl (fun _ _=>rfl) ?_;intro⟨O,Z⟩ hs hrow;dsimp only[a0v,a0w,a0x,qI,pG,pN,qE,qK,Nat.reduceAdd] at hs hrow⊢;obtain⟨z0,hC0⟩: ∃z,(a9J O Z)=z:=⟨_,rfl⟩
 try rw[hC0]
 unfold a9J at hC0;refine oY a0y ?_;refine oY a0y ?_;refine pH ?_;cases hC0;exact⟨[(0,0)],by rfl,by rfl,by rfl⟩
def KP (O:(List UInt8)) (Z:Int):(Int×Int)→Option ((Int×Int)⊕(Int⊕(Int×Bool))):=fun(aA,aB)=>if (decide (aB<(O.length:Int)))=true then if 0≤aB∧aB<(O.length:Int) then if 0≤aB∧aB<(O.length:Int) then if (((decide ((65:Int)≤(pI O aB)))==true)=true→0≤aB∧aB<(O.length:Int)) then rE (σ:=Int) (if ((decide ((65:Int)≤(pI O aB)))&&(decide ((pI O aB)≤(70:Int))))=true then if 0≤aB∧aB<(O.length:Int) then if p8 ((IntKind.wrap .i64 (IntKind.wrap .u8 ((pI O aB)- (65:Int))))+(10:Int)) then some (((IntKind.wrap .i64 (IntKind.wrap .u8 ((pI O aB)- (65:Int))))+(10:Int))) else none else none else some ((tH ([48,49,50,51,52,53,54,55,56,57,97,98,99,100,101,102]:List UInt8) (pI O aB))) ) fun aC=>if ((decide (aC<(0:Int)))||(decide (Z≤aC)))=true then some (.inr (.inr (((0:Int),false)))) else if p8 (aA*Z) then if p8 ((aA*Z)+aC) then if p8 (aB+(1:Int)) then some (.inl (((aA*Z)+aC),(aB+(1:Int)))) else none else none else none else none else none else none else some (.inr (.inl aA))
def DP (O:(List UInt8)) (Z:Int):Option (Int×Bool):=s5 (pR (KP O Z) ((0:Int),(0:Int))) fun aA=>some ((aA,(!decide (O=([]:List UInt8)))))
section
variable (O:(List UInt8)) (Z:Int)
abbrev a0z:List oZ:=[(.val .str O,none),(.val (.int .i64) Z,none)]
abbrev a0A:List oX:=[]
@[go_sem] def a0B:pD:=⟨[((DP O Z)).isSome=true],[(.val (.int .i64) ((val (DP O Z)).1),none),(.val .bool ((val (DP O Z)).2),none)],[]⟩
def a9M:List oZ→List oX→Option pD:=qM (V:=((List UInt8)×Int)) (fun x=>a0z x.1 x.2) (fun x=>a0A) fun x=>a0B x.1 x.2
@[go_sem] theorem aLH:a9M (no_index (a0z O Z)) (no_index a0A)=some (a0B O Z):=qQ (fun⟨a0,a1⟩ ⟨b0,b1⟩ h1 h2=>by cases h1;cases h2;rfl) (O,Z)
end
@[go_sem] abbrev a0C:Nat×pY:=(251,⟨[.v,.v],a9M,[],[],none⟩)
theorem AM:qB Tryz.prog [v6,GA,s7] (pZ [N7]):=⟨⟨vM,⟨KA,⟨sB,trivial⟩⟩⟩,pK RP qS,qD⟩
theorem a9N:qH Tryz.prog a0C:=by
 refine qR AM Tryz.func251 (c:=_) rfl (N:=50) (by kernel_rfl) (ts:=[(4,none),(5,none)]) rfl (fun _ _=>rfl) ?_;intro⟨O,Z⟩ hs hrow;dsimp only[a0z,a0A,a0B,qI,pG,pN,qE,qK,Nat.reduceAdd] at hs hrow⊢;have hz:=hs;obtain⟨z0,hC0⟩:=aMM.1 hz
 try rw[rG hC0]
 clear hz hs;unfold DP at hC0;refine oY AM ?_;refine oY AM ?_;refine pX ?_;refine oY AM ?_;refine rR ?_;obtain⟨y1,hy1,hC0⟩:=yW hC0;refine wN 0 (fun s=> ∃v,y1= .inl v∧s=(fun x=>⟨[(0,(.val .str O,none)),(6,(.val (.int .i64) x,none))],[],0,50,0⟩) v) ?_ ?_
 ·refine wM hy1 (fun x=>⟨[(0,(.val .str O,none)),(1,(.val (.int .i64) Z,none)),(6,(.val (.int .i64) x.1,none)),(10,(.val (.int .i64) (O.length:Int),none)),(11,(.val (.int .i64) x.2,none))],[],0,50,0⟩) ⟨[0,1,6,10,11],[]⟩ (by rfl) ?_;intro x1 w1 n1 hC1 hN1;obtain⟨aA,aB⟩:=x1;unfold KP at hC1;dsimp only at hC1⊢;refine oY AM ?_;refine pX ?_;refine pP hC1 (fun hC1 hc1=> ?_) (fun hC1 hc1=> ?_)
  ·refine qJ (pM (pX (rR ?_)));refine oY AM ?_;obtain⟨hg1,hC1⟩:=pJ hC1;refine oY AM ?_ (hp:=by exact hg1);refine pX ?_;obtain⟨hg2,hC1⟩:=pJ hC1;obtain⟨hg3,hC1⟩:=pJ hC1;refine oY AM ?_ (hp:=by exact⟨hg2,fun hh=>hh,fun hh=>hh,hg3,fun hh=>hh,(fun hh=>sG hh)⟩);obtain⟨aC,hC2,hC1⟩:=pA hC1;refine I1 (fun s=>s=(fun x=>⟨[(0,(.val .str O,none)),(1,(.val (.int .i64) Z,none)),(6,(.val (.int .i64) aA,none)),(8,(.val (.int .i64) x,none)),(10,(.val (.int .i64) (O.length:Int),none)),(11,(.val (.int .i64) aB,none))],[],0,50,0⟩) aC) ?_ ?_
   ·refine pP hC2 (fun hC2 hc2=> ?_) (fun hC2 hc2=> ?_)
    ·obtain⟨hg4,hC2⟩:=pJ hC2;obtain⟨hg5,hC2⟩:=pJ hC2;refine qY AM ?_ (hp:=by exact⟨hg4,hg5⟩);cases hC2;exact AG ⟨⟨[0,1,6,8,10,11],[]⟩,by rfl⟩
    ·refine qJ ?_;cases hC2;exact AG ⟨⟨[0,1,6,8,10,11],[]⟩,by rfl⟩
   ·rintro _ rfl;dsimp only at hC1⊢;refine pM (pX ?_);refine oY AM ?_ (hp:=by exact⟨fun hh=>hh,fun hh=>hh,(fun hh=>xX hh)⟩);refine pP hC1 (fun hC1 hc3=> ?_) (fun hC1 hc3=> ?_)
    ·refine oY AM ?_;refine pH (rI (rS (rI (yV (yU (rS (rI ?_)))))));cases hC1;cases hN1;dsimp only at hC0;cases hC0;exact⟨[],by rfl,by rfl,by rfl⟩
    ·refine qJ (pM ?_);obtain⟨hg6,hC1⟩:=pJ hC1;obtain⟨hg7,hC1⟩:=pJ hC1;refine qY AM ?_ (hp:=by exact⟨hg6,hg7⟩);refine qV (pM ?_);obtain⟨hg8,hC1⟩:=pJ hC1;refine qY AM ?_ (hp:=by exact hg8);cases hC1;exact tO ⟨⟨[0,1,6,10,11],[]⟩,_,by rfl,hN1⟩
  ·refine vW (wC (vY ?_));cases hC1;cases hN1;exact vX ⟨⟨[0,6],[]⟩,_,rfl,by rfl⟩
 ·rintro _ ⟨aD,rfl,rfl⟩;dsimp only at hC0⊢;refine wL (pM ?_);refine oY AM ?_;refine pH ?_;cases hC0;exact⟨[],by rfl,by rfl,by rfl⟩
attribute [irreducible] DP
end
noncomputable section
def S6 (O:(List (List UInt8))) (Z:(List UInt8)):Int→Option (Int⊕(Unit⊕Bool)):=fun aA=>if (decide (aA<(O.length:Int)))=true then if 0≤aA∧aA<(O.length:Int) then if (decide ((qG .str O aA)=Z))=true then some (.inr (.inr (true))) else if p8 (aA+(1:Int)) then some (.inl (aA+(1:Int))) else none else none else some (.inr (.inl ()))
def S7 (O:(List (List UInt8))) (Z:(List UInt8)):Option Bool:=s5 (pR (S6 O Z) (0:Int)) fun _=>some (false)
attribute [irreducible] S7
def a9O (O:pL) (Z:(List UInt8)):Unit:=()
section
variable (O:pL) (Z:(List UInt8))
abbrev a0D:List oZ:=[(.val (.pair .str (.pair .str .unit)) O,none),(.val .ref (some (0,0)),none)]
abbrev a0E:List oX:=[.cells .str Z []]
@[go_sem] def a0F:pD:=⟨[],[(.val .bool (decide (O.1=Z)),none)],[.cells .str Z []]⟩
def a9P:List oZ→List oX→Option pD:=qM (V:=(pL×(List UInt8))) (fun x=>a0D x.1) (fun x=>a0E x.2) fun x=>a0F x.1 x.2
@[go_sem] theorem aLI:a9P (no_index (a0D O)) (no_index (a0E Z))=some (a0F O Z):=qQ (fun⟨a0,a1⟩ ⟨b0,b1⟩ h1 h2=>by cases h1;cases h2;rfl) (O,Z)
end
@[go_sem] abbrev a9Q:Nat×pY:=(267,⟨[.v,.p .str []],a9P,[],[0],none⟩)
theorem a0G:qB Tryz.prog [s7,EV] (pZ []):=⟨⟨sB,⟨I7,trivial⟩⟩,qS,qD⟩
theorem aGS:qH Tryz.prog a9Q:=by
 refine qR a0G Tryz.func267 (c:=_) rfl (N:=8) (by kernel_rfl) (ts:=[(3,none)]) rfl (fun _ _=>rfl) ?_;intro⟨O,Z⟩ hs hrow;dsimp only[a0D,a0E,a0F,qI,pG,pN,qE,qK,Nat.reduceAdd] at hs hrow⊢;obtain⟨z0,hC0⟩: ∃z,(a9O O Z)=z:=⟨_,rfl⟩
 try rw[hC0]
 unfold a9O at hC0;refine oY a0G ?_;refine oY a0G ?_;refine pH ?_;cases hC0;exact⟨[(0,0)],by rfl,by rfl,by rfl⟩
def a9R (O:(List UInt8)):Unit:=()
section
variable (O:(List UInt8))
abbrev a0H:List oZ:=[(.val .str O,none)]
abbrev a0I:List oX:=[]
@[go_sem] def a0J:pD:=⟨[],[(.val .bool true,none)],[]⟩
def a9S:List oZ→List oX→Option pD:=qM (V:=(List UInt8)) (fun x=>a0H x) (fun x=>a0I) fun x=>a0J
@[go_sem] theorem aLJ:a9S (no_index (a0H O)) (no_index a0I)=some a0J:=qQ (fun a0 b0 h1 h2=>by cases h1;cases h2;rfl) O
end
@[go_sem] abbrev a9T:Nat×pY:=(278,⟨[.v],a9S,[],[],none⟩)
theorem a0K:qB Tryz.prog [] (pZ []):=⟨trivial,qS,qD⟩
theorem aGT:qH Tryz.prog a9T:=by
 refine qR a0K Tryz.func278 (c:=_) rfl (N:=3) (by kernel_rfl) (ts:=[(2,none)]) rfl (fun _ _=>rfl) ?_;intro O hs hrow;dsimp only[a0H,a0I,a0J,qI,pG,pN,qE,qK,Nat.reduceAdd] at hs hrow⊢;obtain⟨z0,hC0⟩: ∃z,(a9R O)=z:=⟨_,rfl⟩
 try rw[hC0]
 unfold a9R at hC0;refine oY a0K ?_;refine oY a0K ?_;refine pH ?_;cases hC0;exact⟨[],by rfl,by rfl,by rfl⟩
def S8 (O:Int) (Z:Int):Option Int:=rE (σ:=Int) (if ((decide ((48:Int)≤O))&&(decide (O≤(57:Int))))=true then some ((IntKind.wrap .i64 (IntKind.wrap .u8 (O- (48:Int))))) else if ((decide ((97:Int)≤O))&&(decide (O≤(102:Int))))=true then if p8 ((IntKind.wrap .i64 (IntKind.wrap .u8 (O- (97:Int))))+(10:Int)) then some (((IntKind.wrap .i64 (IntKind.wrap .u8 (O- (97:Int))))+(10:Int))) else none else if ((decide ((65:Int)≤O))&&(decide (O≤(70:Int))))=true then if p8 ((IntKind.wrap .i64 (IntKind.wrap .u8 (O- (65:Int))))+(10:Int)) then some (((IntKind.wrap .i64 (IntKind.wrap .u8 (O- (65:Int))))+(10:Int))) else none else some ((-1:Int)) ) fun aA=>if (decide (Z≤aA))=true then some ((-1:Int)) else some (aA)
attribute [irreducible] S8
def a9U (O:Int):Unit:=()
section
variable (O:Int)
abbrev a0L:List oZ:=[(.val (.int .i64) O,none)]
abbrev a0M:List oX:=[]
@[go_sem] def a0N:pD:=⟨[],[(.val .bool (((decide ((0:Int)≤O))&&(decide (O≤(1114111:Int))))&&((decide (O<(55296:Int)))||(decide ((57343:Int)<O)))),none)],[]⟩
def a9V:List oZ→List oX→Option pD:=qM (V:=Int) (fun x=>a0L x) (fun x=>a0M) fun x=>a0N x
@[go_sem] theorem aLK:a9V (no_index (a0L O)) (no_index a0M)=some (a0N O):=qQ (fun a0 b0 h1 h2=>by cases h1;cases h2;rfl) O
end
@[go_sem] abbrev a9W:Nat×pY:=(289,⟨[.v],a9V,[],[],none⟩)
theorem a0O:qB Tryz.prog [] (pZ []):=⟨trivial,qS,qD⟩
theorem aGU:qH Tryz.prog a9W:=by
 refine qR a0O Tryz.func289 (c:=_) rfl (N:=17) (by kernel_rfl) (ts:=[(2,none)]) rfl (fun _ _=>rfl) ?_;intro O hs hrow;dsimp only[a0L,a0M,a0N,qI,pG,pN,qE,qK,Nat.reduceAdd] at hs hrow⊢;obtain⟨z0,hC0⟩: ∃z,(a9U O)=z:=⟨_,rfl⟩
 try rw[hC0]
 unfold a9U at hC0;refine oY a0O ?_;refine oY a0O ?_ (hp:=by exact⟨fun hh=>hh,fun hh=>sG hh,fun hh=>hh,fun hh=>hh,fun hh=>hh,fun hh=>hh,fun hG hh=>G5 hG hh,(fun hh=>sG hh)⟩);refine pH ?_;cases hC0;exact⟨[],by rfl,by rfl,by rfl⟩
def IC (O:(List Int)) (Z:Int):Option (List Int):=if (decide ((IntKind.wrap .u32 Z)≤(2047:Int)))=true then if (O.length+([(bits .or .u8 (192:Int) (IntKind.wrap .u8 (w6 .i32 Z (6:Int)))),(bits .or .u8 (128:Int) (bits .and .u8 (IntKind.wrap .u8 Z) (63:Int)))]:List Int).length)*1≤140737488355328 then some ((O++([(bits .or .u8 (192:Int) (IntKind.wrap .u8 (w6 .i32 Z (6:Int)))),(bits .or .u8 (128:Int) (bits .and .u8 (IntKind.wrap .u8 Z) (63:Int)))]:List Int))) else none else rE (σ:=Bool) (if (decide ((IntKind.wrap .u32 Z)<(55296:Int)))=true then some ((decide ((IntKind.wrap .u32 Z)<(55296:Int)))) else some (((decide ((57343:Int)<(IntKind.wrap .u32 Z)))&&(decide ((IntKind.wrap .u32 Z)≤(65535:Int))))) ) fun aA=>if aA=true then if (O.length+([(bits .or .u8 (224:Int) (IntKind.wrap .u8 (w6 .i32 Z (12:Int)))),(bits .or .u8 (128:Int) (bits .and .u8 (IntKind.wrap .u8 (w6 .i32 Z (6:Int))) (63:Int))),(bits .or .u8 (128:Int) (bits .and .u8 (IntKind.wrap .u8 Z) (63:Int)))]:List Int).length)*1≤140737488355328 then some ((O++([(bits .or .u8 (224:Int) (IntKind.wrap .u8 (w6 .i32 Z (12:Int)))),(bits .or .u8 (128:Int) (bits .and .u8 (IntKind.wrap .u8 (w6 .i32 Z (6:Int))) (63:Int))),(bits .or .u8 (128:Int) (bits .and .u8 (IntKind.wrap .u8 Z) (63:Int)))]:List Int))) else none else if ((decide ((65535:Int)<(IntKind.wrap .u32 Z)))&&(decide ((IntKind.wrap .u32 Z)≤(1114111:Int))))=true then if (O.length+([(bits .or .u8 (240:Int) (IntKind.wrap .u8 (w6 .i32 Z (18:Int)))),(bits .or .u8 (128:Int) (bits .and .u8 (IntKind.wrap .u8 (w6 .i32 Z (12:Int))) (63:Int))),(bits .or .u8 (128:Int) (bits .and .u8 (IntKind.wrap .u8 (w6 .i32 Z (6:Int))) (63:Int))),(bits .or .u8 (128:Int) (bits .and .u8 (IntKind.wrap .u8 Z) (63:Int)))]:List Int).length)*1≤140737488355328 then some ((O++([(bits .or .u8 (240:Int) (IntKind.wrap .u8 (w6 .i32 Z (18:Int)))),(bits .or .u8 (128:Int) (bits .and .u8 (IntKind.wrap .u8 (w6 .i32 Z (12:Int))) (63:Int))),(bits .or .u8 (128:Int) (bits .and .u8 (IntKind.wrap .u8 (w6 .i32 Z (6:Int))) (63:Int))),(bits .or .u8 (128:Int) (bits .and .u8 (IntKind.wrap .u8 Z) (63:Int)))]:List Int))) else none else if (O.length+([(239:Int),(191:Int),(189:Int)]:List Int).length)*1≤140737488355328 then some ((O++([(239:Int),(191:Int),(189:Int)]:List Int))) else none
section
variable (O:(List Int)) (Z:Int) (aA:Nat)
abbrev a0P:List oZ:=[(.val (.list (.int .u8)) O,some 0),(.val (.int .i32) Z,none)]
abbrev a0Q:List oX:=[.grow 5 1 aA]
@[go_sem] def a0R:pD:=⟨[aA=(O.length),((IC O Z)).isSome=true],[(.val (.list (.int .u8)) (val (IC O Z)),some 0)],[.grow 5 1 ((val (IC O Z)).length)]⟩
def a9X:List oZ→List oX→Option pD:=qM (V:=((List Int)×Int×Nat)) (fun x=>a0P x.1 x.2.1) (fun x=>a0Q x.2.2) fun x=>a0R x.1 x.2.1 x.2.2
@[go_sem] theorem aLL:a9X (no_index (a0P O Z)) (no_index (a0Q aA))=some (a0R O Z aA):=qQ (fun⟨a0,a1,a2⟩ ⟨b0,b1,b2⟩ h1 h2=>by cases h1;cases h2;rfl) (O,Z,aA)
end
@[go_sem] abbrev a9Y:Nat×pY:=(300,⟨[.own,.v],a9X,[],[],none⟩)
theorem CU:qB Tryz.prog [GA,KB,ET,RL] (pZ []):=⟨⟨KA,⟨RG,⟨I6,⟨a8J,trivial⟩⟩⟩⟩,qS,qD⟩
theorem aGV:qH Tryz.prog a9Y:=by
 refine qR CU Tryz.func300 (c:=_) rfl (N:=78) (by kernel_rfl) (ts:=[(4,none)]) rfl (fun _ _=>rfl) ?_;intro⟨O,Z,aA⟩ hs hrow;dsimp only[a0P,a0Q,a0R,qI,pG,pN,qE,qK,Nat.reduceAdd] at hs hrow⊢;obtain⟨rfl,hz⟩:=hs;obtain⟨z0,hC0⟩:=aMM.1 hz
 try rw[rG hC0]
 clear hz;unfold IC at hC0;refine oY CU ?_;refine oY CU ?_;refine rR ?_;refine oY CU ?_;refine pP hC0 (fun hC0 hc1=> ?_) (fun hC0 hc1=> ?_)
 ·obtain⟨hg1,hC0⟩:=pJ hC0;refine oY CU ?_ (hp:=by exact⟨show (0:Int)≤(6:Int) from by decide,by first|rfl|trivial,hg1⟩)
  refine pH (rS ?_);cases hC0;exact⟨[(0,0)],by rfl,by rfl,by rfl⟩
 ·refine pX ?_;refine oY CU ?_;obtain⟨aB,hC1,hC0⟩:=pA hC0;refine I1 (fun s=>s=(fun x=>⟨[(0,(.val (.list (.int .u8)) O,some 0)),(1,(.val (.int .i32) Z,none)),(5,(.val (.int .u32) (IntKind.wrap .u32 Z),none)),(25,(.val .bool x,none))],[(0,.grow 5 1 (O.length))],1,78,1⟩) aB) ?_ ?_
  ·refine pP hC1 (fun hC1 hc2=> ?_) (fun hC1 hc2=> ?_)
   ·refine qJ ?_;cases hC1;exact AG ⟨⟨[0,1,5,25],[(0,0)]⟩,by rfl⟩
   ·refine qY CU ?_ (hp:=by exact⟨fun hh=>hh,(fun hh=>sG hh)⟩);cases hC1;exact AG ⟨⟨[0,1,5,25],[(0,0)]⟩,by rfl⟩
  ·rintro _ rfl;dsimp only at hC0⊢;refine pM ?_;refine pP hC0 (fun hC0 hc3=> ?_) (fun hC0 hc3=> ?_)
   ·obtain⟨hg2,hC0⟩:=pJ hC0;refine oY CU ?_ (hp:=by exact⟨show (0:Int)≤(12:Int) from by decide,show (0:Int)≤(6:Int) from by decide,by first|rfl|trivial,hg2⟩)
    refine pH (rS ?_);cases hC0;exact⟨[(0,0)],by rfl,by rfl,by rfl⟩
   ·refine oY CU ?_ (hp:=by exact⟨fun hh=>hh,(fun hh=>sG hh)⟩);refine pP hC0 (fun hC0 hc4=> ?_) (fun hC0 hc4=> ?_)
    ·obtain⟨hg3,hC0⟩:=pJ hC0;refine oY CU ?_ (hp:=by exact⟨show (0:Int)≤(18:Int) from by decide,show (0:Int)≤(12:Int) from by decide,show (0:Int)≤(6:Int) from by decide,by first|rfl|trivial,hg3⟩)
     refine pH (rS ?_);cases hC0;exact⟨[(0,0)],by rfl,by rfl,by rfl⟩
    ·obtain⟨hg4,hC0⟩:=pJ hC0;refine oY CU ?_ (hp:=by exact⟨by first|rfl|trivial,hg4⟩)
     refine pH (rS ?_);cases hC0;exact⟨[(0,0)],by rfl,by rfl,by rfl⟩
attribute [irreducible] IC
def GE (O:(List pL)):Option (List pL):=if (0+O.length)*32≤140737488355328 then some ((([]:List pL)++O)) else none
section
variable (O:(List pL))
abbrev a0S:List oZ:=[(.val (.list (.pair .str (.pair .str .unit))) O,none)]
abbrev a0T:List oX:=[]
@[go_sem] def a0U:pD:=⟨[((GE O)).isSome=true],[(.own 0 ((val (GE O)).length),none)],[.row 149 (.pair .str (.pair .str .unit)) (val (GE O)) ((val (GE O)).length)]⟩
def a9Z:List oZ→List oX→Option pD:=qM (V:=(List pL)) (fun x=>a0S x) (fun x=>a0T) fun x=>a0U x
@[go_sem] theorem aLM:a9Z (no_index (a0S O)) (no_index a0T)=some (a0U O):=qQ (fun a0 b0 h1 h2=>by cases h1;cases h2;rfl) O
end
@[go_sem] abbrev a90:Nat×pY:=(236,⟨[.v],a9Z,[],[],none⟩)
theorem NF:qB Tryz.prog [RI] (pZ []):=⟨⟨a8G,trivial⟩,qS,qD⟩
theorem aGW:qH Tryz.prog a90:=by
 refine qR NF Tryz.func236 (c:=_) rfl (N:=8) (by kernel_rfl) (ts:=[(2,none)]) rfl (fun _ _=>rfl) ?_;intro O hs hrow;dsimp only[a0S,a0T,a0U,qI,pG,pN,qE,qK,Nat.reduceAdd] at hs hrow⊢;have hz:=hs;obtain⟨z0,hC0⟩:=aMM.1 hz
 try rw[rG hC0]
 clear hz hs;unfold GE at hC0;refine oY NF ?_;refine pX ?_;refine oY NF ?_;refine a76 (by simp only[go_sem];rfl) (fun hnil=> ?_) (fun hnil=> ?_)
 ·subst hnil;obtain⟨_,hC0⟩:=pJ hC0;refine oY NF ?_;refine pH (rI ?_);cases hC0;exact⟨[(0,96)],by rfl,by rfl,by rfl⟩
 ·refine qJ (pM ?_);obtain⟨hg1,hC0⟩:=pJ hC0;refine oY NF ?_ (hp:=by exact⟨by first|rfl|trivial,hg1⟩)
  refine pH ?_;cases hC0;exact⟨[(0,96)],by rfl,by rfl,by rfl⟩
attribute [irreducible] GE
end
noncomputable section
def NH (O:(List pL)) (Z:(List UInt8)):Int→Option (Int⊕(Unit⊕Int)):=fun aA=>if (decide (aA<(O.length:Int)))=true then if 0≤aA∧aA<(O.length:Int) then if (decide (((qG (.pair .str (.pair .str .unit)) O aA).1)=Z))=true then some (.inr (.inr (aA))) else if p8 (aA+(1:Int)) then some (.inl (aA+(1:Int))) else none else none else some (.inr (.inl ()))
def KQ (O:(List pL)) (Z:(List UInt8)):Option Int:=s5 (pR (NH O Z) (0:Int)) fun _=>some ((-1:Int))
section
variable (O:(List pL)) (Z:(List UInt8))
abbrev a0V:List oZ:=[(.val (.list (.pair .str (.pair .str .unit))) O,none),(.val .clo (some (267,[(0,0)])),none)]
abbrev a0W:List oX:=[.cells .str Z []]
@[go_sem] def a0X:pD:=⟨[((KQ O Z)).isSome=true],[(.val (.int .i64) (val (KQ O Z)),none)],[.cells .str Z []]⟩
def a91:List oZ→List oX→Option pD:=qM (V:=((List pL)×(List UInt8))) (fun x=>a0V x.1) (fun x=>a0W x.2) fun x=>a0X x.1 x.2
@[go_sem] theorem aLN:a91 (no_index (a0V O)) (no_index (a0W Z))=some (a0X O Z):=qQ (fun⟨a0,a1⟩ ⟨b0,b1⟩ h1 h2=>by cases h1;cases h2;rfl) (O,Z)
end
@[go_sem] abbrev a92:Nat×pY:=(238,⟨[.v,.f [(.str,[])]],a91,[],[0],none⟩)
theorem F1:qB Tryz.prog [CP,EV] (pZ [a9Q]):=⟨⟨EU,⟨I7,trivial⟩⟩,pK aGS qS,qD⟩
theorem aGX:qH Tryz.prog a92:=by
 refine qR F1 Tryz.func238 (c:=_) rfl (N:=19) (by kernel_rfl) (ts:=[(4,none)]) rfl (fun _ _=>rfl) ?_;intro⟨O,Z⟩ hs hrow;dsimp only[a0V,a0W,a0X,qI,pG,pN,qE,qK,Nat.reduceAdd] at hs hrow⊢;have hz:=hs;obtain⟨z0,hC0⟩:=aMM.1 hz
 try rw[rG hC0]
 clear hz hs;unfold KQ at hC0;refine oY F1 ?_;refine pX ?_;refine oY F1 ?_;refine rR ?_;obtain⟨y1,hy1,hC0⟩:=yW hC0;refine wN 0 (fun s=> ∃v,y1= .inl v∧s=(fun _=>⟨[],[(0,.cells .str Z [])],1,19,1⟩) v) ?_ ?_
 ·refine wM hy1 (fun x=>⟨[(0,(.val (.list (.pair .str (.pair .str .unit))) O,none)),(1,(.val .clo (some (267,[(0,0)])),none)),(7,(.val (.int .i64) (O.length:Int),none)),(8,(.val (.int .i64) x,none))],[(0,.cells .str Z [])],1,19,1⟩) ⟨[0,1,7,8],[(0,0)]⟩ (by rfl) ?_;intro aA w1 n1 hC1 hN1;unfold NH at hC1;dsimp only at hC1⊢;refine oY F1 ?_;refine pX ?_;refine pP hC1 (fun hC1 hc1=> ?_) (fun hC1 hc1=> ?_)
  ·refine qJ (pM (pX (rR ?_)));refine oY F1 ?_;obtain⟨hg1,hC1⟩:=pJ hC1;refine oY F1 ?_ (hp:=by exact⟨hg1,(by first|rfl|trivial)⟩)
   refine pP hC1 (fun hC1 hc2=> ?_) (fun hC1 hc2=> ?_)
   ·refine oY F1 ?_;refine pH (rS (rI (yV (yU (rS (rI ?_))))));cases hC1;cases hN1;dsimp only at hC0;cases hC0;exact⟨[(0,0)],by rfl,by rfl,by rfl⟩
   ·refine qJ (qV (pM ?_));obtain⟨hg2,hC1⟩:=pJ hC1;refine qY F1 ?_ (hp:=by exact hg2);cases hC1;exact tO ⟨⟨[0,1,7,8],[(0,0)]⟩,_,by rfl,hN1⟩
  ·refine vW (wC (vY ?_));cases hC1;cases hN1;exact vX ⟨⟨[],[(0,0)]⟩,_,rfl,by rfl⟩
 ·rintro _ ⟨v,rfl,rfl⟩;dsimp only at hC0⊢;refine wL (pM ?_);refine oY F1 ?_;refine pH ?_;cases hC0;exact⟨[(0,0)],by rfl,by rfl,by rfl⟩
attribute [irreducible] KQ
def NI (O:(List pL)) (Z:(List UInt8)):Int→Option (Int⊕(Unit⊕Int)):=fun aA=>if (decide (aA<(O.length:Int)))=true then if 0≤aA∧aA<(O.length:Int) then if (!(Op.bytesLess ((qG (.pair .str (.pair .str .unit)) O aA).1) Z||decide (((qG (.pair .str (.pair .str .unit)) O aA).1)=Z)))=true then some (.inr (.inr (aA))) else if p8 (aA+(1:Int)) then some (.inl (aA+(1:Int))) else none else none else some (.inr (.inl ()))
def KR (O:(List pL)) (Z:(List UInt8)):Option Int:=s5 (pR (NI O Z) (0:Int)) fun _=>some ((-1:Int))
section
variable (O:(List pL)) (Z:(List UInt8))
abbrev a0Y:List oZ:=[(.val (.list (.pair .str (.pair .str .unit))) O,none),(.val .clo (some (239,[(0,0)])),none)]
abbrev a0Z:List oX:=[.cells .str Z []]
@[go_sem] def a00:pD:=⟨[((KR O Z)).isSome=true],[(.val (.int .i64) (val (KR O Z)),none)],[.cells .str Z []]⟩
def a93:List oZ→List oX→Option pD:=qM (V:=((List pL)×(List UInt8))) (fun x=>a0Y x.1) (fun x=>a0Z x.2) fun x=>a00 x.1 x.2
@[go_sem] theorem aLO:a93 (no_index (a0Y O)) (no_index (a0Z Z))=some (a00 O Z):=qQ (fun⟨a0,a1⟩ ⟨b0,b1⟩ h1 h2=>by cases h1;cases h2;rfl) (O,Z)
end
@[go_sem] abbrev a94:Nat×pY:=(238,⟨[.v,.f [(.str,[])]],a93,[],[0],none⟩)
theorem F2:qB Tryz.prog [CP,EV] (pZ [a9L]):=⟨⟨EU,⟨I7,trivial⟩⟩,pK aGR qS,qD⟩
theorem aGY:qH Tryz.prog a94:=by
 refine qR F2 Tryz.func238 (c:=_) rfl (N:=19) (by kernel_rfl) (ts:=[(4,none)]) rfl (fun _ _=>rfl) ?_;intro⟨O,Z⟩ hs hrow;dsimp only[a0Y,a0Z,a00,qI,pG,pN,qE,qK,Nat.reduceAdd] at hs hrow⊢;have hz:=hs;obtain⟨z0,hC0⟩:=aMM.1 hz
 try rw[rG hC0]
 clear hz hs;unfold KR at hC0;refine oY F2 ?_;refine pX ?_;refine oY F2 ?_;refine rR ?_;obtain⟨y1,hy1,hC0⟩:=yW hC0;refine wN 0 (fun s=> ∃v,y1= .inl v∧s=(fun _=>⟨[],[(0,.cells .str Z [])],1,19,1⟩) v) ?_ ?_
 ·refine wM hy1 (fun x=>⟨[(0,(.val (.list (.pair .str (.pair .str .unit))) O,none)),(1,(.val .clo (some (239,[(0,0)])),none)),(7,(.val (.int .i64) (O.length:Int),none)),(8,(.val (.int .i64) x,none))],[(0,.cells .str Z [])],1,19,1⟩) ⟨[0,1,7,8],[(0,0)]⟩ (by rfl) ?_;intro aA w1 n1 hC1 hN1;unfold NI at hC1;dsimp only at hC1⊢;refine oY F2 ?_;refine pX ?_;refine pP hC1 (fun hC1 hc1=> ?_) (fun hC1 hc1=> ?_)
  ·refine qJ (pM (pX (rR ?_)));refine oY F2 ?_;obtain⟨hg1,hC1⟩:=pJ hC1;refine oY F2 ?_ (hp:=by exact⟨hg1,(by first|rfl|trivial)⟩)
   refine pP hC1 (fun hC1 hc2=> ?_) (fun hC1 hc2=> ?_)
   ·refine oY F2 ?_;refine pH (rS (rI (yV (yU (rS (rI ?_))))));cases hC1;cases hN1;dsimp only at hC0;cases hC0;exact⟨[(0,0)],by rfl,by rfl,by rfl⟩
   ·refine qJ (qV (pM ?_));obtain⟨hg2,hC1⟩:=pJ hC1;refine qY F2 ?_ (hp:=by exact hg2);cases hC1;exact tO ⟨⟨[0,1,7,8],[(0,0)]⟩,_,by rfl,hN1⟩
  ·refine vW (wC (vY ?_));cases hC1;cases hN1;exact vX ⟨⟨[],[(0,0)]⟩,_,rfl,by rfl⟩
 ·rintro _ ⟨v,rfl,rfl⟩;dsimp only at hC0⊢;refine wL (pM ?_);refine oY F2 ?_;refine pH ?_;cases hC0;exact⟨[(0,0)],by rfl,by rfl,by rfl⟩
attribute [irreducible] KR
def NJ (O:(List UInt8)) (Z:Bool):Nat→Option (Nat⊕(Unit⊕Int)):=fun aA=>if (decide (aA<O.length))=true then if (decide (aA<O.length))=true then if (decide (aA<O.length))=true then if (((decide ((127:Int)<(tM O aA)))||(((((!(((decide ((97:Int)≤(IntKind.wrap .u8 (tM O aA))))&&(decide ((IntKind.wrap .u8 (tM O aA))≤(122:Int))))||((decide ((65:Int)≤(IntKind.wrap .u8 (tM O aA))))&&(decide ((IntKind.wrap .u8 (tM O aA))≤(90:Int))))))&&((decide ((tM O aA)<(48:Int)))||(decide ((57:Int)<(tM O aA)))))&&(!decide ((tM O aA)=(45:Int))))&&(!decide ((tM O aA)=(95:Int))))&&(!decide ((tM O aA)=(46:Int)))))==Z)=true then some (.inr (.inr (((aA:Nat):Int)))) else some (.inl (yK O aA)) else none else none else some (.inr (.inl ()))
def KS (O:(List UInt8)) (Z:Bool):Option Int:=s5 (pR (NJ O Z) 0) fun _=>some ((-1:Int))
section
variable (O:(List UInt8)) (Z:Bool)
abbrev a01:List oZ:=[(.val .str O,none),(.val .clo (some (122,[])),none),(.val .bool Z,none)]
abbrev a02:List oX:=[]
@[go_sem] def a03:pD:=⟨[((KS O Z)).isSome=true],[(.val (.int .i64) (val (KS O Z)),none)],[]⟩
def a95:List oZ→List oX→Option pD:=qM (V:=((List UInt8)×Bool)) (fun x=>a01 x.1 x.2) (fun x=>a02) fun x=>a03 x.1 x.2
@[go_sem] theorem aLP:a95 (no_index (a01 O Z)) (no_index a02)=some (a03 O Z):=qQ (fun⟨a0,a1⟩ ⟨b0,b1⟩ h1 h2=>by cases h1;cases h2;rfl) (O,Z)
end
@[go_sem] abbrev a96:Nat×pY:=(175,⟨[.v,.v,.v],a95,[],[],none⟩)
theorem GF:qB Tryz.prog [DI,s7] (pZ [a9d]):=⟨⟨GB,⟨sB,trivial⟩⟩,pK aGI qS,qD⟩
theorem aGZ:qH Tryz.prog a96:=by
 refine qR GF Tryz.func175 (c:=_) rfl (N:=21) (by kernel_rfl) (ts:=[(6,none)]) rfl (fun _ _=>rfl) ?_;intro⟨O,Z⟩ hs hrow;dsimp only[a01,a02,a03,qI,pG,pN,qE,qK,Nat.reduceAdd] at hs hrow⊢;have hz:=hs;obtain⟨z0,hC0⟩:=aMM.1 hz
 try rw[rG hC0]
 clear hz hs;unfold KS at hC0;refine oY GF ?_;refine pX ?_;refine oY GF ?_;refine rR ?_;obtain⟨y1,hy1,hC0⟩:=yW hC0;refine wN 0 (fun s=> ∃v,y1= .inl v∧s=(fun _=>⟨[],[],0,21,0⟩) v) ?_ ?_
 ·refine wM hy1 (fun x=>⟨[(1,(.val .clo (some (122,[])),none)),(2,(.val .bool Z,none)),(10,(.val .ref (some (0,0)),none))],[(0,.iter O x)],1,21,0⟩) ⟨[1,2,10],[(0,64)]⟩ (by rfl) ?_;intro aA w1 n1 hC1 hN1;unfold NJ at hC1;dsimp only at hC1⊢;refine oY GF ?_;refine pX ?_;refine pP hC1 (fun hC1 hc1=> ?_) (fun hC1 hc1=> ?_)
  ·refine qJ (pM (rR ?_));obtain⟨hg1,hC1⟩:=pJ hC1;obtain⟨hg2,hC1⟩:=pJ hC1;refine oY GF ?_ (hp:=by exact⟨hg1,hg2⟩);refine oY GF ?_;refine pP hC1 (fun hC1 hc2=> ?_) (fun hC1 hc2=> ?_)
   ·refine oY GF ?_;refine pH (rS (yV (yU (rS (rI ?_)))));cases hC1;cases hN1;dsimp only at hC0;cases hC0;exact⟨[],by rfl,by rfl,by rfl⟩
   ·refine qJ (qV ?_);cases hC1;exact tO ⟨⟨[1,2,10],[(0,0)]⟩,_,by rfl,hN1⟩
  ·refine vW (wC (vY ?_));cases hC1;cases hN1;exact vX ⟨⟨[],[]⟩,_,rfl,by rfl⟩
 ·rintro _ ⟨v,rfl,rfl⟩;dsimp only at hC0⊢;refine wL (pM ?_);refine oY GF ?_;refine pH ?_;cases hC0;exact⟨[],by rfl,by rfl,by rfl⟩
attribute [irreducible] KS
def ID (O:(List UInt8)):Option Int:=(KS O true).bind fun Z=>some (Z)
section
variable (O:(List UInt8))
abbrev a04:List oZ:=[(.val .str O,none),(.val .clo (some (122,[])),none)]
abbrev a05:List oX:=[]
@[go_sem] def a06:pD:=⟨[((ID O)).isSome=true],[(.val (.int .i64) (val (ID O)),none)],[]⟩
def a97:List oZ→List oX→Option pD:=qM (V:=(List UInt8)) (fun x=>a04 x) (fun x=>a05) fun x=>a06 x
@[go_sem] theorem aLQ:a97 (no_index (a04 O)) (no_index a05)=some (a06 O):=qQ (fun a0 b0 h1 h2=>by cases h1;cases h2;rfl) O
end
@[go_sem] abbrev a98:Nat×pY:=(121,⟨[.v,.v],a97,[],[],none⟩)
theorem a07:qB Tryz.prog [] (pZ [a96]):=⟨trivial,pK aGZ qS,qD⟩
theorem aG0:qH Tryz.prog a98:=by
 refine qR a07 Tryz.func121 (c:=_) rfl (N:=8) (by kernel_rfl) (ts:=[(4,none)]) rfl (fun _ _=>rfl) ?_;intro O hs hrow;dsimp only[a04,a05,a06,qI,pG,pN,qE,qK,Nat.reduceAdd] at hs hrow⊢;have hz:=hs;obtain⟨z0,hC0⟩:=aMM.1 hz
 try rw[rG hC0]
 clear hz hs;unfold ID at hC0;refine oY a07 ?_;obtain⟨Z,hv1,hw1,hC0⟩:=pV hC0
 try simp only[go_sem] at hw1
 refine oY a07 ?_ (hp:=by exact(pU hv1)) (h:=by simp only[go_sem,hw1];rfl);refine pH ?_;cases hC0;exact⟨[],by rfl,by rfl,by rfl⟩
attribute [irreducible] ID
def GG (O:(List (List UInt8))):Option (List (List UInt8)):=if (0+O.length)*16≤140737488355328 then some ((([]:List (List UInt8))++O)) else none
section
variable (O:(List (List UInt8)))
abbrev a08:List oZ:=[(.val (.list .str) O,none)]
abbrev a09:List oX:=[]
@[go_sem] def a1a:pD:=⟨[((GG O)).isSome=true],[(.own 0 ((val (GG O)).length),none)],[.row 9 .str (val (GG O)) ((val (GG O)).length)]⟩
def a99:List oZ→List oX→Option pD:=qM (V:=(List (List UInt8))) (fun x=>a08 x) (fun x=>a09) fun x=>a1a x
@[go_sem] theorem aLR:a99 (no_index (a08 O)) (no_index a09)=some (a1a O):=qQ (fun a0 b0 h1 h2=>by cases h1;cases h2;rfl) O
end
@[go_sem] abbrev a1b:Nat×pY:=(51,⟨[.v],a99,[],[],none⟩)
theorem NK:qB Tryz.prog [RM] (pZ []):=⟨⟨a8K,trivial⟩,qS,qD⟩
theorem aG1:qH Tryz.prog a1b:=by
 refine qR NK Tryz.func51 (c:=_) rfl (N:=8) (by kernel_rfl) (ts:=[(2,none)]) rfl (fun _ _=>rfl) ?_;intro O hs hrow;dsimp only[a08,a09,a1a,qI,pG,pN,qE,qK,Nat.reduceAdd] at hs hrow⊢;have hz:=hs;obtain⟨z0,hC0⟩:=aMM.1 hz
 try rw[rG hC0]
 clear hz hs;unfold GG at hC0;refine oY NK ?_;refine pX ?_;refine oY NK ?_;refine a76 (by simp only[go_sem];rfl) (fun hnil=> ?_) (fun hnil=> ?_)
 ·subst hnil;obtain⟨_,hC0⟩:=pJ hC0;refine oY NK ?_;refine pH (rI ?_);cases hC0;exact⟨[(0,96)],by rfl,by rfl,by rfl⟩
 ·refine qJ (pM ?_);obtain⟨hg1,hC0⟩:=pJ hC0;refine oY NK ?_ (hp:=by exact⟨by first|rfl|trivial,hg1⟩)
  refine pH ?_;cases hC0;exact⟨[(0,96)],by rfl,by rfl,by rfl⟩
attribute [irreducible] GG
def SA:(Int×List UInt8)→(List Int)→Option ((List Int)⊕(List UInt8)):=fun O Z=>(EY (Z,()) O.2).bind fun aA=>some (.inl (Z++sP O.2))
def IE (O:yX):Option (List UInt8):=if List.length O.2.1≤4611686018427387904 then s5 (AJ (SA) (xY O) ([]:List Int)) fun Z=>some ((sD Z)) else none
section
variable (O:yX)
abbrev a1c:List oZ:=[(.val AK O,none)]
abbrev a1d:List oX:=[]
@[go_sem] def a1e:pD:=⟨[((IE O)).isSome=true],[(.val .str (val (IE O)),none)],[]⟩
def aAa:List oZ→List oX→Option pD:=qM (V:=yX) (fun x=>a1c x) (fun x=>a1d) fun x=>a1e x
@[go_sem] theorem aLS:aAa (no_index (a1c O)) (no_index a1d)=some (a1e O):=qQ (fun a0 b0 h1 h2=>by cases h1;cases h2;rfl) O
end
@[go_sem] abbrev aAb:Nat×pY:=(25,⟨[.v],aAa,[],[],none⟩)
theorem IF:qB Tryz.prog [DH,G9] (pZ [Y4,Y9,RR]):=⟨⟨G7,⟨K9,trivial⟩⟩,pK a8U (pK a8W (pK XY qS)),qD⟩
theorem aG2:qH Tryz.prog aAb:=by
 refine qR IF Tryz.func25 (c:=_) rfl (N:=13) (by kernel_rfl) (ts:=[(2,none)]) rfl (fun _ _=>rfl) ?_;intro O hs hrow;dsimp only[a1c,a1d,a1e,qI,pG,pN,qE,qK,Nat.reduceAdd] at hs hrow⊢;have hz:=hs;obtain⟨z0,hC0⟩:=aMM.1 hz
 try rw[rG hC0]
 clear hz hs;unfold IE at hC0;refine oY IF ?_;refine oY IF ?_;refine pX ?_;refine oY IF ?_;refine rR ?_;obtain⟨hgF2,hC0⟩:=pJ hC0;obtain⟨y1,hy1,hC0⟩:=yW hC0;refine a8x a8C a8A (by rfl) (by rfl) hgF2 hy1 [(3,(.val .ref (some (0,0)),none))] (fun Z=>[(3,(.val .ref (some (0,0)),none)),(5,(.val .str Z.2,none))]) (fun x=>[.cells wO ((some (0,0)),(x,())) [(1,1)],.grow 5 1 (x.length)]) 1 ⟨[3],[(0,64),(1,65)]⟩ (by rfl) (by rfl) (by rfl) (by rfl) (aN5 (by rfl)) (fun _=>aN5 rfl) (fun _=>by rfl) (fun _=>rfl) (by rfl) ?_ ?_
 ·intro Z aA w1 hC1 hN1;refine⟨?_,?_⟩
  ·dsimp only[K5,XQ,sQ,pG,pN,Nat.reduceAdd,List.toList_toArray];refine qY IF ?_;exact a8y ⟨[3,5],[(0,0),(1,1)]⟩ (by rfl)
  ·unfold SA at hC1;dsimp only[pG,pN,Nat.reduceAdd] at hC1⊢;refine rR ?_;obtain⟨aB,hv1,hw1,hC1⟩:=pV hC1
   try simp only[go_sem] at hw1
   refine qY IF ?_ (hp:=by exact⟨by first|rfl|trivial,(pU hv1)⟩) (h:=by simp only[go_sem,hw1];rfl)
   refine qV ?_;cases hC1;exact a8z ⟨[],[(0,0),(1,1)]⟩ _ rfl (by rfl)
 ·rintro aA rfl;dsimp only[pG,pN,Nat.reduceAdd] at hC0⊢;refine qV (pM ?_);refine oY IF ?_ (hp:=by first|rfl|trivial)
  refine pH ?_;cases hC0;exact⟨[],by rfl,by rfl,by rfl⟩
attribute [irreducible] IE
end
noncomputable section
def CV (O:(List UInt8)) (Z:((List UInt8)×Unit)) (aA:Int) (aB:(List UInt8)) (aC:(List (List UInt8))):Option ((List UInt8)×(List UInt8)×(List (List UInt8))):=if (decide (aA=(0:Int)))=true then some ((aB,Z.1,aC)) else if p8 ((((aC.length):Nat):Int)+(1:Int)) then if (decide (aA=((((aC.length):Nat):Int)+(1:Int))))=true then some ((O,aB,aC)) else if p8 (aA- (1:Int)) then if 0≤(aA- (1:Int))∧(aA- (1:Int))<(((aC.length):Nat):Int) then some ((O,Z.1,(List.set aC (Int.toNat (aA- (1:Int))) aB))) else none else none else none
section
variable (O:Int) (Z:(List UInt8)) (aA:(List UInt8)) (aB:Nat) (aC:((List UInt8)×Unit)) (aD:(List (List UInt8))) (aE:Nat)
abbrev a1f:List oZ:=[(.val .ref (some (0,0)),none),(.val (.int .i64) O,none),(.val .str Z,none)]
abbrev a1g:List oX:=[.cells XU (aA,((some (1,aB)),aC)) [],.row 9 .str aD aE]
@[go_sem] def a1h:pD:=⟨[aB=aE,((CV aA aC O Z aD)).isSome=true],[],[.cells XU ((val (CV aA aC O Z aD)).1,((some (1,(aD.length))),((val (CV aA aC O Z aD)).2.1,()))) [],.row 9 .str ((val (CV aA aC O Z aD)).2.2) (aD.length)]⟩
def aAc:List oZ→List oX→Option pD:=qM (V:=(Int×(List UInt8)×(List UInt8)×Nat×((List UInt8)×Unit)×(List (List UInt8))×Nat)) (fun x=>a1f x.1 x.2.1) (fun x=>a1g x.2.2.1 x.2.2.2.1 x.2.2.2.2.1 x.2.2.2.2.2.1 x.2.2.2.2.2.2) fun x=>a1h x.1 x.2.1 x.2.2.1 x.2.2.2.1 x.2.2.2.2.1 x.2.2.2.2.2.1 x.2.2.2.2.2.2
@[go_sem] theorem aLT:aAc (no_index (a1f O Z)) (no_index (a1g aA aB aC aD aE))=some (a1h O Z aA aB aC aD aE):=qQ (fun⟨a0,a1,a2,a3,a4,a5,a6⟩ ⟨b0,b1,b2,b3,b4,b5,b6⟩ h1 h2=>by cases h1;cases h2;rfl) (O,Z,aA,aB,aC,aD,aE)
end
@[go_sem] abbrev a1i:Nat×pY:=(52,⟨[.p XU [],.v,.v],aAc,[(0,1,.r)],[],none⟩)
theorem aAd:qB Tryz.prog [] (pZ []):=⟨trivial,qS,qD⟩
theorem KT:qB Tryz.prog [s7,RM,DH] (pZ []):=⟨⟨sB,⟨a8K,⟨G7,trivial⟩⟩⟩,aAd.Γ,qD⟩
theorem aG3:qH Tryz.prog a1i:=by
 refine qR aAd Tryz.func52 (c:=_) rfl (N:=33) (by kernel_rfl) (ts:=[]) rfl (fun _ _=>rfl) ?_;intro⟨O,Z,aA,aB,aC,aD,aE⟩ hs hrow;dsimp only[a1f,a1g,a1h,qI,pG,pN,qE,qK,Nat.reduceAdd] at hs hrow⊢;obtain⟨rfl,hz⟩:=hs;obtain⟨rfl,_⟩:=hrow;obtain⟨z0,hC0⟩:=aMM.1 hz
 try rw[rG hC0]
 clear hz;unfold CV at hC0;refine oY KT ?_;refine rR ?_;refine oY KT ?_;refine pP hC0 (fun hC0 hc1=> ?_) (fun hC0 hc1=> ?_)
 ·refine qY KT ?_;refine qV ?_;cases hC0;exact⟨[(0,0),(1,1)],by rfl,by rfl,by rfl⟩
 ·obtain⟨hg1,hC0⟩:=pJ hC0;refine oY KT ?_ (hp:=by exact hg1);refine pP hC0 (fun hC0 hc2=> ?_) (fun hC0 hc2=> ?_)
  ·refine qY KT ?_;refine qV ?_;cases hC0;exact⟨[(0,0),(1,1)],by rfl,by rfl,by rfl⟩
  ·obtain⟨hg2,hC0⟩:=pJ hC0;obtain⟨hg3,hC0⟩:=pJ hC0;refine qY KT ?_ (hp:=by exact⟨hg2,hg3,(by first|rfl|trivial)⟩)
   refine qV ?_;cases hC0;exact⟨[(0,0),(1,1)],by rfl,by rfl,by rfl⟩
attribute [irreducible] CV
def SB (O:Int):(Int×List UInt8)→Unit→Option (Unit⊕((List UInt8)×Bool)):=fun Z _=>if (decide (Z.1=O))=true then some (.inr ((Z.2,true))) else some (.inl ())
def F3 (O:yX) (Z:Int):Option ((List UInt8)×Bool):=if List.length O.2.1≤4611686018427387904 then s5 (AJ (SB Z) (xY O) ()) fun _=>some ((([]:List UInt8),false)) else none
section
variable (O:yX) (Z:Int)
abbrev a1j:List oZ:=[(.val AK O,none),(.val (.int .i64) Z,none)]
abbrev a1k:List oX:=[]
@[go_sem] def a1l:pD:=⟨[((F3 O Z)).isSome=true],[(.val .str ((val (F3 O Z)).1),none),(.val .bool ((val (F3 O Z)).2),none)],[]⟩
def aAe:List oZ→List oX→Option pD:=qM (V:=(yX×Int)) (fun x=>a1j x.1 x.2) (fun x=>a1k) fun x=>a1l x.1 x.2
@[go_sem] theorem aLU:aAe (no_index (a1j O Z)) (no_index a1k)=some (a1l O Z):=qQ (fun⟨a0,a1⟩ ⟨b0,b1⟩ h1 h2=>by cases h1;cases h2;rfl) (O,Z)
end
@[go_sem] abbrev aAf:Nat×pY:=(23,⟨[.v,.v],aAe,[],[],none⟩)
theorem GH:qB Tryz.prog [v6,DI,s7,DH] (pZ [Y4]):=⟨⟨vM,⟨GB,⟨sB,⟨G7,trivial⟩⟩⟩⟩,pK a8U qS,qD⟩
theorem aG4:qH Tryz.prog aAf:=by
 refine qR GH Tryz.func23 (c:=_) rfl (N:=16) (by kernel_rfl) (ts:=[(4,some 9),(5,some 4)]) rfl (fun _ _=>rfl) ?_;intro⟨O,Z⟩ hs hrow;dsimp only[a1j,a1k,a1l,qI,pG,pN,qE,qK,Nat.reduceAdd] at hs hrow⊢;have hz:=hs;obtain⟨z0,hC0⟩:=aMM.1 hz
 try rw[rG hC0]
 clear hz hs;unfold F3 at hC0;refine oY GH ?_;refine pX ?_;refine oY GH ?_;refine rR ?_;obtain⟨hgF1,hC0⟩:=pJ hC0;obtain⟨y1,hy1,hC0⟩:=yW hC0;refine a8x a8C a8A (by rfl) (by rfl) hgF1 hy1 [(3,(.val .ref (some (0,0)),none)),(4,(.val .ref (some (1,0)),none)),(5,(.val .ref (some (2,0)),none))] (fun aA=>[(3,(.val .ref (some (0,0)),none)),(4,(.val .ref (some (1,0)),none)),(5,(.val .ref (some (2,0)),none)),(6,(.val (.int .i64) aA.1,none)),(7,(.val .str aA.2,none))]) (fun _=>[.cells (.int .i64) Z [],.cells .str ([]:List UInt8) [],.cells .bool false []]) 3 ⟨[3,4,5],[(0,32),(1,64),(2,96)]⟩ (by rfl) (by rfl) (by rfl) (by rfl) (aN5 (by rfl)) (fun _=>aN5 rfl) (fun _=>by rfl) (fun _=>rfl) (by rfl) ?_ ?_
 ·intro aA x1 w1 hC1 hN1;refine⟨?_,?_⟩
  ·dsimp only[K5,XQ,sQ,pG,pN,Nat.reduceAdd,List.toList_toArray];refine oY GH ?_;refine qY GH ?_;exact a8y ⟨[3,4,5,6,7],[(0,0),(1,1),(2,2)]⟩ (by rfl)
  ·unfold SB at hC1;dsimp only[pG,pN,Nat.reduceAdd] at hC1⊢;refine rR ?_;refine oY GH ?_;refine pP hC1 (fun hC1 hc1=> ?_) (fun hC1 hc1=> ?_)
   ·refine oY GH ?_;refine pH (rS ?_);refine aGz ⟨[],[(0,0),(1,1),(2,2)]⟩ [.cells (.int .i64) Z [],.cells .str aA.2 [],.cells .bool true []] _ (aML hC1).symm (by rfl) ?_;refine rS (rI ?_);cases hC1;obtain rfl:=hN1 _ rfl;dsimp only at hC0;cases hC0;exact⟨[],by rfl,by rfl,by rfl⟩
   ·refine qJ (qV ?_);cases hC1;exact a8z ⟨[],[(0,0),(1,1),(2,2)]⟩ _ rfl (by rfl)
 ·rintro xv rfl;dsimp only[pG,pN,Nat.reduceAdd] at hC0⊢;refine qV (pM ?_);refine oY GH ?_;refine pH ?_;cases hC0;exact⟨[],by rfl,by rfl,by rfl⟩
attribute [irreducible] F3
def CW (O:yX) (Z:Int) (aA:(List UInt8)):Option ((List UInt8)×(List (List UInt8))×(List UInt8)×Int):=if (((decide (Z<(0:Int)))==false)=true→p8 ((O.2.1.length:Int)+(1:Int))) then if ((decide (Z<(0:Int)))||(decide (((O.2.1.length:Int)+(1:Int))<Z)))=true then some ((([]:List UInt8),([]:List (List UInt8)),([]:List UInt8),(2:Int))) else (GG O.2.1).bind fun aB=>(CV O.1 O.2.2 Z aA aB).bind fun aC=>some ((aC.1,aC.2.2,aC.2.1,(0:Int))) else none
section
variable (O:yX) (Z:Int) (aA:(List UInt8))
abbrev a1m:List oZ:=[(.val AK O,none),(.val (.int .i64) Z,none),(.val .str aA,none)]
abbrev a1n:List oX:=[]
@[go_sem] def a1o:pD:=⟨[((CW O Z aA)).isSome=true],[(.val AK ((val (CW O Z aA)).1,((val (CW O Z aA)).2.1,((val (CW O Z aA)).2.2.1,()))),none),(.val (.int .i64) ((val (CW O Z aA)).2.2.2),none)],[]⟩
def aAg:List oZ→List oX→Option pD:=qM (V:=(yX×Int×(List UInt8))) (fun x=>a1m x.1 x.2.1 x.2.2) (fun x=>a1n) fun x=>a1o x.1 x.2.1 x.2.2
@[go_sem] theorem aLV:aAg (no_index (a1m O Z aA)) (no_index a1n)=some (a1o O Z aA):=qQ (fun⟨a0,a1,a2⟩ ⟨b0,b1,b2⟩ h1 h2=>by cases h1;cases h2;rfl) (O,Z,aA)
end
@[go_sem] abbrev aAh:Nat×pY:=(24,⟨[.v,.v,.v],aAg,[],[],none⟩)
theorem KU:qB Tryz.prog [zR,DH] (pZ [a1b,a1i]):=⟨⟨B8,⟨G7,trivial⟩⟩,pK aG1 (pK aG3 qS),qD⟩
theorem aAi:qB Tryz.prog [DH] (pZ [a1b,a1i]):=⟨⟨G7,trivial⟩,KU.Γ,qD⟩
theorem aG5:qH Tryz.prog aAh:=by
 refine qR KU Tryz.func24 (c:=_) rfl (N:=27) (by kernel_rfl) (ts:=[(6,some 34),(7,none)]) rfl (fun _ _=>rfl) ?_;intro⟨O,Z,aA⟩ hs hrow;dsimp only[a1m,a1n,a1o,qI,pG,pN,qE,qK,Nat.reduceAdd] at hs hrow⊢;have hz:=hs;obtain⟨z0,hC0⟩:=aMM.1 hz
 try rw[rG hC0]
 clear hz hs;unfold CW at hC0;refine oY KU ?_;refine pX ?_;obtain⟨hg1,hC0⟩:=pJ hC0;refine oY KU ?_ (hp:=by exact⟨fun hh=>hh,fun hh=>hh,fun hh=>hh,hg1,fun hh=>hh,fun hh=>hh,(fun hh=>xX hh)⟩);refine pP hC0 (fun hC0 hc1=> ?_) (fun hC0 hc1=> ?_)
 ·refine oY KU ?_;refine pH (rI ?_);cases hC0;exact⟨[],by rfl,by rfl,by rfl⟩
 ·refine qJ (pM ?_);obtain⟨aB,hv2,hw2,hC0⟩:=pV hC0
  try simp only[go_sem] at hw2
  refine oY KU ?_ (hp:=by exact(pU hv2)) (h:=by simp only[go_sem,hw2];rfl);obtain⟨aC,hv3,hw3,hC0⟩:=pV hC0
  try simp only[go_sem] at hw3
  refine oY aAi ?_ (hp:=by exact⟨by first|rfl|trivial,(pU hv3)⟩) (h:=by simp only[go_sem,hw3];rfl)
  refine oY aAi ?_ (hp:=by first|rfl|trivial)
  refine pH ?_;cases hC0;exact⟨[],by rfl,by rfl,by rfl⟩
attribute [irreducible] CW
def NL (O:qZ) (Z:qZ):Option Unit:=if (((decide (O.1=Z.1))==true)=true→((v7 O.2.1 Z.2.1)).isSome=true) then if ((((decide (O.1=Z.1))&&(val (v7 O.2.1 Z.2.1)))==true)=true→((y4 O.2.2.1 Z.2.2.1)).isSome=true) then some (()) else none else none
section
variable (O:qZ) (Z:qZ)
abbrev a1p:List oZ:=[(.val I4 O,none),(.val I4 Z,none)]
abbrev a1q:List oX:=[]
@[go_sem] def a1r:pD:=⟨[((NL O Z)).isSome=true],[(.val .bool (((decide (O.1=Z.1))&&(val (v7 O.2.1 Z.2.1)))&&(val (y4 O.2.2.1 Z.2.2.1))),none)],[]⟩
def aAj:List oZ→List oX→Option pD:=qM (V:=(qZ×qZ)) (fun x=>a1p x.1 x.2) (fun x=>a1q) fun x=>a1r x.1 x.2
@[go_sem] theorem aLW:aAj (no_index (a1p O Z)) (no_index a1q)=some (a1r O Z):=qQ (fun⟨a0,a1⟩ ⟨b0,b1⟩ h1 h2=>by cases h1;cases h2;rfl) (O,Z)
end
@[go_sem] abbrev aAk:Nat×pY:=(46,⟨[.v,.v],aAj,[],[],none⟩)
theorem a1s:qB Tryz.prog [s7,zR,CP,ES] (pZ [YD,YH]):=⟨⟨sB,⟨B8,⟨EU,⟨I5,trivial⟩⟩⟩⟩,pK a8Y (pK a80 qS),qD⟩
theorem aG6:qH Tryz.prog aAk:=by
 refine qR a1s Tryz.func46 (c:=_) rfl (N:=24) (by kernel_rfl) (ts:=[(4,none)]) rfl (fun _ _=>rfl) ?_;intro⟨O,Z⟩ hs hrow;dsimp only[a1p,a1q,a1r,qI,pG,pN,qE,qK,Nat.reduceAdd] at hs hrow⊢;have hz:=hs;obtain⟨z0,hC0⟩:=aMM.1 hz
 try rw[rG hC0]
 clear hz hs;unfold NL at hC0;refine oY a1s ?_;obtain⟨hg1,hC0⟩:=pJ hC0;obtain⟨hg2,hC0⟩:=pJ hC0;refine oY a1s ?_ (hp:=by exact⟨fun hh=>hh,fun hh=>hh,fun hh=>hh,fun hh=>hh,hg1,fun hh=>sG hh,fun hh=>hh,fun hh=>hh,fun hh=>hh,fun hh=>hh,hg2,(fun hh=>sG hh)⟩);refine pH ?_;cases hC0;exact⟨[],by rfl,by rfl,by rfl⟩
attribute [irreducible] NL
def SC (O:(List qT)) (Z:(List qT)):Int→Option (Int⊕(Unit⊕Bool)):=fun aA=>if (decide (aA<(O.length:Int)))=true then if 0≤aA∧aA<(O.length:Int) then if 0≤aA∧aA<(Z.length:Int) then (KE (qG tC O aA) (qG tC Z aA)).bind fun aB=>if (!(((((((decide (((qG tC O aA).1)=((qG tC Z aA).1)))&&(decide (((qG tC O aA).2.1)=((qG tC Z aA).2.1))))&&(decide (((qG tC O aA).2.2.1)=((qG tC Z aA).2.2.1))))&&(decide (((qG tC O aA).2.2.2.2.2.1)=((qG tC Z aA).2.2.2.2.2.1))))&&(val (v7 ((qG tC O aA).2.2.2.1) ((qG tC Z aA).2.2.2.1))))&&(val (v7 ((qG tC O aA).2.2.2.2.1) ((qG tC Z aA).2.2.2.2.1))))&&(val (y4 ((qG tC O aA).2.2.2.2.2.2.1) ((qG tC Z aA).2.2.2.2.2.2.1)))))=true then some (.inr (.inr (false))) else if p8 (aA+(1:Int)) then some (.inl (aA+(1:Int))) else none else none else none else some (.inr (.inl ()))
def BX (O:(List qT)) (Z:(List qT)):Option Bool:=if (!decide ((O.length:Int)=(Z.length:Int)))=true then some (false) else s5 (pR (SC O Z) (0:Int)) fun _=>some (true)
section
variable (O:(List qT)) (Z:(List qT))
abbrev a1t:List oZ:=[(.val (.list tC) O,none),(.val (.list tC) Z,none)]
abbrev a1u:List oX:=[]
@[go_sem] def a1v:pD:=⟨[((BX O Z)).isSome=true],[(.val .bool (val (BX O Z)),none)],[]⟩
def aAl:List oZ→List oX→Option pD:=qM (V:=((List qT)×(List qT))) (fun x=>a1t x.1 x.2) (fun x=>a1u) fun x=>a1v x.1 x.2
@[go_sem] theorem aLX:aAl (no_index (a1t O Z)) (no_index a1u)=some (a1v O Z):=qQ (fun⟨a0,a1⟩ ⟨b0,b1⟩ h1 h2=>by cases h1;cases h2;rfl) (O,Z)
end
@[go_sem] abbrev aAm:Nat×pY:=(47,⟨[.v,.v],aAl,[],[],none⟩)
theorem DQ:qB Tryz.prog [K7,G8] (pZ [a82]):=⟨⟨RF,⟨K8,trivial⟩⟩,pK aGG qS,qD⟩
theorem aG7:qH Tryz.prog aAm:=by
 refine qR DQ Tryz.func47 (c:=_) rfl (N:=27) (by kernel_rfl) (ts:=[(4,none)]) rfl (fun _ _=>rfl) ?_;intro⟨O,Z⟩ hs hrow;dsimp only[a1t,a1u,a1v,qI,pG,pN,qE,qK,Nat.reduceAdd] at hs hrow⊢;have hz:=hs;obtain⟨z0,hC0⟩:=aMM.1 hz
 try rw[rG hC0]
 clear hz hs;unfold BX at hC0;refine oY DQ ?_;refine pX ?_;refine oY DQ ?_;refine pP hC0 (fun hC0 hc1=> ?_) (fun hC0 hc1=> ?_)
 ·refine oY DQ ?_;refine pH (rI ?_);cases hC0;exact⟨[],by rfl,by rfl,by rfl⟩
 ·refine qJ (pM (pX ?_));refine oY DQ ?_;refine rR ?_;obtain⟨y1,hy1,hC0⟩:=yW hC0;refine wN 0 (fun s=> ∃v,y1= .inl v∧s=(fun _=>⟨[],[],0,27,0⟩) v) ?_ ?_
  ·refine wM hy1 (fun x=>⟨[(0,(.val (.list tC) O,none)),(1,(.val (.list tC) Z,none)),(5,(.val (.int .i64) x,none))],[],0,27,0⟩) ⟨[0,1,5],[]⟩ (by rfl) ?_;intro aA w1 n1 hC1 hN1;unfold SC at hC1;dsimp only at hC1⊢;refine pX ?_;refine oY DQ ?_;refine pP hC1 (fun hC1 hc2=> ?_) (fun hC1 hc2=> ?_)
   ·refine qJ (pM (pX (rR ?_)));obtain⟨hg1,hC1⟩:=pJ hC1;obtain⟨hg2,hC1⟩:=pJ hC1;obtain⟨aB,hv3,hw3,hC1⟩:=pV hC1
    try simp only[go_sem] at hw3
    refine AH DQ ?_ (hp:=by exact⟨hg1,hg2,(pU hv3)⟩) (h:=by simp only[go_sem,hw3];rfl);refine pP hC1 (fun hC1 hc3=> ?_) (fun hC1 hc3=> ?_)
    ·refine oY DQ ?_;refine pH (rS (rI (yV (yU (rS (rI ?_))))));cases hC1;cases hN1;dsimp only at hC0;cases hC0;exact⟨[],by rfl,by rfl,by rfl⟩
    ·refine qJ (qV (pM ?_));obtain⟨hg4,hC1⟩:=pJ hC1;refine qY DQ ?_ (hp:=by exact hg4);cases hC1;exact tO ⟨⟨[0,1,5],[]⟩,_,by rfl,hN1⟩
   ·refine vW (wC (vY ?_));cases hC1;cases hN1;exact vX ⟨⟨[],[]⟩,_,rfl,by rfl⟩
  ·rintro _ ⟨v,rfl,rfl⟩;dsimp only at hC0⊢;refine wL (pM ?_);refine oY DQ ?_;refine pH ?_;cases hC0;exact⟨[],by rfl,by rfl,by rfl⟩
attribute [irreducible] BX
def SD (O:(List UInt8)):Int→Option (Int⊕(Unit⊕Bool)):=fun Z=>if (decide (Z<(O.length:Int)))=true then if 0≤Z∧Z<(O.length:Int) then if ((((!((decide ((97:Int)≤(pI O Z)))&&(decide ((pI O Z)≤(122:Int)))))&&(!((decide ((48:Int)≤(pI O Z)))&&(decide ((pI O Z)≤(57:Int))))))&&(!decide ((pI O Z)=(45:Int))))&&((decide ((pI O Z)<(65:Int)))||(decide ((90:Int)<(pI O Z)))))=true then some (.inr (.inr (false))) else if p8 (Z+(1:Int)) then some (.inl (Z+(1:Int))) else none else none else some (.inr (.inl ()))
def F4 (O:(List UInt8)):Option Bool:=s5 (pR (SD O) (0:Int)) fun _=>some (((decide ((1:Int)≤(O.length:Int)))&&(decide ((O.length:Int)≤(40:Int)))))
attribute [irreducible] F4
end
noncomputable section
def NM (O:(List UInt8)):Int→Option (Int⊕Int):=fun Z=>if (((decide (Z<(O.length:Int)))==true)=true→0≤Z∧Z<(O.length:Int)) then if ((decide (Z<(O.length:Int)))&&(!decide ((pI O Z)=(10:Int))))=true then if p8 (Z+(1:Int)) then some (.inl (Z+(1:Int))) else none else some (.inr Z) else none
def NN (O:(List UInt8)):Int→Option (Int⊕Int):=fun Z=>if (((decide (Z<(O.length:Int)))==true)=true→((KF O Z ([42,47]:List UInt8))).isSome=true) then if ((decide (Z<(O.length:Int)))&&(!((decide ((([42,47]:List UInt8).length:Int)≤((O.length:Int)-Z)))&&(decide ((pE O Z (Z+(([42,47]:List UInt8).length:Int)))=([42,47]:List UInt8))))))=true then if p8 (Z+(1:Int)) then some (.inl (Z+(1:Int))) else none else some (.inr Z) else none
def IG (O:(List UInt8)):Int→Option (Int⊕(Int⊕Int)):=fun Z=>if (decide (Z<(O.length:Int)))=true then if 0≤Z∧Z<(O.length:Int) then if (((decide ((pI O Z)=(32:Int)))==false)=true→0≤Z∧Z<(O.length:Int)) then if ((((decide ((pI O Z)=(32:Int)))||(decide ((pI O Z)=(9:Int))))==false)=true→0≤Z∧Z<(O.length:Int)) then if (((((decide ((pI O Z)=(32:Int)))||(decide ((pI O Z)=(9:Int))))||(decide ((pI O Z)=(10:Int))))==false)=true→0≤Z∧Z<(O.length:Int)) then if ((((decide ((pI O Z)=(32:Int)))||(decide ((pI O Z)=(9:Int))))||(decide ((pI O Z)=(10:Int))))||(decide ((pI O Z)=(13:Int))))=true then if p8 (Z+(1:Int)) then some (.inl (Z+(1:Int))) else none else (KF O Z ([47,47]:List UInt8)).bind fun aA=>if ((decide ((([47,47]:List UInt8).length:Int)≤((O.length:Int)-Z)))&&(decide ((pE O Z (Z+(([47,47]:List UInt8).length:Int)))=([47,47]:List UInt8))))=true then rE (pR (NM O) Z) fun aB=>some (.inl aB) else (KF O Z ([47,42]:List UInt8)).bind fun aC=>if ((decide ((([47,42]:List UInt8).length:Int)≤((O.length:Int)-Z)))&&(decide ((pE O Z (Z+(([47,42]:List UInt8).length:Int)))=([47,42]:List UInt8))))=true then if p8 (Z+(2:Int)) then rE (pR (NN O) (Z+(2:Int))) fun aD=>if (decide ((O.length:Int)≤aD))=true then some (.inr (.inr (Z))) else if p8 (aD+(2:Int)) then some (.inl (aD+(2:Int))) else none else none else some (.inr (.inr (Z))) else none else none else none else none else some (.inr (.inl Z))
def KV (O:(List UInt8)) (Z:Int):Option Int:=s5 (pR (IG O) Z) fun aA=>some (aA)
attribute [irreducible] KV
end
noncomputable section
def SE (O:(List UInt8)):Int→Option (Int⊕(Unit⊕Bool)):=fun Z=>if (decide (Z<(O.length:Int)))=true then if 0≤Z∧Z<(O.length:Int) then if (((((!((decide ((97:Int)≤(pI O Z)))&&(decide ((pI O Z)≤(122:Int)))))&&(!((decide ((48:Int)≤(pI O Z)))&&(decide ((pI O Z)≤(57:Int))))))&&(!decide ((pI O Z)=(45:Int))))&&(!decide ((pI O Z)=(95:Int))))&&(!decide ((pI O Z)=(46:Int))))=true then some (.inr (.inr (false))) else if p8 (Z+(1:Int)) then some (.inl (Z+(1:Int))) else none else none else some (.inr (.inl ()))
def NO (O:(List UInt8)):Option Bool:=if ((((decide ((O.length:Int)<(1:Int)))||(decide ((40:Int)<(O.length:Int))))==false)=true→0≤(0:Int)∧(0:Int)<(O.length:Int)) then if (((decide ((O.length:Int)<(1:Int)))||(decide ((40:Int)<(O.length:Int))))||(!((decide ((97:Int)≤(pI O (0:Int))))&&(decide ((pI O (0:Int))≤(122:Int))))))=true then some (false) else s5 (pR (SE O) (1:Int)) fun _=>some (true) else none
attribute [irreducible] NO
def IH (O:(List UInt8)) (Z:(List UInt8)):Option Unit:=(KK O Z).bind fun aA=>some (())
section
variable (O:(List UInt8)) (Z:(List UInt8))
abbrev a1w:List oZ:=[(.val .str O,none),(.val .str Z,none)]
abbrev a1x:List oX:=[]
@[go_sem] def a1y:pD:=⟨[((IH O Z)).isSome=true],[(.val .bool ((decide ((Z.length:Int)≤(O.length:Int)))&&(decide ((pE O (0:Int) (Z.length:Int))=Z))),none)],[]⟩
def aAn:List oZ→List oX→Option pD:=qM (V:=((List UInt8)×(List UInt8))) (fun x=>a1w x.1 x.2) (fun x=>a1x) fun x=>a1y x.1 x.2
@[go_sem] theorem aLY:aAn (no_index (a1w O Z)) (no_index a1x)=some (a1y O Z):=qQ (fun⟨a0,a1⟩ ⟨b0,b1⟩ h1 h2=>by cases h1;cases h2;rfl) (O,Z)
end
@[go_sem] abbrev aAo:Nat×pY:=(136,⟨[.v,.v],aAn,[],[],none⟩)
theorem a1z:qB Tryz.prog [] (pZ [a0d]):=⟨trivial,pK a9y qS,qD⟩
theorem aG8:qH Tryz.prog aAo:=by
 refine qR a1z Tryz.func136 (c:=_) rfl (N:=8) (by kernel_rfl) (ts:=[(4,none)]) rfl (fun _ _=>rfl) ?_;intro⟨O,Z⟩ hs hrow;dsimp only[a1w,a1x,a1y,qI,pG,pN,qE,qK,Nat.reduceAdd] at hs hrow⊢;have hz:=hs;obtain⟨z0,hC0⟩:=aMM.1 hz
 try rw[rG hC0]
 clear hz hs;unfold IH at hC0;refine oY a1z ?_;obtain⟨aA,hv1,hw1,hC0⟩:=pV hC0
 try simp only[go_sem] at hw1
 refine oY a1z ?_ (hp:=by exact(pU hv1)) (h:=by simp only[go_sem,hw1];rfl);refine pH ?_;cases hC0;exact⟨[],by rfl,by rfl,by rfl⟩
attribute [irreducible] IH
def II (O:(List UInt8)) (Z:(List UInt8)):Option ((List UInt8)×Bool):=(KL O Z).bind fun aA=>some ((aA.1,aA.2))
section
variable (O:(List UInt8)) (Z:(List UInt8))
abbrev a1A:List oZ:=[(.val .str O,none),(.val .str Z,none)]
abbrev a1B:List oX:=[]
@[go_sem] def a1C:pD:=⟨[((II O Z)).isSome=true],[(.val .str ((val (II O Z)).1),none),(.val .bool ((val (II O Z)).2),none)],[]⟩
def aAp:List oZ→List oX→Option pD:=qM (V:=((List UInt8)×(List UInt8))) (fun x=>a1A x.1 x.2) (fun x=>a1B) fun x=>a1C x.1 x.2
@[go_sem] theorem aLZ:aAp (no_index (a1A O Z)) (no_index a1B)=some (a1C O Z):=qQ (fun⟨a0,a1⟩ ⟨b0,b1⟩ h1 h2=>by cases h1;cases h2;rfl) (O,Z)
end
@[go_sem] abbrev aAq:Nat×pY:=(137,⟨[.v,.v],aAp,[],[],none⟩)
theorem a1D:qB Tryz.prog [] (pZ [a9C]):=⟨trivial,pK aGO qS,qD⟩
theorem aG9:qH Tryz.prog aAq:=by
 refine qR a1D Tryz.func137 (c:=_) rfl (N:=11) (by kernel_rfl) (ts:=[(4,none),(5,none)]) rfl (fun _ _=>rfl) ?_;intro⟨O,Z⟩ hs hrow;dsimp only[a1A,a1B,a1C,qI,pG,pN,qE,qK,Nat.reduceAdd] at hs hrow⊢;have hz:=hs;obtain⟨z0,hC0⟩:=aMM.1 hz
 try rw[rG hC0]
 clear hz hs;unfold II at hC0;refine oY a1D ?_;obtain⟨aA,hv1,hw1,hC0⟩:=pV hC0
 try simp only[go_sem] at hw1
 refine oY a1D ?_ (hp:=by exact(pU hv1)) (h:=by simp only[go_sem,hw1];rfl);refine pH ?_;cases hC0;exact⟨[],by rfl,by rfl,by rfl⟩
attribute [irreducible] II
def aAr (O:Int) (Z:(List UInt8)) (aA:Int):Int→Option (Int⊕(Unit⊕Int)):=fun aB=>if (decide (aB<(Z.length:Int)))=true then if 0≤aB∧aB<(Z.length:Int) then if (decide ((pI Z aB)=aA))=true then some (.inr (.inr (aB))) else if (((!decide (O=(4:Int)))==true)=true→0≤aB∧aB<(Z.length:Int)) then if ((!decide (O=(4:Int)))&&(decide ((pI Z aB)=(92:Int))))=true then if p8 (aB+(1:Int)) then if p8 ((aB+(1:Int))+(1:Int)) then some (.inl ((aB+(1:Int))+(1:Int))) else none else none else if p8 (aB+(1:Int)) then some (.inl (aB+(1:Int))) else none else none else none else some (.inr (.inl ()))
def IJ (O:Int) (Z:(List UInt8)) (aA:Int):Option Int:=if (!((decide ((1:Int)≤O))&&(decide (O≤(4:Int)))))=true then some ((-1:Int)) else s5 (pR (aAr O Z aA) (0:Int)) fun _=>some ((-1:Int))
section
variable (O:Int) (Z:(List UInt8)) (aA:Int)
abbrev a1E:List oZ:=[(.val (.int .i64) O,none),(.val .str Z,none),(.val (.int .u8) aA,none)]
abbrev a1F:List oX:=[]
@[go_sem] def a1G:pD:=⟨[((IJ O Z aA)).isSome=true],[(.val (.int .i64) (val (IJ O Z aA)),none)],[]⟩
def aAs:List oZ→List oX→Option pD:=qM (V:=(Int×(List UInt8)×Int)) (fun x=>a1E x.1 x.2.1 x.2.2) (fun x=>a1F) fun x=>a1G x.1 x.2.1 x.2.2
@[go_sem] theorem aL0:aAs (no_index (a1E O Z aA)) (no_index a1F)=some (a1G O Z aA):=qQ (fun⟨a0,a1,a2⟩ ⟨b0,b1,b2⟩ h1 h2=>by cases h1;cases h2;rfl) (O,Z,aA)
end
@[go_sem] abbrev aAt:Nat×pY:=(139,⟨[.v,.v,.v],aAs,[],[],none⟩)
theorem BB:qB Tryz.prog [s7] (pZ [ZJ]):=⟨⟨sB,trivial⟩,pK a9o qS,qD⟩
theorem aHa:qH Tryz.prog aAt:=by
 refine qR BB Tryz.func139 (c:=_) rfl (N:=33) (by kernel_rfl) (ts:=[(6,none)]) rfl (fun _ _=>rfl) ?_;intro⟨O,Z,aA⟩ hs hrow;dsimp only[a1E,a1F,a1G,qI,pG,pN,qE,qK,Nat.reduceAdd] at hs hrow⊢;have hz:=hs;obtain⟨z0,hC0⟩:=aMM.1 hz
 try rw[rG hC0]
 clear hz hs;unfold IJ at hC0;refine oY BB ?_;refine pX ?_;refine oY BB ?_;refine pP hC0 (fun hC0 hc1=> ?_) (fun hC0 hc1=> ?_)
 ·refine oY BB ?_;refine pH (rI ?_);cases hC0;exact⟨[],by rfl,by rfl,by rfl⟩
 ·refine qJ (pM (pX ?_));refine oY BB ?_;refine rR ?_;obtain⟨y1,hy1,hC0⟩:=yW hC0;refine wN 0 (fun s=> ∃v,y1= .inl v∧s=(fun _=>⟨[],[],0,33,0⟩) v) ?_ ?_
  ·refine wM hy1 (fun x=>⟨[(0,(.val (.int .i64) O,none)),(1,(.val .str Z,none)),(2,(.val (.int .u8) aA,none)),(7,(.val (.int .i64) x,none))],[],0,33,0⟩) ⟨[0,1,2,7],[]⟩ (by rfl) ?_;intro aB w1 n1 hC1 hN1;unfold aAr at hC1;dsimp only at hC1⊢;refine pX ?_;refine oY BB ?_;refine pP hC1 (fun hC1 hc2=> ?_) (fun hC1 hc2=> ?_)
   ·refine qJ (pM (pX (rR (pX ?_))));obtain⟨hg1,hC1⟩:=pJ hC1;refine oY BB ?_ (hp:=by exact hg1);refine pP hC1 (fun hC1 hc3=> ?_) (fun hC1 hc3=> ?_)
    ·refine oY BB ?_;refine pH (rI (rS (rI (yV (yU (rS (rI ?_)))))));cases hC1;cases hN1;dsimp only at hC0;cases hC0;exact⟨[],by rfl,by rfl,by rfl⟩
    ·refine qJ (pM ?_);obtain⟨hg2,hC1⟩:=pJ hC1;refine oY BB ?_ (hp:=by exact⟨fun hh=>hh,fun hh=>hh,hg2,fun hh=>hh,(fun hh=>sG hh)⟩);refine pP hC1 (fun hC1 hc4=> ?_) (fun hC1 hc4=> ?_)
     ·obtain⟨hg3,hC1⟩:=pJ hC1;refine qY BB ?_ (hp:=by exact hg3);refine qV (pM ?_);obtain⟨hg4,hC1⟩:=pJ hC1;refine qY BB ?_ (hp:=by exact hg4);cases hC1;exact tO ⟨⟨[0,1,2,7],[]⟩,_,by rfl,hN1⟩
     ·refine qJ (qV (pM ?_));obtain⟨hg5,hC1⟩:=pJ hC1;refine qY BB ?_ (hp:=by exact hg5);cases hC1;exact tO ⟨⟨[0,1,2,7],[]⟩,_,by rfl,hN1⟩
   ·refine vW (wC (vY ?_));cases hC1;cases hN1;exact vX ⟨⟨[],[]⟩,_,rfl,by rfl⟩
  ·rintro _ ⟨v,rfl,rfl⟩;dsimp only at hC0⊢;refine wL (pM ?_);refine oY BB ?_;refine pH ?_;cases hC0;exact⟨[],by rfl,by rfl,by rfl⟩
attribute [irreducible] IJ
def KW (O:(List UInt8)):Option Unit:=if (((decide ((O.length:Int)≤(4000:Int)))==true)=true→((NB O)).isSome=true) then some (()) else none
section
variable (O:(List UInt8))
abbrev a1H:List oZ:=[(.val .str O,none)]
abbrev a1I:List oX:=[]
@[go_sem] def a1J:pD:=⟨[((KW O)).isSome=true],[(.val .bool ((decide ((O.length:Int)≤(4000:Int)))&&(Lib.validD O)),none)],[]⟩
def aAu:List oZ→List oX→Option pD:=qM (V:=(List UInt8)) (fun x=>a1H x) (fun x=>a1I) fun x=>a1J x
@[go_sem] theorem aL1:aAu (no_index (a1H O)) (no_index a1I)=some (a1J O):=qQ (fun a0 b0 h1 h2=>by cases h1;cases h2;rfl) O
end
@[go_sem] abbrev aAv:Nat×pY:=(161,⟨[.v],aAu,[],[],none⟩)
theorem a1K:qB Tryz.prog [s7] (pZ [a9A]):=⟨⟨sB,trivial⟩,pK aGN qS,qD⟩
theorem aHb:qH Tryz.prog aAv:=by
 refine qR a1K Tryz.func161 (c:=_) rfl (N:=10) (by kernel_rfl) (ts:=[(2,none)]) rfl (fun _ _=>rfl) ?_;intro O hs hrow;dsimp only[a1H,a1I,a1J,qI,pG,pN,qE,qK,Nat.reduceAdd] at hs hrow⊢;have hz:=hs;obtain⟨z0,hC0⟩:=aMM.1 hz
 try rw[rG hC0]
 clear hz hs;unfold KW at hC0;refine oY a1K ?_;obtain⟨hg1,hC0⟩:=pJ hC0;refine oY a1K ?_ (hp:=by exact⟨fun hh=>hh,hg1,(fun hh=>sG hh)⟩);refine pH ?_;cases hC0;exact⟨[],by rfl,by rfl,by rfl⟩
attribute [irreducible] KW
def NP (O:(List Int)):((List UInt8)×Int)→Option (((List UInt8)×Int)⊕(List UInt8)):=fun(Z,aA)=>if (decide (aA<(O.length:Int)))=true then if 0≤aA∧aA<(O.length:Int) then if (((decide ((0:Int)≤(qG (.int .i64) O aA)))&&(decide ((qG (.int .i64) O aA)≤(1114111:Int))))&&((decide ((qG (.int .i64) O aA)<(55296:Int)))||(decide ((57343:Int)<(qG (.int .i64) O aA)))))=true then if 0≤aA∧aA<(O.length:Int) then (CT (qG (.int .i64) O aA)).bind fun aB=>if ((Z++aB).length:Int)≤9223372036854775807 then if p8 (aA+(1:Int)) then some (.inl ((Z++aB),(aA+(1:Int)))) else none else none else none else (CT (65533:Int)).bind fun aC=>if ((Z++aC).length:Int)≤9223372036854775807 then if p8 (aA+(1:Int)) then some (.inl ((Z++aC),(aA+(1:Int)))) else none else none else none else some (.inr Z)
def SF (O:(List Int)):Option (List UInt8):=rE (pR (NP O) (([]:List UInt8),(0:Int))) fun Z=>some (Z)
attribute [irreducible] SF
def F5 (O:(List (List UInt8))) (Z:(List UInt8)):Option Bool:=(BA O Z).bind fun aA=>some ((decide ((0:Int)≤aA)))
section
variable (O:(List (List UInt8))) (Z:(List UInt8))
abbrev a1L:List oZ:=[(.val (.list .str) O,none),(.val .str Z,none)]
abbrev a1M:List oX:=[]
@[go_sem] def a1N:pD:=⟨[((F5 O Z)).isSome=true],[(.val .bool (val (F5 O Z)),none)],[]⟩
def aAw:List oZ→List oX→Option pD:=qM (V:=((List (List UInt8))×(List UInt8))) (fun x=>a1L x.1 x.2) (fun x=>a1M) fun x=>a1N x.1 x.2
@[go_sem] theorem aL2:aAw (no_index (a1L O Z)) (no_index a1M)=some (a1N O Z):=qQ (fun⟨a0,a1⟩ ⟨b0,b1⟩ h1 h2=>by cases h1;cases h2;rfl) (O,Z)
end
@[go_sem] abbrev SG:Nat×pY:=(186,⟨[.v,.v],aAw,[],[],none⟩)
theorem a1O:qB Tryz.prog [] (pZ [S3]):=⟨trivial,pK a9E qS,qD⟩
theorem aAx:qH Tryz.prog SG:=by
 refine qR a1O Tryz.func186 (c:=_) rfl (N:=9) (by kernel_rfl) (ts:=[(4,none)]) rfl (fun _ _=>rfl) ?_;intro⟨O,Z⟩ hs hrow;dsimp only[a1L,a1M,a1N,qI,pG,pN,qE,qK,Nat.reduceAdd] at hs hrow⊢;have hz:=hs;obtain⟨z0,hC0⟩:=aMM.1 hz
 try rw[rG hC0]
 clear hz hs;unfold F5 at hC0;refine oY a1O ?_;obtain⟨aA,hv1,hw1,hC0⟩:=pV hC0
 try simp only[go_sem] at hw1
 refine oY a1O ?_ (hp:=by exact(pU hv1)) (h:=by simp only[go_sem,hw1];rfl);refine pH ?_;cases hC0;exact⟨[],by rfl,by rfl,by rfl⟩
attribute [irreducible] F5
end
noncomputable section
def NQ:((List UInt8)×(List Int))→Option (((List UInt8)×(List Int))⊕(List Int)):=fun(O,Z)=>if (decide ((0:Int)<(O.length:Int)))=true then (S5 O).bind fun aA=>if (Z.length+([aA.1]:List Int).length)*8≤140737488355328 then if 0≤aA.2∧aA.2≤(O.length:Int)∧(O.length:Int)≤(O.length:Int) then some (.inl ((pE O aA.2 (O.length:Int)),(Z++([aA.1]:List Int)))) else none else none else some (.inr Z)
def SH (O:(List UInt8)):Option (List Int):=rE (pR NQ (O,([]:List Int))) fun Z=>some (Z)
attribute [irreducible] SH
def F6 (O:(List pL)) (Z:(List UInt8)):Option Int:=(KQ O Z).bind fun aA=>some (aA)
section
variable (O:(List pL)) (Z:(List UInt8))
abbrev a1P:List oZ:=[(.val (.list (.pair .str (.pair .str .unit))) O,none),(.val .str Z,none)]
abbrev a1Q:List oX:=[]
@[go_sem] def a1R:pD:=⟨[((F6 O Z)).isSome=true],[(.val (.int .i64) (val (F6 O Z)),none)],[]⟩
def aAy:List oZ→List oX→Option pD:=qM (V:=((List pL)×(List UInt8))) (fun x=>a1P x.1 x.2) (fun x=>a1Q) fun x=>a1R x.1 x.2
@[go_sem] theorem aL3:aAy (no_index (a1P O Z)) (no_index a1Q)=some (a1R O Z):=qQ (fun⟨a0,a1⟩ ⟨b0,b1⟩ h1 h2=>by cases h1;cases h2;rfl) (O,Z)
end
@[go_sem] abbrev a1S:Nat×pY:=(237,⟨[.v,.v],aAy,[],[],none⟩)
theorem a1T:qB Tryz.prog [s7] (pZ [a92]):=⟨⟨sB,trivial⟩,pK aGX qS,qD⟩
theorem aAz:qH Tryz.prog a1S:=by
 refine qR a1T Tryz.func237 (c:=_) rfl (N:=8) (by kernel_rfl) (ts:=[(4,none)]) rfl (fun _ _=>rfl) ?_;intro⟨O,Z⟩ hs hrow;dsimp only[a1P,a1Q,a1R,qI,pG,pN,qE,qK,Nat.reduceAdd] at hs hrow⊢;have hz:=hs;obtain⟨z0,hC0⟩:=aMM.1 hz
 try rw[rG hC0]
 clear hz hs;unfold F6 at hC0;refine oY a1T ?_;obtain⟨aA,hv1,hw1,hC0⟩:=pV hC0
 try simp only[go_sem] at hw1
 refine oY a1T ?_ (hp:=by exact⟨by first|rfl|trivial,(pU hv1)⟩) (h:=by simp only[go_sem,hw1];rfl)
 refine pH ?_;cases hC0;exact⟨[],by rfl,by rfl,by rfl⟩
attribute [irreducible] F6
def GI (O:(List pL)) (Z:(List UInt8)):Option ((List UInt8)×Bool):=(F6 O Z).bind fun aA=>if (decide (aA<(0:Int)))=true then some ((([]:List UInt8),false)) else if 0≤aA∧aA<(O.length:Int) then some (((qG (.pair .str (.pair .str .unit)) O aA).2.1,true)) else none
section
variable (O:(List pL)) (Z:(List UInt8))
abbrev a1U:List oZ:=[(.val (.list (.pair .str (.pair .str .unit))) O,none),(.val .str Z,none)]
abbrev a1V:List oX:=[]
@[go_sem] def a1W:pD:=⟨[((GI O Z)).isSome=true],[(.val .str ((val (GI O Z)).1),none),(.val .bool ((val (GI O Z)).2),none)],[]⟩
def aAA:List oZ→List oX→Option pD:=qM (V:=((List pL)×(List UInt8))) (fun x=>a1U x.1 x.2) (fun x=>a1V) fun x=>a1W x.1 x.2
@[go_sem] theorem aL4:aAA (no_index (a1U O Z)) (no_index a1V)=some (a1W O Z):=qQ (fun⟨a0,a1⟩ ⟨b0,b1⟩ h1 h2=>by cases h1;cases h2;rfl) (O,Z)
end
@[go_sem] abbrev a1X:Nat×pY:=(255,⟨[.v,.v],aAA,[],[],none⟩)
theorem KX:qB Tryz.prog [s7,CP,EV] (pZ [a1S]):=⟨⟨sB,⟨EU,⟨I7,trivial⟩⟩⟩,pK aAz qS,qD⟩
theorem aHc:qH Tryz.prog a1X:=by
 refine qR KX Tryz.func255 (c:=_) rfl (N:=17) (by kernel_rfl) (ts:=[(4,none),(5,none)]) rfl (fun _ _=>rfl) ?_;intro⟨O,Z⟩ hs hrow;dsimp only[a1U,a1V,a1W,qI,pG,pN,qE,qK,Nat.reduceAdd] at hs hrow⊢;have hz:=hs;obtain⟨z0,hC0⟩:=aMM.1 hz
 try rw[rG hC0]
 clear hz hs;unfold GI at hC0;refine oY KX ?_;obtain⟨aA,hv1,hw1,hC0⟩:=pV hC0
 try simp only[go_sem] at hw1
 refine oY KX ?_ (hp:=by exact(pU hv1)) (h:=by simp only[go_sem,hw1];rfl);refine pX ?_;refine oY KX ?_;refine pP hC0 (fun hC0 hc1=> ?_) (fun hC0 hc1=> ?_)
 ·refine oY KX ?_;refine pH (rI ?_);cases hC0;exact⟨[],by rfl,by rfl,by rfl⟩
 ·refine qJ (pM ?_);obtain⟨hg2,hC0⟩:=pJ hC0;refine oY KX ?_ (hp:=by exact hg2);refine pH ?_;cases hC0;exact⟨[],by rfl,by rfl,by rfl⟩
attribute [irreducible] GI
def GJ (O:(List UInt8)):Option Bool:=(F5 ([([110,101,119]:List UInt8),([102,117,122,122,121]:List UInt8),([116,114,97,110,115,108,97,116,101,100]:List UInt8),([114,101,118,105,101,119,101,100]:List UInt8),([111,98,115,111,108,101,116,101]:List UInt8)]:List (List UInt8)) O).bind fun Z=>some (Z)
section
variable (O:(List UInt8))
abbrev a1Y:List oZ:=[(.val .str O,none)]
abbrev a1Z:List oX:=[]
@[go_sem] def a2a:pD:=⟨[((GJ O)).isSome=true],[(.val .bool (val (GJ O)),none)],[]⟩
def aAB:List oZ→List oX→Option pD:=qM (V:=(List UInt8)) (fun x=>a1Y x) (fun x=>a1Z) fun x=>a2a x
@[go_sem] theorem aL5:aAB (no_index (a1Y O)) (no_index a1Z)=some (a2a O):=qQ (fun a0 b0 h1 h2=>by cases h1;cases h2;rfl) O
end
@[go_sem] abbrev aAC:Nat×pY:=(257,⟨[.v],aAB,[],[],none⟩)
theorem a2b:qB Tryz.prog [] (pZ [RW,SG]):=⟨trivial,pK a87 (pK aAx qS),qD⟩
theorem aHd:qH Tryz.prog aAC:=by
 refine qR a2b Tryz.func257 (c:=_) rfl (N:=6) (by kernel_rfl) (ts:=[(2,none)]) rfl (fun _ _=>rfl) ?_;intro O hs hrow;dsimp only[a1Y,a1Z,a2a,qI,pG,pN,qE,qK,Nat.reduceAdd] at hs hrow⊢;have hz:=hs;obtain⟨z0,hC0⟩:=aMM.1 hz
 try rw[rG hC0]
 clear hz hs;unfold GJ at hC0;refine oY a2b ?_;obtain⟨Z,hv1,hw1,hC0⟩:=pV hC0
 try simp only[go_sem] at hw1
 refine oY a2b ?_ (hp:=by exact(pU hv1)) (h:=by simp only[go_sem,hw1];rfl);refine pH ?_;cases hC0;exact⟨[],by rfl,by rfl,by rfl⟩
attribute [irreducible] GJ
def KY (O:(List UInt8)) (Z:(List UInt8)) (aA:(List UInt8)) (aB:(List UInt8)) (aC:(List (List UInt8))) (aD:(Int×((List pL)×Unit))) (aE:Bool) (aF:(List (List UInt8))) (aG:(List ((List UInt8)×Bool))):Option Bool:=(F5 aF O).bind fun aH=>some (aH)
section
variable (O:(List UInt8)) (Z:(List UInt8)) (aA:(List UInt8)) (aB:(List UInt8)) (aC:(List (List UInt8))) (aD:Nat) (aE:(Int×((List pL)×Unit))) (aF:Bool) (aG:Nat) (aH:Nat) (aI:(List (List UInt8))) (aJ:Nat) (aK:(List ((List UInt8)×Bool)))
abbrev a2c:List oZ:=[(.val .str O,none),(.val .ref (some (0,0)),none)]
abbrev a2d:List oX:=[.cells .ref (some (1,0)) [],.cells sH ((Z,(aA,(aB,(aC,((some (4,aD)),aE))))),(aF,((some 5),()))) [(3,2),(6,3)],.grow 9 1 aG,.grow 149 2 aH,.row 9 .str aI aJ,.map .str .bool aK]
@[go_sem] def a2e:pD:=⟨[aG=(aC.length),aH=(aE.2.1.length),aD=aJ,((KY O Z aA aB aC aE aF aI aK)).isSome=true],[(.val .bool (val (KY O Z aA aB aC aE aF aI aK)),none)],[.cells .ref (some (1,0)) [],.cells sH ((Z,(aA,(aB,(aC,((some (4,(aI.length))),(aE.1,(aE.2.1,()))))))),(aF,((some 5),()))) [(3,2),(6,3)],.grow 9 1 (aC.length),.grow 149 2 (aE.2.1.length),.row 9 .str aI (aI.length),.map .str .bool aK]⟩
def aAD:List oZ→List oX→Option pD:=qM (V:=((List UInt8)×(List UInt8)×(List UInt8)×(List UInt8)×(List (List UInt8))×Nat×(Int×((List pL)×Unit))×Bool×Nat×Nat×(List (List UInt8))×Nat×(List ((List UInt8)×Bool)))) (fun x=>a2c x.1) (fun x=>a2d x.2.1 x.2.2.1 x.2.2.2.1 x.2.2.2.2.1 x.2.2.2.2.2.1 x.2.2.2.2.2.2.1 x.2.2.2.2.2.2.2.1 x.2.2.2.2.2.2.2.2.1 x.2.2.2.2.2.2.2.2.2.1 x.2.2.2.2.2.2.2.2.2.2.1 x.2.2.2.2.2.2.2.2.2.2.2.1 x.2.2.2.2.2.2.2.2.2.2.2.2) fun x=>a2e x.1 x.2.1 x.2.2.1 x.2.2.2.1 x.2.2.2.2.1 x.2.2.2.2.2.1 x.2.2.2.2.2.2.1 x.2.2.2.2.2.2.2.1 x.2.2.2.2.2.2.2.2.1 x.2.2.2.2.2.2.2.2.2.1 x.2.2.2.2.2.2.2.2.2.2.1 x.2.2.2.2.2.2.2.2.2.2.2.1 x.2.2.2.2.2.2.2.2.2.2.2.2
@[go_sem] theorem aL6:aAD (no_index (a2c O)) (no_index (a2d Z aA aB aC aD aE aF aG aH aI aJ aK))=some (a2e O Z aA aB aC aD aE aF aG aH aI aJ aK):=qQ (fun⟨a0,a1,a2,a3,a4,a5,a6,a7,a8,a9,a10,a11,a12⟩ ⟨b0,b1,b2,b3,b4,b5,b6,b7,b8,b9,b10,b11,b12⟩ h1 h2=>by cases h1;cases h2;rfl) (O,Z,aA,aB,aC,aD,aE,aF,aG,aH,aI,aJ,aK)
end
@[go_sem] abbrev a2f:Nat×pY:=(258,⟨[.v,.p .ref []],aAD,[(0,0,.p sH [3,6]),(1,4,.r),(1,8,.m)],[0,1,2,3,4,5],none⟩)
theorem aAE:qB Tryz.prog [] (pZ [SG]):=⟨trivial,pK aAx qS,qD⟩
theorem aAF:qB Tryz.prog [zR,CR,KD,B9] (pZ [SG]):=⟨⟨B8,⟨EX,⟨RO,⟨CQ,trivial⟩⟩⟩⟩,aAE.Γ,qD⟩
theorem aHe:qH Tryz.prog a2f:=by
 refine qR aAE Tryz.func258 (c:=_) rfl (N:=11) (by kernel_rfl) (ts:=[(3,none)]) rfl (fun _ _=>rfl) ?_;intro⟨O,Z,aA,aB,aC,aD,aE,aF,aG,aH,aI,aJ,aK⟩ hs hrow;dsimp only[a2c,a2d,a2e,qI,pG,pN,qE,qK,Nat.reduceAdd] at hs hrow⊢;obtain⟨rfl,rfl,rfl,hz⟩:=hs;obtain⟨rfl,_⟩:=hrow;obtain⟨z0,hC0⟩:=aMM.1 hz
 try rw[rG hC0]
 clear hz;unfold KY at hC0;refine oY aAF ?_;obtain⟨aL,hv1,hw1,hC0⟩:=pV hC0
 try simp only[go_sem] at hw1
 refine oY aAF ?_ (hp:=by exact⟨fun _=>by first|exact rfl|exact trivial,(pU hv1)⟩) (h:=by simp only[go_sem,hw1];rfl)
 refine pH ?_;cases hC0;exact⟨[(0,0),(1,1),(2,2),(3,3),(4,4),(5,5)],by rfl,by rfl,by rfl⟩
attribute [irreducible] KY
def NR (O:(List UInt8)) (Z:Int):(Int×Int)→Option ((Int×Int)⊕(Int⊕Int)):=fun(aA,aB)=>if (decide (aB<(O.length:Int)))=true then if 0≤aB∧aB<(O.length:Int) then (S8 (pI O aB) Z).bind fun aC=>if (decide (aC<(0:Int)))=true then some (.inr (.inr ((-1:Int)))) else if p8 (Z*aA) then if p8 ((Z*aA)+aC) then if p8 (aB+(1:Int)) then some (.inl (((Z*aA)+aC),(aB+(1:Int)))) else none else none else none else none else some (.inr (.inl aA))
def IK (O:(List UInt8)) (Z:Int):Option Int:=s5 (pR (NR O Z) ((0:Int),(0:Int))) fun aA=>if (decide (O=([]:List UInt8)))=true then some ((-1:Int)) else some (aA)
attribute [irreducible] IK
def GK (O:(List Int)) (Z:Int):Option (List Int):=if (decide ((IntKind.wrap .u32 Z)≤(127:Int)))=true then if (O.length+([(IntKind.wrap .u8 Z)]:List Int).length)*1≤140737488355328 then some ((O++([(IntKind.wrap .u8 Z)]:List Int))) else none else (IC O Z).bind fun aA=>some (aA)
section
variable (O:(List Int)) (Z:Int) (aA:Nat)
abbrev a2g:List oZ:=[(.val (.list (.int .u8)) O,some 0),(.val (.int .i32) Z,none)]
abbrev a2h:List oX:=[.grow 5 1 aA]
@[go_sem] def a2i:pD:=⟨[aA=(O.length),((GK O Z)).isSome=true],[(.val (.list (.int .u8)) (val (GK O Z)),some 0)],[.grow 5 1 ((val (GK O Z)).length)]⟩
def aAG:List oZ→List oX→Option pD:=qM (V:=((List Int)×Int×Nat)) (fun x=>a2g x.1 x.2.1) (fun x=>a2h x.2.2) fun x=>a2i x.1 x.2.1 x.2.2
@[go_sem] theorem aL7:aAG (no_index (a2g O Z)) (no_index (a2h aA))=some (a2i O Z aA):=qQ (fun⟨a0,a1,a2⟩ ⟨b0,b1,b2⟩ h1 h2=>by cases h1;cases h2;rfl) (O,Z,aA)
end
@[go_sem] abbrev aAH:Nat×pY:=(297,⟨[.own,.v],aAG,[],[],none⟩)
theorem NS:qB Tryz.prog [GA,KB,ET,RL] (pZ [a9Y]):=⟨⟨KA,⟨RG,⟨I6,⟨a8J,trivial⟩⟩⟩⟩,pK aGV qS,qD⟩
theorem aHf:qH Tryz.prog aAH:=by
 refine qR NS Tryz.func297 (c:=_) rfl (N:=16) (by kernel_rfl) (ts:=[(4,none)]) rfl (fun _ _=>rfl) ?_;intro⟨O,Z,aA⟩ hs hrow;dsimp only[a2g,a2h,a2i,qI,pG,pN,qE,qK,Nat.reduceAdd] at hs hrow⊢;obtain⟨rfl,hz⟩:=hs;obtain⟨z0,hC0⟩:=aMM.1 hz
 try rw[rG hC0]
 clear hz;unfold GK at hC0;refine oY NS ?_;refine pX ?_;refine oY NS ?_;refine pP hC0 (fun hC0 hc1=> ?_) (fun hC0 hc1=> ?_)
 ·obtain⟨hg1,hC0⟩:=pJ hC0;refine oY NS ?_ (hp:=by exact⟨by first|rfl|trivial,hg1⟩)
  refine pH (rI ?_);cases hC0;exact⟨[(0,0)],by rfl,by rfl,by rfl⟩
 ·refine qJ (pM ?_);obtain⟨aB,hv2,hw2,hC0⟩:=pV hC0
  try simp only[go_sem] at hw2
  refine oY NS ?_ (hp:=by exact⟨by first|rfl|trivial,(pU hv2)⟩) (h:=by simp only[go_sem,hw2];rfl)
  refine pH ?_;cases hC0;exact⟨[(0,0)],by rfl,by rfl,by rfl⟩
attribute [irreducible] GK
end
noncomputable section
def GL (O:(List pL)) (Z:(List UInt8)) (aA:(List UInt8)):Option (List pL):=(GE O).bind fun aB=>(F6 aB Z).bind fun aC=>if (decide ((0:Int)≤aC))=true then if 0≤aC∧aC<(((aB.length):Nat):Int) then some ((List.set aB (Int.toNat aC) ((qG (.pair .str (.pair .str .unit)) aB aC).1,(aA,(qG (.pair .str (.pair .str .unit)) aB aC).2.2)))) else none else (KR aB Z).bind fun aD=>if (decide (aD<(0:Int)))=true then if 0≤(((aB.length):Nat):Int)∧(((aB.length):Nat):Int)≤List.length aB then if (aB.length+([(Z,(aA,()))]:List pL).length)*32≤140737488355328 then some ((AI aB (((aB.length):Nat):Int) ([(Z,(aA,()))]:List pL))) else none else none else if 0≤aD∧aD≤List.length aB then if (aB.length+([(Z,(aA,()))]:List pL).length)*32≤140737488355328 then some ((AI aB aD ([(Z,(aA,()))]:List pL))) else none else none
section
variable (O:(List pL)) (Z:(List UInt8)) (aA:(List UInt8))
abbrev a2j:List oZ:=[(.val (.list (.pair .str (.pair .str .unit))) O,none),(.val .str Z,none),(.val .str aA,none)]
abbrev a2k:List oX:=[]
@[go_sem] def a2l:pD:=⟨[((GL O Z aA)).isSome=true],[(.val (.list (.pair .str (.pair .str .unit))) (val (GL O Z aA)),some 0)],[.grow 149 2 ((val (GL O Z aA)).length)]⟩
def aAI:List oZ→List oX→Option pD:=qM (V:=((List pL)×(List UInt8)×(List UInt8))) (fun x=>a2j x.1 x.2.1 x.2.2) (fun x=>a2k) fun x=>a2l x.1 x.2.1 x.2.2
@[go_sem] theorem aL8:aAI (no_index (a2j O Z aA)) (no_index a2k)=some (a2l O Z aA):=qQ (fun⟨a0,a1,a2⟩ ⟨b0,b1,b2⟩ h1 h2=>by cases h1;cases h2;rfl) (O,Z,aA)
end
@[go_sem] abbrev a2m:Nat×pY:=(194,⟨[.v,.v,.v],aAI,[],[],none⟩)
theorem BY:qB Tryz.prog [s7,RI,EV] (pZ [a90,a1S,a94,a8N]):=⟨⟨sB,⟨a8G,⟨I7,trivial⟩⟩⟩,pK aGW (pK aAz (pK aGY (pK aGD qS))),qD⟩
theorem aHg:qH Tryz.prog a2m:=by
 refine qR BY Tryz.func194 (c:=_) rfl (N:=37) (by kernel_rfl) (ts:=[(6,none)]) rfl (fun _ _=>rfl) ?_;intro⟨O,Z,aA⟩ hs hrow;dsimp only[a2j,a2k,a2l,qI,pG,pN,qE,qK,Nat.reduceAdd] at hs hrow⊢;have hz:=hs;obtain⟨z0,hC0⟩:=aMM.1 hz
 try rw[rG hC0]
 clear hz hs;unfold GL at hC0;refine oY BY ?_;obtain⟨aB,hv1,hw1,hC0⟩:=pV hC0
 try simp only[go_sem] at hw1
 refine oY BY ?_ (hp:=by exact(pU hv1)) (h:=by simp only[go_sem,hw1];rfl);refine pX ?_;obtain⟨aC,hv2,hw2,hC0⟩:=pV hC0
 try simp only[go_sem] at hw2
 refine oY BY ?_ (hp:=by exact⟨fun _=>by first|exact rfl|exact trivial,(pU hv2)⟩) (h:=by simp only[go_sem,hw2];rfl)
 refine oY BY ?_;refine pP hC0 (fun hC0 hc1=> ?_) (fun hC0 hc1=> ?_)
 ·obtain⟨hg3,hC0⟩:=pJ hC0;refine oY BY ?_ (hp:=by exact⟨hg3,(by first|rfl|trivial)⟩)
  refine oY BY ?_;refine XD 96 rfl (by repeat' (first|exact trivial|apply And.intro|exact(fun _=>rfl) |exact(fun h=>absurd h (by decide)))) ?_
  refine pH (rI ?_);cases hC0;exact⟨[(0,96)],by rfl,by rfl,by rfl⟩
 ·refine qJ (pM ?_);obtain⟨aD,hv4,hw4,hC0⟩:=pV hC0
  try simp only[go_sem] at hw4
  refine oY BY ?_ (hp:=by exact⟨by first|rfl|trivial,fun _=>by first|exact rfl|exact trivial,(pU hv4)⟩) (h:=by simp only[go_sem,hw4];rfl)
  refine pX ?_;refine oY BY ?_;refine pP hC0 (fun hC0 hc2=> ?_) (fun hC0 hc2=> ?_)
  ·refine qY BY ?_;refine pM ?_;obtain⟨hg5,hC0⟩:=pJ hC0;obtain⟨hg6,hC0⟩:=pJ hC0;refine oY BY ?_ (hp:=by exact⟨by first|rfl|trivial,hg5,hg6⟩)
   refine a75 ⟨[0,1,2,4,6,10,13,14,8,15,16,24,25,9,26,27,29,31,32,33,34,35,36],[(0,0),(32,32),(96,96),(800,800)]⟩ ?_;simp only[go_sem,Nat.max_def];refine XD 96 rfl (by repeat' (first|exact trivial|apply And.intro|exact(fun _=>rfl) |exact(fun h=>absurd h (by decide)))) ?_
   refine pH ?_;cases hC0;exact⟨[(0,96)],by rfl,by rfl,by rfl⟩
  ·refine qJ (pM ?_);obtain⟨hg7,hC0⟩:=pJ hC0;obtain⟨hg8,hC0⟩:=pJ hC0;refine oY BY ?_ (hp:=by exact⟨by first|rfl|trivial,hg7,hg8⟩)
   refine a75 ⟨[0,1,2,4,6,10,13,14,8,15,16,24,25,9,26,27,31,32,33,34,35,36],[(0,0),(32,32),(96,96),(704,704)]⟩ ?_;simp only[go_sem,Nat.max_def];refine XD 96 rfl (by repeat' (first|exact trivial|apply And.intro|exact(fun _=>rfl) |exact(fun h=>absurd h (by decide)))) ?_
   refine pH ?_;cases hC0;exact⟨[(0,96)],by rfl,by rfl,by rfl⟩
attribute [irreducible] GL
def IL (O:qZ) (Z:qZ):Option Unit:=(NL O Z).bind fun aA=>if (((((decide (O.1=Z.1))&&(val (v7 O.2.1 Z.2.1)))&&(val (y4 O.2.2.1 Z.2.2.1)))==true)=true→((BX O.2.2.2.1 Z.2.2.2.1)).isSome=true) then some (()) else none
section
variable (O:qZ) (Z:qZ)
abbrev a2n:List oZ:=[(.val I4 O,none),(.val I4 Z,none)]
abbrev a2o:List oX:=[]
@[go_sem] def a2p:pD:=⟨[((IL O Z)).isSome=true],[(.val .bool ((((decide (O.1=Z.1))&&(val (v7 O.2.1 Z.2.1)))&&(val (y4 O.2.2.1 Z.2.2.1)))&&(val (BX O.2.2.2.1 Z.2.2.2.1))),none)],[]⟩
def aAJ:List oZ→List oX→Option pD:=qM (V:=(qZ×qZ)) (fun x=>a2n x.1 x.2) (fun x=>a2o) fun x=>a2p x.1 x.2
@[go_sem] theorem aL9:aAJ (no_index (a2n O Z)) (no_index a2o)=some (a2p O Z):=qQ (fun⟨a0,a1⟩ ⟨b0,b1⟩ h1 h2=>by cases h1;cases h2;rfl) (O,Z)
end
@[go_sem] abbrev aAK:Nat×pY:=(18,⟨[.v,.v],aAJ,[],[],none⟩)
theorem a2q:qB Tryz.prog [K7,ES] (pZ [aAk,aAm]):=⟨⟨RF,⟨I5,trivial⟩⟩,pK aG6 (pK aG7 qS),qD⟩
theorem aHh:qH Tryz.prog aAK:=by
 refine qR a2q Tryz.func18 (c:=_) rfl (N:=15) (by kernel_rfl) (ts:=[(4,none)]) rfl (fun _ _=>rfl) ?_;intro⟨O,Z⟩ hs hrow;dsimp only[a2n,a2o,a2p,qI,pG,pN,qE,qK,Nat.reduceAdd] at hs hrow⊢;have hz:=hs;obtain⟨z0,hC0⟩:=aMM.1 hz
 try rw[rG hC0]
 clear hz hs;unfold IL at hC0;refine oY a2q ?_;obtain⟨aA,hv1,hw1,hC0⟩:=pV hC0
 try simp only[go_sem] at hw1
 obtain⟨hg2,hC0⟩:=pJ hC0;refine oY a2q ?_ (hp:=by exact⟨pU hv1,fun hh=>hh,fun hh=>hh,fun hh=>hh,fun hh=>hh,hg2,(fun hh=>sG hh)⟩) (h:=by simp only[go_sem,hw1];rfl);refine pH ?_;cases hC0;exact⟨[],by rfl,by rfl,by rfl⟩
attribute [irreducible] IL
def KZ (O:(List UInt8)):Option Bool:=(SH O).bind fun Z=>(SF Z).bind fun aA=>some ((decide (aA=O)))
attribute [irreducible] KZ
def F7 (O:((List UInt8)×(Int×Unit))):Int→Option (Int⊕(Int⊕(Bool×Int))):=fun Z=>if (decide (Z<(O.1.length:Int)))=true then if 0≤Z∧Z≤(O.1.length:Int)∧(O.1.length:Int)≤(O.1.length:Int) then if 0≤(0:Int)∧(0:Int)<((pE O.1 Z (O.1.length:Int)).length:Int) then if (decide ((0:Int)≤(tH ([32,9,10,13]:List UInt8) (pI (pE O.1 Z (O.1.length:Int)) (0:Int)))))=true then if p8 (Z+(1:Int)) then some (.inl (Z+(1:Int))) else none else (IH (pE O.1 Z (O.1.length:Int)) ([47,47]:List UInt8)).bind fun aA=>if ((decide ((([47,47]:List UInt8).length:Int)≤((pE O.1 Z (O.1.length:Int)).length:Int)))&&(decide ((pE (pE O.1 Z (O.1.length:Int)) (0:Int) (([47,47]:List UInt8).length:Int))=([47,47]:List UInt8))))=true then if (decide ((tH (pE O.1 Z (O.1.length:Int)) (10:Int))<(0:Int)))=true then if p8 (((pE O.1 Z (O.1.length:Int)).length:Int)- (1:Int)) then if p8 ((((pE O.1 Z (O.1.length:Int)).length:Int)- (1:Int))+(1:Int)) then if p8 (Z+((((pE O.1 Z (O.1.length:Int)).length:Int)- (1:Int))+(1:Int))) then some (.inl (Z+((((pE O.1 Z (O.1.length:Int)).length:Int)- (1:Int))+(1:Int)))) else none else none else none else if p8 ((tH (pE O.1 Z (O.1.length:Int)) (10:Int))+(1:Int)) then if p8 (Z+((tH (pE O.1 Z (O.1.length:Int)) (10:Int))+(1:Int))) then some (.inl (Z+((tH (pE O.1 Z (O.1.length:Int)) (10:Int))+(1:Int)))) else none else none else (IH (pE O.1 Z (O.1.length:Int)) ([47,42]:List UInt8)).bind fun aB=>if ((decide ((([47,42]:List UInt8).length:Int)≤((pE O.1 Z (O.1.length:Int)).length:Int)))&&(decide ((pE (pE O.1 Z (O.1.length:Int)) (0:Int) (([47,42]:List UInt8).length:Int))=([47,42]:List UInt8))))=true then if 0≤(2:Int)∧(2:Int)≤((pE O.1 Z (O.1.length:Int)).length:Int)∧((pE O.1 Z (O.1.length:Int)).length:Int)≤((pE O.1 Z (O.1.length:Int)).length:Int) then if List.length (pE (pE O.1 Z (O.1.length:Int)) (2:Int) ((pE O.1 Z (O.1.length:Int)).length:Int))<4294967281 then if (decide ((K3 (pE (pE O.1 Z (O.1.length:Int)) (2:Int) ((pE O.1 Z (O.1.length:Int)).length:Int)) ([42,47]:List UInt8))<(0:Int)))=true then some (.inr (.inr ((false,Z)))) else if p8 ((K3 (pE (pE O.1 Z (O.1.length:Int)) (2:Int) ((pE O.1 Z (O.1.length:Int)).length:Int)) ([42,47]:List UInt8))+(4:Int)) then if p8 (Z+((K3 (pE (pE O.1 Z (O.1.length:Int)) (2:Int) ((pE O.1 Z (O.1.length:Int)).length:Int)) ([42,47]:List UInt8))+(4:Int))) then some (.inl (Z+((K3 (pE (pE O.1 Z (O.1.length:Int)) (2:Int) ((pE O.1 Z (O.1.length:Int)).length:Int)) ([42,47]:List UInt8))+(4:Int)))) else none else none else none else none else some (.inr (.inl Z)) else none else none else some (.inr (.inl Z))
def GM (O:((List UInt8)×(Int×Unit))):Option (Bool×Int):=s5 (pR (F7 O) O.2.1) fun Z=>some ((true,Z))
section
variable (O:((List UInt8)×(Int×Unit)))
abbrev a2r:List oZ:=[(.val .ref (some (0,0)),none)]
abbrev a2s:List oX:=[.cells CO O []]
@[go_sem] def a2t:pD:=⟨[((GM O)).isSome=true],[(.val .bool ((val (GM O)).1),none)],[.cells CO (O.1,((val (GM O)).2,())) []]⟩
def aAL:List oZ→List oX→Option pD:=qM (V:=((List UInt8)×(Int×Unit))) (fun x=>a2r) (fun x=>a2s x) fun x=>a2t x
@[go_sem] theorem aMa:aAL (no_index a2r) (no_index (a2s O))=some (a2t O):=qQ (fun a0 b0 h1 h2=>by cases h1;cases h2;rfl) O
end
@[go_sem] abbrev aAM:Nat×pY:=(118,⟨[.p CO []],aAL,[],[],none⟩)
theorem xC:qB Tryz.prog [v6,s7,N6] (pZ [N7,aAo,a8M]):=⟨⟨vM,⟨sB,⟨XV,trivial⟩⟩⟩,pK RP (pK aG8 (pK aGC qS)),qD⟩
theorem aHi:qH Tryz.prog aAM:=by
 refine qR xC Tryz.func118 (c:=_) rfl (N:=73) (by kernel_rfl) (ts:=[(2,none)]) rfl (fun _ _=>rfl) ?_;intro O hs hrow;dsimp only[a2r,a2s,a2t,qI,pG,pN,qE,qK,Nat.reduceAdd] at hs hrow⊢;have hz:=hs;obtain⟨z0,hC0⟩:=aMM.1 hz
 try rw[rG hC0]
 clear hz hs;unfold GM at hC0;refine oY xC ?_;refine aFR (pX (aFP (pM (pX (rR ?_)))));obtain⟨y1,hy1,hC0⟩:=yW hC0;refine wN 0 (fun s=> ∃v,y1= .inl v∧s=(fun x=>⟨[],[(0,.cells CO (O.1,(x,())) [])],1,73,1⟩) v) ?_ ?_
 ·refine wM hy1 (fun x=>⟨[(0,(.val .ref (some (0,0)),none))],[(0,.cells CO (O.1,(x,())) [])],1,73,1⟩) ⟨[0],[(0,0)]⟩ (by rfl) ?_;intro Z w1 n1 hC1 hN1;unfold F7 at hC1;dsimp only at hC1⊢;refine pX ?_;refine AH xC ?_;refine pP hC1 (fun hC1 hc1=> ?_) (fun hC1 hc1=> ?_)
  ·refine qJ (pM (rR ?_));obtain⟨hg1,hC1⟩:=pJ hC1;refine AH xC ?_ (hp:=by exact hg1);refine rR ?_;obtain⟨hg2,hC1⟩:=pJ hC1;refine oY xC ?_ (hp:=by exact hg2);refine pP hC1 (fun hC1 hc2=> ?_) (fun hC1 hc2=> ?_)
   ·obtain⟨hg3,hC1⟩:=pJ hC1;refine qY xC ?_ (hp:=by exact hg3);refine qV (qV ?_);cases hC1;exact tO ⟨⟨[0],[(0,0)]⟩,_,by rfl,hN1⟩
   ·obtain⟨aA,hv4,hw4,hC1⟩:=pV hC1
    try simp only[go_sem] at hw4
    refine oY xC ?_ (hp:=by exact(pU hv4)) (h:=by simp only[go_sem,hw4];rfl);refine pP hC1 (fun hC1 hc3=> ?_) (fun hC1 hc3=> ?_)
    ·refine oY xC ?_;refine pX ?_;refine oY xC ?_;refine pP hC1 (fun hC1 hc4=> ?_) (fun hC1 hc4=> ?_)
     ·obtain⟨hg5,hC1⟩:=pJ hC1;refine qY xC ?_ (hp:=by exact hg5);refine pM ?_;obtain⟨hg6,hC1⟩:=pJ hC1;obtain⟨hg7,hC1⟩:=pJ hC1;refine qY xC ?_ (hp:=by exact⟨hg6,hg7⟩);refine qV (qV ?_);cases hC1;exact tO ⟨⟨[0],[(0,0)]⟩,_,by rfl,hN1⟩
     ·refine qJ (pM ?_);obtain⟨hg8,hC1⟩:=pJ hC1;obtain⟨hg9,hC1⟩:=pJ hC1;refine qY xC ?_ (hp:=by exact⟨hg8,hg9⟩);refine qV (qV ?_);cases hC1;exact tO ⟨⟨[0],[(0,0)]⟩,_,by rfl,hN1⟩
    ·obtain⟨aB,hv10,hw10,hC1⟩:=pV hC1
     try simp only[go_sem] at hw10
     refine oY xC ?_ (hp:=by exact(pU hv10)) (h:=by simp only[go_sem,hw10];rfl);refine pP hC1 (fun hC1 hc5=> ?_) (fun hC1 hc5=> ?_)
     ·obtain⟨hg11,hC1⟩:=pJ hC1;obtain⟨hg12,hC1⟩:=pJ hC1;refine oY xC ?_ (hp:=by exact⟨hg11,hg12⟩);refine pX ?_;refine oY xC ?_;refine pP hC1 (fun hC1 hc6=> ?_) (fun hC1 hc6=> ?_)
      ·refine oY xC ?_;refine pH (rI (rS (rS (yV (yU (rS (rI ?_)))))));cases hC1;cases hN1;dsimp only at hC0;cases hC0;exact⟨[(0,0)],by rfl,by rfl,by rfl⟩
      ·refine qJ (pM ?_);obtain⟨hg13,hC1⟩:=pJ hC1;obtain⟨hg14,hC1⟩:=pJ hC1;refine qY xC ?_ (hp:=by exact⟨hg13,hg14⟩);refine qV (qV ?_);cases hC1;exact tO ⟨⟨[0],[(0,0)]⟩,_,by rfl,hN1⟩
     ·refine vW (X8 (by decide) (X8 (by decide) (vY ?_)));cases hC1;cases hN1;exact vX ⟨⟨[],[(0,0)]⟩,_,rfl,by rfl⟩
  ·refine vW (wC (vY ?_));cases hC1;cases hN1;exact vX ⟨⟨[],[(0,0)]⟩,_,rfl,by rfl⟩
 ·rintro _ ⟨aC,rfl,rfl⟩;dsimp only at hC0⊢;refine wL (pM ?_);refine oY xC ?_;refine pH ?_;cases hC0;exact⟨[(0,0)],by rfl,by rfl,by rfl⟩
attribute [irreducible] GM
end
noncomputable section
def NT (O:(List UInt8)):Option ((List UInt8)×Int):=if (decide ((O.length:Int)<(2:Int)))=true then some ((([]:List UInt8),(0:Int))) else if 0≤(1:Int)∧(1:Int)<(O.length:Int) then if (decide ((pI O (1:Int))=(110:Int)))=true then some ((([10]:List UInt8),(2:Int))) else if (decide ((pI O (1:Int))=(114:Int)))=true then some ((([13]:List UInt8),(2:Int))) else if (decide ((pI O (1:Int))=(116:Int)))=true then some ((([9]:List UInt8),(2:Int))) else (KO (pI O (1:Int)) ([92,34,61,58,35,33,123,125,32]:List UInt8)).bind fun Z=>if Z=true then if 0≤(1:Int)∧(1:Int)≤(2:Int)∧(2:Int)≤(O.length:Int) then some (((pE O (1:Int) (2:Int)),(2:Int))) else none else if ((decide ((pI O (1:Int))=(120:Int)))&&(decide ((4:Int)≤(O.length:Int))))=true then if 0≤(2:Int)∧(2:Int)≤(4:Int)∧(4:Int)≤(O.length:Int) then (IK (pE O (2:Int) (4:Int)) (16:Int)).bind fun aA=>if ((decide ((0:Int)≤aA))&&(decide (aA≤(127:Int))))=true then some (((sD ([(IntKind.wrap .u8 aA)]:List Int)),(4:Int))) else some ((([]:List UInt8),(0:Int))) else none else if ((decide ((pI O (1:Int))=(117:Int)))&&(decide ((6:Int)≤(O.length:Int))))=true then if 0≤(2:Int)∧(2:Int)≤(6:Int)∧(6:Int)≤(O.length:Int) then (IK (pE O (2:Int) (6:Int)) (16:Int)).bind fun aB=>if ((decide ((0:Int)≤aB))&&(((decide ((0:Int)≤aB))&&(decide (aB≤(1114111:Int))))&&((decide (aB<(55296:Int)))||(decide ((57343:Int)<aB)))))=true then (CT aB).bind fun aC=>some ((aC,(6:Int))) else some ((([]:List UInt8),(0:Int))) else none else some ((([]:List UInt8),(0:Int))) else none
attribute [irreducible] NT
def aHj (O:(List UInt8)):Int→Option (Int⊕Int):=fun Z=>if ((((decide (Z<(O.length:Int)))&&(decide (Z<(12:Int))))==true)=true→0≤Z∧Z<(O.length:Int)) then if (((decide (Z<(O.length:Int)))&&(decide (Z<(12:Int))))&&(!decide ((pI O Z)=(59:Int))))=true then if p8 (Z+(1:Int)) then some (.inl (Z+(1:Int))) else none else some (.inr Z) else none
def aAN (O:(List UInt8)):Option ((List UInt8)×Int):=rE (pR (aHj O) (0:Int)) fun Z=>if (((decide (Z=(O.length:Int)))==false)=true→0≤Z∧Z<(O.length:Int)) then if ((decide (Z=(O.length:Int)))||(!decide ((pI O Z)=(59:Int))))=true then some ((([]:List UInt8),(0:Int))) else if 0≤(1:Int)∧(1:Int)≤Z∧Z≤(O.length:Int) then if (decide ((pE O (1:Int) Z)=([97,109,112]:List UInt8)))=true then if p8 (Z+(1:Int)) then some ((([38]:List UInt8),(Z+(1:Int)))) else none else if (decide ((pE O (1:Int) Z)=([108,116]:List UInt8)))=true then if p8 (Z+(1:Int)) then some ((([60]:List UInt8),(Z+(1:Int)))) else none else if (decide ((pE O (1:Int) Z)=([103,116]:List UInt8)))=true then if p8 (Z+(1:Int)) then some ((([62]:List UInt8),(Z+(1:Int)))) else none else if (decide ((pE O (1:Int) Z)=([113,117,111,116]:List UInt8)))=true then if p8 (Z+(1:Int)) then some ((([34]:List UInt8),(Z+(1:Int)))) else none else if (decide ((pE O (1:Int) Z)=([97,112,111,115]:List UInt8)))=true then if p8 (Z+(1:Int)) then some ((([39]:List UInt8),(Z+(1:Int)))) else none else rE (σ:=Int) (if ((((decide ((3:Int)≤((pE O (1:Int) Z).length:Int)))&&(decide (((pE O (1:Int) Z).length:Int)≤(8:Int))))==true)=true→0≤(0:Int)∧(0:Int)≤(2:Int)∧(2:Int)≤((pE O (1:Int) Z).length:Int)) then if (((decide ((3:Int)≤((pE O (1:Int) Z).length:Int)))&&(decide (((pE O (1:Int) Z).length:Int)≤(8:Int))))&&(decide ((pE (pE O (1:Int) Z) (0:Int) (2:Int))=([35,120]:List UInt8))))=true then if 0≤(2:Int)∧(2:Int)≤((pE O (1:Int) Z).length:Int)∧((pE O (1:Int) Z).length:Int)≤((pE O (1:Int) Z).length:Int) then (IK (pE (pE O (1:Int) Z) (2:Int) ((pE O (1:Int) Z).length:Int)) (16:Int)).bind fun aA=>some (aA) else none else if ((((decide ((2:Int)≤((pE O (1:Int) Z).length:Int)))&&(decide (((pE O (1:Int) Z).length:Int)≤(8:Int))))==true)=true→0≤(0:Int)∧(0:Int)≤(1:Int)∧(1:Int)≤((pE O (1:Int) Z).length:Int)) then if (((decide ((2:Int)≤((pE O (1:Int) Z).length:Int)))&&(decide (((pE O (1:Int) Z).length:Int)≤(8:Int))))&&(decide ((pE (pE O (1:Int) Z) (0:Int) (1:Int))=([35]:List UInt8))))=true then if 0≤(1:Int)∧(1:Int)≤((pE O (1:Int) Z).length:Int)∧((pE O (1:Int) Z).length:Int)≤((pE O (1:Int) Z).length:Int) then (IK (pE (pE O (1:Int) Z) (1:Int) ((pE O (1:Int) Z).length:Int)) (10:Int)).bind fun aB=>some (aB) else none else some ((-1:Int)) else none else none ) fun aC=>if ((decide (aC<(0:Int)))||(!(((decide ((0:Int)≤aC))&&(decide (aC≤(1114111:Int))))&&((decide (aC<(55296:Int)))||(decide ((57343:Int)<aC))))))=true then some ((([]:List UInt8),(0:Int))) else (CT aC).bind fun aD=>if p8 (Z+(1:Int)) then some ((aD,(Z+(1:Int)))) else none else none else none
attribute [irreducible] aAN
def DR (O:((List Int)×Unit)) (Z:Int):Option (Int×(List Int)):=(GK O.1 Z).bind fun aA=>if p8 ((aA.length:Int)- (O.1.length:Int)) then some ((((aA.length:Int)- (O.1.length:Int)),aA)) else none
section
variable (O:Int) (Z:((List Int)×Unit)) (aA:Nat)
abbrev a2u:List oZ:=[(.val .ref (some (0,0)),none),(.val (.int .i32) O,none)]
abbrev a2v:List oX:=[.cells wO ((some (0,0)),Z) [(1,1)],.grow 5 1 aA]
@[go_sem] def a2w:pD:=⟨[aA=(Z.1.length),((DR Z O)).isSome=true],[(.val (.int .i64) ((val (DR Z O)).1),none),(.any,none)],[.cells wO ((some (0,0)),((val (DR Z O)).2,())) [(1,1)],.grow 5 1 (((val (DR Z O)).2).length)]⟩
def aAO:List oZ→List oX→Option pD:=qM (V:=(Int×((List Int)×Unit)×Nat)) (fun x=>a2u x.1) (fun x=>a2v x.2.1 x.2.2) fun x=>a2w x.1 x.2.1 x.2.2
@[go_sem] theorem aMb:aAO (no_index (a2u O)) (no_index (a2v Z aA))=some (a2w O Z aA):=qQ (fun⟨a0,a1,a2⟩ ⟨b0,b1,b2⟩ h1 h2=>by cases h1;cases h2;rfl) (O,Z,aA)
end
@[go_sem] abbrev aAP:Nat×pY:=(290,⟨[.p wO [1],.v],aAO,[],[],none⟩)
theorem L1:qB Tryz.prog [ET,G9] (pZ [RQ,aAH]):=⟨⟨I6,⟨K9,trivial⟩⟩,pK XX (pK aHf qS),qD⟩
theorem aHk:qH Tryz.prog aAP:=by
 refine qR L1 Tryz.func290 (c:=_) rfl (N:=30) (by kernel_rfl) (ts:=[(4,none),(5,none)]) rfl (fun _ _=>rfl) ?_;intro⟨O,Z,aA⟩ hs hrow;dsimp only[a2u,a2v,a2w,qI,pG,pN,qE,qK,Nat.reduceAdd] at hs hrow⊢;obtain⟨rfl,hz⟩:=hs;obtain⟨z0,hC0⟩:=aMM.1 hz
 try rw[rG hC0]
 clear hz;unfold DR at hC0;refine oY L1 ?_;refine oY L1 ?_ (hp:=by first|rfl|trivial)
 refine oY L1 ?_;obtain⟨aB,hv1,hw1,hC0⟩:=pV hC0
 try simp only[go_sem] at hw1
 refine oY L1 ?_ (hp:=by exact⟨by first|rfl|trivial,(pU hv1)⟩) (h:=by simp only[go_sem,hw1];rfl)
 obtain⟨hg2,hC0⟩:=pJ hC0;refine oY L1 ?_ (hp:=by exact hg2);refine pH ?_;cases hC0;exact⟨[(0,0),(1,1)],by rfl,by rfl,by rfl⟩
attribute [irreducible] DR
end
noncomputable section
def L2 (O:(List UInt8)) (Z:(List UInt8)) (aA:(List UInt8)) (aB:(List UInt8)) (aC:(List (List UInt8))) (aD:(Int×((List pL)×Unit))) (aE:Bool) (aF:(List (List UInt8))) (aG:(List ((List UInt8)×Bool))):Option Bool:=(GI aD.2.1 O).bind fun aH=>some (aH.2)
section
variable (O:(List UInt8)) (Z:(List UInt8)) (aA:(List UInt8)) (aB:(List UInt8)) (aC:(List (List UInt8))) (aD:Nat) (aE:(Int×((List pL)×Unit))) (aF:Bool) (aG:Nat) (aH:Nat) (aI:(List (List UInt8))) (aJ:Nat) (aK:(List ((List UInt8)×Bool)))
abbrev a2x:List oZ:=[(.val .str O,none),(.val .ref (some (0,0)),none)]
abbrev a2y:List oX:=[.cells .ref (some (1,0)) [],.cells sH ((Z,(aA,(aB,(aC,((some (4,aD)),aE))))),(aF,((some 5),()))) [(3,2),(6,3)],.grow 9 1 aG,.grow 149 2 aH,.row 9 .str aI aJ,.map .str .bool aK]
@[go_sem] def a2z:pD:=⟨[aG=(aC.length),aH=(aE.2.1.length),aD=aJ,((L2 O Z aA aB aC aE aF aI aK)).isSome=true],[(.val .bool (val (L2 O Z aA aB aC aE aF aI aK)),none)],[.cells .ref (some (1,0)) [],.cells sH ((Z,(aA,(aB,(aC,((some (4,(aI.length))),(aE.1,(aE.2.1,()))))))),(aF,((some 5),()))) [(3,2),(6,3)],.grow 9 1 (aC.length),.grow 149 2 (aE.2.1.length),.row 9 .str aI (aI.length),.map .str .bool aK]⟩
def aAQ:List oZ→List oX→Option pD:=qM (V:=((List UInt8)×(List UInt8)×(List UInt8)×(List UInt8)×(List (List UInt8))×Nat×(Int×((List pL)×Unit))×Bool×Nat×Nat×(List (List UInt8))×Nat×(List ((List UInt8)×Bool)))) (fun x=>a2x x.1) (fun x=>a2y x.2.1 x.2.2.1 x.2.2.2.1 x.2.2.2.2.1 x.2.2.2.2.2.1 x.2.2.2.2.2.2.1 x.2.2.2.2.2.2.2.1 x.2.2.2.2.2.2.2.2.1 x.2.2.2.2.2.2.2.2.2.1 x.2.2.2.2.2.2.2.2.2.2.1 x.2.2.2.2.2.2.2.2.2.2.2.1 x.2.2.2.2.2.2.2.2.2.2.2.2) fun x=>a2z x.1 x.2.1 x.2.2.1 x.2.2.2.1 x.2.2.2.2.1 x.2.2.2.2.2.1 x.2.2.2.2.2.2.1 x.2.2.2.2.2.2.2.1 x.2.2.2.2.2.2.2.2.1 x.2.2.2.2.2.2.2.2.2.1 x.2.2.2.2.2.2.2.2.2.2.1 x.2.2.2.2.2.2.2.2.2.2.2.1 x.2.2.2.2.2.2.2.2.2.2.2.2
@[go_sem] theorem aMc:aAQ (no_index (a2x O)) (no_index (a2y Z aA aB aC aD aE aF aG aH aI aJ aK))=some (a2z O Z aA aB aC aD aE aF aG aH aI aJ aK):=qQ (fun⟨a0,a1,a2,a3,a4,a5,a6,a7,a8,a9,a10,a11,a12⟩ ⟨b0,b1,b2,b3,b4,b5,b6,b7,b8,b9,b10,b11,b12⟩ h1 h2=>by cases h1;cases h2;rfl) (O,Z,aA,aB,aC,aD,aE,aF,aG,aH,aI,aJ,aK)
end
@[go_sem] abbrev a2A:Nat×pY:=(254,⟨[.v,.p .ref []],aAQ,[(0,0,.p sH [3,6]),(1,4,.r),(1,8,.m)],[0,1,2,3,4,5],none⟩)
theorem aAR:qB Tryz.prog [] (pZ [a1X]):=⟨trivial,pK aHc qS,qD⟩
theorem a2B:qB Tryz.prog [CP,CR,KD,B9] (pZ [a1X]):=⟨⟨EU,⟨EX,⟨RO,⟨CQ,trivial⟩⟩⟩⟩,aAR.Γ,qD⟩
theorem aHl:qH Tryz.prog a2A:=by
 refine qR aAR Tryz.func254 (c:=_) rfl (N:=17) (by kernel_rfl) (ts:=[(3,none)]) rfl (fun _ _=>rfl) ?_;intro⟨O,Z,aA,aB,aC,aD,aE,aF,aG,aH,aI,aJ,aK⟩ hs hrow;dsimp only[a2x,a2y,a2z,qI,pG,pN,qE,qK,Nat.reduceAdd] at hs hrow⊢;obtain⟨rfl,rfl,rfl,hz⟩:=hs;obtain⟨rfl,_⟩:=hrow;obtain⟨z0,hC0⟩:=aMM.1 hz
 try rw[rG hC0]
 clear hz;unfold L2 at hC0;refine oY a2B ?_;obtain⟨aL,hv1,hw1,hC0⟩:=pV hC0
 try simp only[go_sem] at hw1
 refine oY a2B ?_ (hp:=by exact(pU hv1)) (h:=by simp only[go_sem,hw1];rfl);refine oY a2B ?_;refine pH ?_;cases hC0;exact⟨[(0,0),(1,1),(2,2),(3,3),(4,4),(5,5)],by rfl,by rfl,by rfl⟩
attribute [irreducible] L2
def SI (O:(List UInt8)):Option Unit:=if (((decide ((O.length:Int)≤(4000:Int)))==true)=true→((KZ O)).isSome=true) then some (()) else none
attribute [irreducible] SI
def NU (O:Int) (Z:(List UInt8)):((List Int)×Int)→Option (((List Int)×Int)⊕((List Int)⊕((List UInt8)×Int×Int))):=fun(aA,aB)=>if (decide (aB<(Z.length:Int)))=true then if 0≤aB∧aB<(Z.length:Int) then if p8 (aB+(1:Int)) then if 0≤aB∧aB≤(aB+(1:Int))∧(aB+(1:Int))≤(Z.length:Int) then rE (σ:=((List UInt8)×Int)) (if ((!decide (O=(4:Int)))&&(decide ((pI Z aB)=(92:Int))))=true then if 0≤aB∧aB≤(Z.length:Int)∧(Z.length:Int)≤(Z.length:Int) then (NT (pE Z aB (Z.length:Int))).bind fun aC=>some ((aC.1,aC.2)) else none else if ((decide (O=(4:Int)))&&(decide ((pI Z aB)=(38:Int))))=true then if 0≤aB∧aB≤(Z.length:Int)∧(Z.length:Int)≤(Z.length:Int) then (aAN (pE Z aB (Z.length:Int))).bind fun aD=>some ((aD.1,aD.2)) else none else if ((!decide (O=(4:Int)))&&(decide ((pI Z aB)=(10:Int))))=true then if ((!decide (O=(4:Int)))&&(decide ((pI Z aB)=(10:Int))))=true then some (((pE Z aB (aB+(1:Int))),(0:Int))) else some (((pE Z aB (aB+(1:Int))),(1:Int))) else if (((decide (O=(2:Int)))||(decide (O=(3:Int))))&&(decide ((pI Z aB)=(34:Int))))=true then if (((decide (O=(2:Int)))||(decide (O=(3:Int))))&&(decide ((pI Z aB)=(34:Int))))=true then some (((pE Z aB (aB+(1:Int))),(0:Int))) else some (((pE Z aB (aB+(1:Int))),(1:Int))) else if (((decide (O=(4:Int)))==true)=true→((KO (pI Z aB) ([60,34]:List UInt8))).isSome=true) then if ((decide (O=(4:Int)))&&(val (KO (pI Z aB) ([60,34]:List UInt8))))=true then some (((pE Z aB (aB+(1:Int))),(0:Int))) else some (((pE Z aB (aB+(1:Int))),(1:Int))) else none ) fun(aE,aF)=>if (decide (aF=(0:Int)))=true then some (.inr (.inr ((([]:List UInt8),aB,(3:Int))))) else if List.length aA+aE.length≤140737488355328 then if p8 (aB+aF) then some (.inl ((aA++sP aE),(aB+aF))) else none else none else none else none else none else some (.inr (.inl aA))
def NV (O:Int) (Z:(List UInt8)):Option ((List UInt8)×Int×Int):=if (!((decide ((1:Int)≤O))&&(decide (O≤(4:Int)))))=true then some ((([]:List UInt8),(0:Int),(1:Int))) else s5 (pR (NU O Z) (([]:List Int),(0:Int))) fun aA=>some (((sD aA),(0:Int),(0:Int)))
attribute [irreducible] NV
def NW (O:(List Int)):(Int×(List Int))→Option ((Int×(List Int))⊕(List Int)):=fun(Z,aA)=>if (decide (Z<(O.length:Int)))=true then if 0≤Z∧Z<(O.length:Int) then if (!(((decide ((0:Int)≤(qG (.int .i64) O Z)))&&(decide ((qG (.int .i64) O Z)≤(1114111:Int))))&&((decide ((qG (.int .i64) O Z)<(55296:Int)))||(decide ((57343:Int)<(qG (.int .i64) O Z))))))=true then (DR (aA,()) (IntKind.wrap .i32 (65533:Int))).bind fun aB=>if p8 (Z+(1:Int)) then some (.inl ((Z+(1:Int)),aB.2)) else none else (DR (aA,()) (IntKind.wrap .i32 (qG (.int .i64) O Z))).bind fun aC=>if p8 (Z+(1:Int)) then some (.inl ((Z+(1:Int)),aC.2)) else none else none else some (.inr aA)
def L3 (O:(List Int)):Option (List UInt8):=rE (pR (NW O) ((0:Int),([]:List Int))) fun Z=>some ((sD Z))
section
variable (O:(List Int))
abbrev a2C:List oZ:=[(.val (.list (.int .i64)) O,none)]
abbrev a2D:List oX:=[]
@[go_sem] def a2E:pD:=⟨[((L3 O)).isSome=true],[(.val .str (val (L3 O)),none)],[]⟩
def aAS:List oZ→List oX→Option pD:=qM (V:=(List Int)) (fun x=>a2C x) (fun x=>a2D) fun x=>a2E x
@[go_sem] theorem aMd:aAS (no_index (a2C O)) (no_index a2D)=some (a2E O):=qQ (fun a0 b0 h1 h2=>by cases h1;cases h2;rfl) O
end
@[go_sem] abbrev aAT:Nat×pY:=(277,⟨[.v],aAS,[],[],none⟩)
theorem BC:qB Tryz.prog [v6,KB,KC,G9] (pZ [a9W,aAP,RR]):=⟨⟨vM,⟨RG,⟨RN,⟨K9,trivial⟩⟩⟩⟩,pK aGU (pK aHk (pK XY qS)),qD⟩
theorem aHm:qH Tryz.prog aAT:=by
 refine qR BC Tryz.func277 (c:=_) rfl (N:=20) (by kernel_rfl) (ts:=[(2,none)]) rfl (fun _ _=>rfl) ?_;intro O hs hrow;dsimp only[a2C,a2D,a2E,qI,pG,pN,qE,qK,Nat.reduceAdd] at hs hrow⊢;have hz:=hs;obtain⟨z0,hC0⟩:=aMM.1 hz
 try rw[rG hC0]
 clear hz hs;unfold L3 at hC0;refine oY BC ?_;refine oY BC ?_;refine pX ?_;refine oY BC ?_;refine rR ?_;obtain⟨Z,hy1,hC0⟩:=pA hC0;refine wN 0 (fun s=>s=(fun x=>⟨[(3,(.val .ref (some (0,0)),none))],[(0,.cells wO ((some (0,0)),(x,())) [(1,1)]),(1,.grow 5 1 (x.length))],2,20,0⟩) Z) ?_ ?_
 ·refine wM hy1 (fun x=>⟨[(3,(.val .ref (some (0,0)),none)),(6,(.val (.list (.int .i64)) O,none)),(7,(.val (.int .i64) (O.length:Int),none)),(8,(.val (.int .i64) x.1,none))],[(0,.cells wO ((some (0,0)),(x.2,())) [(1,1)]),(1,.grow 5 1 (x.2.length))],2,20,0⟩) ⟨[3,6,7,8],[(0,32),(1,33)]⟩ (by rfl) ?_;intro x1 w1 n1 hC1 hN1;obtain⟨aA,aB⟩:=x1;unfold NW at hC1;dsimp only at hC1⊢;refine oY BC ?_;refine pX ?_;refine pP hC1 (fun hC1 hc1=> ?_) (fun hC1 hc1=> ?_)
  ·refine qJ (pM (pX (rR ?_)));obtain⟨hg1,hC1⟩:=pJ hC1;refine oY BC ?_ (hp:=by exact hg1);refine pX ?_;refine oY BC ?_;refine pP hC1 (fun hC1 hc2=> ?_) (fun hC1 hc2=> ?_)
   ·refine qY BC ?_;refine pM ?_;obtain⟨aC,hv2,hw2,hC1⟩:=pV hC1
    try simp only[go_sem] at hw2
    refine qY BC ?_ (hp:=by exact⟨by first|rfl|trivial,(pU hv2)⟩) (h:=by simp only[go_sem,hw2];rfl)
    refine qV (pM ?_);obtain⟨hg3,hC1⟩:=pJ hC1;refine qY BC ?_ (hp:=by exact hg3);cases hC1;exact tO ⟨⟨[3,6,7,8],[(0,0),(1,1)]⟩,_,by rfl,hN1⟩
   ·refine qJ (pM ?_);obtain⟨aD,hv4,hw4,hC1⟩:=pV hC1
    try simp only[go_sem] at hw4
    refine qY BC ?_ (hp:=by exact⟨by first|rfl|trivial,(pU hv4)⟩) (h:=by simp only[go_sem,hw4];rfl)
    refine qV (pM ?_);obtain⟨hg5,hC1⟩:=pJ hC1;refine qY BC ?_ (hp:=by exact hg5);cases hC1;exact tO ⟨⟨[3,6,7,8],[(0,0),(1,1)]⟩,_,by rfl,hN1⟩
  ·refine vW (wC (vY ?_));cases hC1;cases hN1;exact vX ⟨⟨[3],[(0,0),(1,1)]⟩,by rfl⟩
 ·rintro _ rfl;dsimp only at hC0⊢;refine wL (pM ?_);refine oY BC ?_ (hp:=by first|rfl|trivial)
  refine pH ?_;cases hC0;exact⟨[],by rfl,by rfl,by rfl⟩
attribute [irreducible] L3
end
noncomputable section
def NX (O:(List UInt8)):Int→Option (Int⊕Int):=fun Z=>if (((decide (Z<(O.length:Int)))==true)=true→0≤Z∧Z<(O.length:Int)) then if ((((decide (Z<(O.length:Int)))==true)&&((((decide ((97:Int)≤(pI O Z)))&&(decide ((pI O Z)≤(122:Int))))||((decide ((65:Int)≤(pI O Z)))&&(decide ((pI O Z)≤(90:Int)))))==false))=true→0≤Z∧Z<(O.length:Int)) then if (((((decide (Z<(O.length:Int)))==true)&&((((decide ((97:Int)≤(pI O Z)))&&(decide ((pI O Z)≤(122:Int))))||((decide ((65:Int)≤(pI O Z)))&&(decide ((pI O Z)≤(90:Int)))))==false))&&((decide ((48:Int)≤(pI O Z)))==true))=true→0≤Z∧Z<(O.length:Int)) then if ((((decide (Z<(O.length:Int)))==true)&&(((((decide ((97:Int)≤(pI O Z)))&&(decide ((pI O Z)≤(122:Int))))||((decide ((65:Int)≤(pI O Z)))&&(decide ((pI O Z)≤(90:Int)))))||((decide ((48:Int)≤(pI O Z)))&&(decide ((pI O Z)≤(57:Int)))))==false))=true→0≤Z∧Z<(O.length:Int)) then if ((((decide (Z<(O.length:Int)))==true)&&((((((decide ((97:Int)≤(pI O Z)))&&(decide ((pI O Z)≤(122:Int))))||((decide ((65:Int)≤(pI O Z)))&&(decide ((pI O Z)≤(90:Int)))))||((decide ((48:Int)≤(pI O Z)))&&(decide ((pI O Z)≤(57:Int)))))||(decide ((pI O Z)=(45:Int))))==false))=true→0≤Z∧Z<(O.length:Int)) then if ((((decide (Z<(O.length:Int)))==true)&&(((((((decide ((97:Int)≤(pI O Z)))&&(decide ((pI O Z)≤(122:Int))))||((decide ((65:Int)≤(pI O Z)))&&(decide ((pI O Z)≤(90:Int)))))||((decide ((48:Int)≤(pI O Z)))&&(decide ((pI O Z)≤(57:Int)))))||(decide ((pI O Z)=(45:Int))))||(decide ((pI O Z)=(95:Int))))==false))=true→0≤Z∧Z<(O.length:Int)) then if ((decide (Z<(O.length:Int)))&&(((((((decide ((97:Int)≤(pI O Z)))&&(decide ((pI O Z)≤(122:Int))))||((decide ((65:Int)≤(pI O Z)))&&(decide ((pI O Z)≤(90:Int)))))||((decide ((48:Int)≤(pI O Z)))&&(decide ((pI O Z)≤(57:Int)))))||(decide ((pI O Z)=(45:Int))))||(decide ((pI O Z)=(95:Int))))||(decide ((pI O Z)=(46:Int)))))=true then if p8 (Z+(1:Int)) then some (.inl (Z+(1:Int))) else none else some (.inr Z) else none else none else none else none else none else none
def L4 (O:(List UInt8)) (Z:Int):Option (Int×(List UInt8)×Int×Int):=(KV O Z).bind fun aA=>if (decide (aA=(O.length:Int)))=true then some (((0:Int),([]:List UInt8),aA,aA)) else if 0≤aA∧aA<(O.length:Int) then if ((decide ((pI O aA)=(123:Int)))||(decide ((pI O aA)=(125:Int))))=true then if p8 (aA+(1:Int)) then if 0≤aA∧aA≤(aA+(1:Int))∧(aA+(1:Int))≤(O.length:Int) then if p8 (aA+(1:Int)) then some (((3:Int),(pE O aA (aA+(1:Int))),aA,(aA+(1:Int)))) else none else none else none else if (decide ((pI O aA)=(34:Int)))=true then if p8 (aA+(1:Int)) then if 0≤(aA+(1:Int))∧(aA+(1:Int))≤(O.length:Int)∧(O.length:Int)≤(O.length:Int) then (KN (3:Int) (pE O (aA+(1:Int)) (O.length:Int)) (34:Int)).bind fun aB=>if (decide (aB<(0:Int)))=true then some (((0:Int),([]:List UInt8),aA,aA)) else if p8 (aA+(1:Int)) then if p8 (aA+(1:Int)) then if p8 ((aA+(1:Int))+aB) then if 0≤(aA+(1:Int))∧(aA+(1:Int))≤((aA+(1:Int))+aB)∧((aA+(1:Int))+aB)≤(O.length:Int) then (NV (3:Int) (pE O (aA+(1:Int)) ((aA+(1:Int))+aB))).bind fun aC=>if (((!decide (aC.2.2=(0:Int)))==false)=true→((SI aC.1)).isSome=true) then if ((!decide (aC.2.2=(0:Int)))||(!((decide ((aC.1.length:Int)≤(4000:Int)))&&(val (KZ aC.1)))))=true then some (((0:Int),([]:List UInt8),aA,aA)) else if p8 (aA+aB) then if p8 ((aA+aB)+(2:Int)) then some (((1:Int),aC.1,aA,((aA+aB)+(2:Int)))) else none else none else none else none else none else none else none else none else none else if (((decide ((97:Int)≤(pI O aA)))&&(decide ((pI O aA)≤(122:Int))))||((decide ((65:Int)≤(pI O aA)))&&(decide ((pI O aA)≤(90:Int)))))=true then rE (pR (NX O) aA) fun aD=>if 0≤aA∧aA≤aD∧aD≤(O.length:Int) then some (((2:Int),(pE O aA aD),aA,aD)) else none else some (((0:Int),([]:List UInt8),aA,aA)) else none
attribute [irreducible] L4
def GN (O:Int):Option (List UInt8):=(L3 ([O]:List Int)).bind fun Z=>some (Z)
section
variable (O:Int)
abbrev a2F:List oZ:=[(.val (.int .i64) O,none)]
abbrev a2G:List oX:=[]
@[go_sem] def a2H:pD:=⟨[((GN O)).isSome=true],[(.val .str (val (GN O)),none),(.val .bool ((decide (O≤(1114111:Int)))&&((decide (O<(55296:Int)))||(decide ((57343:Int)<O)))),none)],[]⟩
def aAU:List oZ→List oX→Option pD:=qM (V:=Int) (fun x=>a2F x) (fun x=>a2G) fun x=>a2H x
@[go_sem] theorem aMe:aAU (no_index (a2F O)) (no_index a2G)=some (a2H O):=qQ (fun a0 b0 h1 h2=>by cases h1;cases h2;rfl) O
end
@[go_sem] abbrev a2I:Nat×pY:=(252,⟨[.v],aAU,[],[],none⟩)
theorem SJ:qB Tryz.prog [KC] (pZ [aAT]):=⟨⟨RN,trivial⟩,pK aHm qS,qD⟩
theorem aAV:qH Tryz.prog a2I:=by
 refine qR SJ Tryz.func252 (c:=_) rfl (N:=19) (by kernel_rfl) (ts:=[(2,none),(3,none)]) rfl (fun _ _=>rfl) ?_;intro O hs hrow;dsimp only[a2F,a2G,a2H,qI,pG,pN,qE,qK,Nat.reduceAdd] at hs hrow⊢;have hz:=hs;obtain⟨z0,hC0⟩:=aMM.1 hz
 try rw[rG hC0]
 clear hz hs;unfold GN at hC0;refine oY SJ ?_;refine oY SJ ?_ (hp:=by exact⟨fun hh=>hh,fun hh=>hh,fun hh=>hh,fun hh=>hh,fun hG hh=>G5 hG hh,(fun hh=>sG hh)⟩);obtain⟨Z,hv1,hw1,hC0⟩:=pV hC0
 try simp only[go_sem] at hw1
 refine oY SJ ?_ (hp:=by exact(pU hv1)) (h:=by simp only[go_sem,hw1];rfl);refine pH ?_;cases hC0;exact⟨[],by rfl,by rfl,by rfl⟩
attribute [irreducible] GN
def uN (O:ER) (Z:Int) (aA:(List UInt8)):Option (Int×Int×Int×Int×(List UInt8)×Int×Int):=(L4 O.1 O.2.1).bind fun aB=>if (!decide (O.2.2.2.1=(0:Int)))=true then some ((O.2.1,O.2.2.1,O.2.2.2.1,aB.1,aB.2.1,aB.2.2.1,aB.2.2.2)) else if ((!decide (aB.1=Z))||((!decide (aA=([]:List UInt8)))&&(!decide (aB.2.1=aA))))=true then qW (wR O (aB.1,(aB.2.1,(aB.2.2.1,(aB.2.2.2,())))) (3:Int)) fun aC=>some ((O.2.1,aC.1,aC.2,aB.1,aB.2.1,aB.2.2.1,aB.2.2.2)) else some ((aB.2.2.2,O.2.2.1,O.2.2.2.1,aB.1,aB.2.1,aB.2.2.1,aB.2.2.2))
attribute [irreducible] uN
end
noncomputable section
def F8 (O:(List UInt8)):Option ((List UInt8)×Int):=if (decide ((O.length:Int)<(2:Int)))=true then some ((([]:List UInt8),(0:Int))) else if 0≤(1:Int)∧(1:Int)<(O.length:Int) then if (decide ((pI O (1:Int))=(110:Int)))=true then some ((([10]:List UInt8),(2:Int))) else if (decide ((pI O (1:Int))=(114:Int)))=true then some ((([13]:List UInt8),(2:Int))) else if (decide ((pI O (1:Int))=(116:Int)))=true then some ((([9]:List UInt8),(2:Int))) else if (decide ((pI O (1:Int))=(120:Int)))=true then if (decide ((4:Int)≤(O.length:Int)))=true then if 0≤(2:Int)∧(2:Int)≤(4:Int)∧(4:Int)≤(O.length:Int) then (DP (pE O (2:Int) (4:Int)) (16:Int)).bind fun Z=>if (Z.2&&(decide (Z.1≤(127:Int))))=true then some (((sD ([(IntKind.wrap .u8 Z.1)]:List Int)),(4:Int))) else some ((([]:List UInt8),(0:Int))) else none else some ((([]:List UInt8),(0:Int))) else if (decide ((pI O (1:Int))=(117:Int)))=true then if (decide ((6:Int)≤(O.length:Int)))=true then if 0≤(2:Int)∧(2:Int)≤(6:Int)∧(6:Int)≤(O.length:Int) then (DP (pE O (2:Int) (6:Int)) (16:Int)).bind fun aA=>if aA.2=true then (GN aA.1).bind fun aB=>if ((decide (aA.1≤(1114111:Int)))&&((decide (aA.1<(55296:Int)))||(decide ((57343:Int)<aA.1))))=true then some ((aB,(6:Int))) else some ((([]:List UInt8),(0:Int))) else some ((([]:List UInt8),(0:Int))) else none else some ((([]:List UInt8),(0:Int))) else if (decide ((0:Int)≤(tH ([92,34,61,58,35,33,123,125,32]:List UInt8) (pI O (1:Int)))))=true then if 0≤(1:Int)∧(1:Int)≤(2:Int)∧(2:Int)≤(O.length:Int) then some (((pE O (1:Int) (2:Int)),(2:Int))) else none else some ((([]:List UInt8),(0:Int))) else none
section
variable (O:(List UInt8))
abbrev a2J:List oZ:=[(.val .str O,none)]
abbrev a2K:List oX:=[]
@[go_sem] def a2L:pD:=⟨[((F8 O)).isSome=true],[(.val .str ((val (F8 O)).1),none),(.val (.int .i64) ((val (F8 O)).2),none)],[]⟩
def aAW:List oZ→List oX→Option pD:=qM (V:=(List UInt8)) (fun x=>a2J x) (fun x=>a2K) fun x=>a2L x
@[go_sem] theorem aMf:aAW (no_index (a2J O)) (no_index a2K)=some (a2L O):=qQ (fun a0 b0 h1 h2=>by cases h1;cases h2;rfl) O
end
@[go_sem] abbrev aAX:Nat×pY:=(209,⟨[.v],aAW,[],[],none⟩)
theorem tQ:qB Tryz.prog [v6,GA,s7,ET] (pZ [a0C,a2I,N7]):=⟨⟨vM,⟨KA,⟨sB,⟨I6,trivial⟩⟩⟩⟩,pK a9N (pK aAV (pK RP qS)),qD⟩
theorem aHn:qH Tryz.prog aAX:=by
 refine qR tQ Tryz.func209 (c:=_) rfl (N:=67) (by kernel_rfl) (ts:=[(2,none),(3,none)]) rfl (fun _ _=>rfl) ?_;intro O hs hrow;dsimp only[a2J,a2K,a2L,qI,pG,pN,qE,qK,Nat.reduceAdd] at hs hrow⊢;have hz:=hs;obtain⟨z0,hC0⟩:=aMM.1 hz
 try rw[rG hC0]
 clear hz hs;unfold F8 at hC0;refine oY tQ ?_;refine pX ?_;refine oY tQ ?_;refine pP hC0 (fun hC0 hc1=> ?_) (fun hC0 hc1=> ?_)
 ·refine oY tQ ?_;refine pH (rI ?_);cases hC0;exact⟨[],by rfl,by rfl,by rfl⟩
 ·refine qJ (pM (pX ?_));obtain⟨hg1,hC0⟩:=pJ hC0;refine oY tQ ?_ (hp:=by exact hg1);refine oY tQ ?_;refine rR ?_;refine oY tQ ?_;refine pP hC0 (fun hC0 hc2=> ?_) (fun hC0 hc2=> ?_)
  ·refine oY tQ ?_;refine pH (rS (rI ?_));cases hC0;exact⟨[],by rfl,by rfl,by rfl⟩
  ·refine oY tQ ?_;refine pP hC0 (fun hC0 hc3=> ?_) (fun hC0 hc3=> ?_)
   ·refine oY tQ ?_;refine pH (rS (rI ?_));cases hC0;exact⟨[],by rfl,by rfl,by rfl⟩
   ·refine oY tQ ?_;refine pP hC0 (fun hC0 hc4=> ?_) (fun hC0 hc4=> ?_)
    ·refine oY tQ ?_;refine pH (rS (rI ?_));cases hC0;exact⟨[],by rfl,by rfl,by rfl⟩
    ·refine oY tQ ?_;refine pP hC0 (fun hC0 hc5=> ?_) (fun hC0 hc5=> ?_)
     ·refine oY tQ ?_;refine pP hC0 (fun hC0 hc6=> ?_) (fun hC0 hc6=> ?_)
      ·obtain⟨hg2,hC0⟩:=pJ hC0;obtain⟨Z,hv3,hw3,hC0⟩:=pV hC0
       try simp only[go_sem] at hw3
       refine oY tQ ?_ (hp:=by exact⟨hg2,(pU hv3)⟩) (h:=by simp only[go_sem,hw3];rfl);refine oY tQ ?_ (hp:=by exact⟨fun hh=>hh,(fun hh=>sG hh)⟩);refine pP hC0 (fun hC0 hc7=> ?_) (fun hC0 hc7=> ?_)
       ·refine oY tQ ?_;refine pH (rS (rI ?_));cases hC0;exact⟨[],by rfl,by rfl,by rfl⟩
       ·refine qJ (qV (pM ?_));refine oY tQ ?_;refine pH ?_;cases hC0;exact⟨[],by rfl,by rfl,by rfl⟩
      ·refine qJ (qV (pM ?_));refine oY tQ ?_;refine pH ?_;cases hC0;exact⟨[],by rfl,by rfl,by rfl⟩
     ·refine oY tQ ?_;refine pP hC0 (fun hC0 hc8=> ?_) (fun hC0 hc8=> ?_)
      ·refine oY tQ ?_;refine pP hC0 (fun hC0 hc9=> ?_) (fun hC0 hc9=> ?_)
       ·obtain⟨hg4,hC0⟩:=pJ hC0;obtain⟨aA,hv5,hw5,hC0⟩:=pV hC0
        try simp only[go_sem] at hw5
        refine oY tQ ?_ (hp:=by exact⟨hg4,(pU hv5)⟩) (h:=by simp only[go_sem,hw5];rfl);refine oY tQ ?_;refine pP hC0 (fun hC0 hc10=> ?_) (fun hC0 hc10=> ?_)
        ·obtain⟨aB,hv6,hw6,hC0⟩:=pV hC0
         try simp only[go_sem] at hw6
         refine oY tQ ?_ (hp:=by exact(pU hv6)) (h:=by simp only[go_sem,hw6];rfl);refine oY tQ ?_;refine pP hC0 (fun hC0 hc11=> ?_) (fun hC0 hc11=> ?_)
         ·refine oY tQ ?_;refine pH (rS (rI ?_));cases hC0;exact⟨[],by rfl,by rfl,by rfl⟩
         ·refine qJ (qV (pM ?_));refine oY tQ ?_;refine pH ?_;cases hC0;exact⟨[],by rfl,by rfl,by rfl⟩
        ·refine qJ (qV (pM ?_));refine oY tQ ?_;refine pH ?_;cases hC0;exact⟨[],by rfl,by rfl,by rfl⟩
       ·refine qJ (qV (pM ?_));refine oY tQ ?_;refine pH ?_;cases hC0;exact⟨[],by rfl,by rfl,by rfl⟩
      ·refine oY tQ ?_;refine pP hC0 (fun hC0 hc12=> ?_) (fun hC0 hc12=> ?_)
       ·obtain⟨hg7,hC0⟩:=pJ hC0;refine oY tQ ?_ (hp:=by exact hg7);refine pH (rS (rI ?_));cases hC0;exact⟨[],by rfl,by rfl,by rfl⟩
       ·refine qJ (qV (pM ?_));refine oY tQ ?_;refine pH ?_;cases hC0;exact⟨[],by rfl,by rfl,by rfl⟩
attribute [irreducible] F8
def L5 (O:(List UInt8)):Option ((List UInt8)×Int):=if (decide ((tH O (59:Int))<(0:Int)))=true then some ((([]:List UInt8),(0:Int))) else if 0≤(1:Int)∧(1:Int)≤(tH O (59:Int))∧(tH O (59:Int))≤(O.length:Int) then if (decide ((pE O (1:Int) (tH O (59:Int)))=([97,109,112]:List UInt8)))=true then if p8 ((tH O (59:Int))+(1:Int)) then some ((([38]:List UInt8),((tH O (59:Int))+(1:Int)))) else none else if (decide ((pE O (1:Int) (tH O (59:Int)))=([108,116]:List UInt8)))=true then if p8 ((tH O (59:Int))+(1:Int)) then some ((([60]:List UInt8),((tH O (59:Int))+(1:Int)))) else none else if (decide ((pE O (1:Int) (tH O (59:Int)))=([103,116]:List UInt8)))=true then if p8 ((tH O (59:Int))+(1:Int)) then some ((([62]:List UInt8),((tH O (59:Int))+(1:Int)))) else none else if (decide ((pE O (1:Int) (tH O (59:Int)))=([113,117,111,116]:List UInt8)))=true then if p8 ((tH O (59:Int))+(1:Int)) then some ((([34]:List UInt8),((tH O (59:Int))+(1:Int)))) else none else if (decide ((pE O (1:Int) (tH O (59:Int)))=([97,112,111,115]:List UInt8)))=true then if p8 ((tH O (59:Int))+(1:Int)) then some ((([39]:List UInt8),((tH O (59:Int))+(1:Int)))) else none else (II (pE O (1:Int) (tH O (59:Int))) ([35]:List UInt8)).bind fun Z=>if (!Z.2)=true then some ((([]:List UInt8),(0:Int))) else (II Z.1 ([120]:List UInt8)).bind fun aA=>rE (σ:=((List UInt8)×Int×Int)) (if aA.2=true then some ((aA.1,(16:Int),(6:Int))) else some ((Z.1,(10:Int),(7:Int))) ) fun(aB,aC,aD)=>(DP aB aC).bind fun aE=>if ((!aE.2)||(decide (aD<(aB.length:Int))))=true then some ((([]:List UInt8),(0:Int))) else (GN aE.1).bind fun aF=>if (!((decide (aE.1≤(1114111:Int)))&&((decide (aE.1<(55296:Int)))||(decide ((57343:Int)<aE.1)))))=true then some ((([]:List UInt8),(0:Int))) else if p8 ((tH O (59:Int))+(1:Int)) then some ((aF,((tH O (59:Int))+(1:Int)))) else none else none
section
variable (O:(List UInt8))
abbrev a2M:List oZ:=[(.val .str O,none)]
abbrev a2N:List oX:=[]
@[go_sem] def a2O:pD:=⟨[((L5 O)).isSome=true],[(.val .str ((val (L5 O)).1),none),(.val (.int .i64) ((val (L5 O)).2),none)],[]⟩
def aAY:List oZ→List oX→Option pD:=qM (V:=(List UInt8)) (fun x=>a2M x) (fun x=>a2N) fun x=>a2O x
@[go_sem] theorem aMg:aAY (no_index (a2M O)) (no_index a2N)=some (a2O O):=qQ (fun a0 b0 h1 h2=>by cases h1;cases h2;rfl) O
end
@[go_sem] abbrev aAZ:Nat×pY:=(210,⟨[.v],aAY,[],[],none⟩)
theorem tU:qB Tryz.prog [s7] (pZ [N7,aAq,a0C,a2I]):=⟨⟨sB,trivial⟩,pK RP (pK aG9 (pK a9N (pK aAV qS))),qD⟩
theorem aHo:qH Tryz.prog aAZ:=by
 refine qR tU Tryz.func210 (c:=_) rfl (N:=80) (by kernel_rfl) (ts:=[(2,none),(3,none)]) rfl (fun _ _=>rfl) ?_;intro O hs hrow;dsimp only[a2M,a2N,a2O,qI,pG,pN,qE,qK,Nat.reduceAdd] at hs hrow⊢;have hz:=hs;obtain⟨z0,hC0⟩:=aMM.1 hz
 try rw[rG hC0]
 clear hz hs;unfold L5 at hC0;refine oY tU ?_;refine oY tU ?_;refine pX ?_;refine oY tU ?_;refine pP hC0 (fun hC0 hc1=> ?_) (fun hC0 hc1=> ?_)
 ·refine oY tU ?_;refine pH (rI ?_);cases hC0;exact⟨[],by rfl,by rfl,by rfl⟩
 ·refine qJ (pM ?_);obtain⟨hg1,hC0⟩:=pJ hC0;refine oY tU ?_ (hp:=by exact hg1);refine pX ?_;refine oY tU ?_;refine rR ?_;refine oY tU ?_;refine pP hC0 (fun hC0 hc2=> ?_) (fun hC0 hc2=> ?_)
  ·obtain⟨hg2,hC0⟩:=pJ hC0;refine oY tU ?_ (hp:=by exact hg2);refine pH (rS (rI ?_));cases hC0;exact⟨[],by rfl,by rfl,by rfl⟩
  ·refine oY tU ?_;refine pP hC0 (fun hC0 hc3=> ?_) (fun hC0 hc3=> ?_)
   ·obtain⟨hg3,hC0⟩:=pJ hC0;refine oY tU ?_ (hp:=by exact hg3);refine pH (rS (rI ?_));cases hC0;exact⟨[],by rfl,by rfl,by rfl⟩
   ·refine oY tU ?_;refine pP hC0 (fun hC0 hc4=> ?_) (fun hC0 hc4=> ?_)
    ·obtain⟨hg4,hC0⟩:=pJ hC0;refine oY tU ?_ (hp:=by exact hg4);refine pH (rS (rI ?_));cases hC0;exact⟨[],by rfl,by rfl,by rfl⟩
    ·refine oY tU ?_;refine pP hC0 (fun hC0 hc5=> ?_) (fun hC0 hc5=> ?_)
     ·obtain⟨hg5,hC0⟩:=pJ hC0;refine oY tU ?_ (hp:=by exact hg5);refine pH (rS (rI ?_));cases hC0;exact⟨[],by rfl,by rfl,by rfl⟩
     ·refine oY tU ?_;refine pP hC0 (fun hC0 hc6=> ?_) (fun hC0 hc6=> ?_)
      ·obtain⟨hg6,hC0⟩:=pJ hC0;refine oY tU ?_ (hp:=by exact hg6);refine pH (rS (rI ?_));cases hC0;exact⟨[],by rfl,by rfl,by rfl⟩
      ·refine qJ (qV (pM ?_));obtain⟨Z,hv7,hw7,hC0⟩:=pV hC0
       try simp only[go_sem] at hw7
       refine oY tU ?_ (hp:=by exact(pU hv7)) (h:=by simp only[go_sem,hw7];rfl);refine pX ?_;refine oY tU ?_;refine pP hC0 (fun hC0 hc7=> ?_) (fun hC0 hc7=> ?_)
       ·refine oY tU ?_;refine pH (rI ?_);cases hC0;exact⟨[],by rfl,by rfl,by rfl⟩
       ·refine qJ (pM ?_);refine oY tU ?_;refine pX ?_;obtain⟨aA,hv8,hw8,hC0⟩:=pV hC0
        try simp only[go_sem] at hw8
        refine oY tU ?_ (hp:=by exact(pU hv8)) (h:=by simp only[go_sem,hw8];rfl);refine oY tU ?_;obtain⟨y1,hC1,hC0⟩:=pA hC0;refine I1 (fun s=>s=(fun x=>⟨[(4,(.val (.int .i64) (tH O (59:Int)),none)),(6,(.val .str x.1,none)),(8,(.val (.int .i64) x.2.1,none)),(9,(.val (.int .i64) x.2.2,none))],[],0,80,0⟩) y1) ?_ ?_
        ·refine pP hC1 (fun hC1 hc8=> ?_) (fun hC1 hc8=> ?_)
         ·refine qY tU ?_;cases hC1;exact AG ⟨⟨[4,6,8,9],[]⟩,by rfl⟩
         ·refine qJ ?_;cases hC1;exact AG ⟨⟨[4,6,8,9],[]⟩,by rfl⟩
        ·rintro _ rfl;obtain⟨aB,aC,aD⟩:=y1;dsimp only at hC0⊢;refine pM ?_;obtain⟨aE,hv9,hw9,hC0⟩:=pV hC0
         try simp only[go_sem] at hw9
         refine oY tU ?_ (hp:=by exact(pU hv9)) (h:=by simp only[go_sem,hw9];rfl);refine pX ?_;refine oY tU ?_ (hp:=by exact⟨fun hh=>hh,fun hh=>hh,fun hh=>hh,(fun hh=>xX hh)⟩);refine pP hC0 (fun hC0 hc9=> ?_) (fun hC0 hc9=> ?_)
         ·refine oY tU ?_;refine pH (rI ?_);cases hC0;exact⟨[],by rfl,by rfl,by rfl⟩
         ·refine qJ (pM ?_);obtain⟨aF,hv10,hw10,hC0⟩:=pV hC0
          try simp only[go_sem] at hw10
          refine oY tU ?_ (hp:=by exact(pU hv10)) (h:=by simp only[go_sem,hw10];rfl);refine pX ?_;refine oY tU ?_;refine pP hC0 (fun hC0 hc10=> ?_) (fun hC0 hc10=> ?_)
          ·refine oY tU ?_;refine pH (rI ?_);cases hC0;exact⟨[],by rfl,by rfl,by rfl⟩
          ·refine qJ (pM ?_);obtain⟨hg11,hC0⟩:=pJ hC0;refine oY tU ?_ (hp:=by exact hg11);refine pH ?_;cases hC0;exact⟨[],by rfl,by rfl,by rfl⟩
attribute [irreducible] L5
end
noncomputable section
def SK (O:ER) (Z:qT):Option (Int×Int×Int×(List pL)):=(uN O (1:Int) ([]:List UInt8)).bind fun aA=>if (!decide (aA.2.2.1=(0:Int)))=true then some ((aA.1,aA.2.1,aA.2.2.1,Z.2.2.2.2.2.2.1)) else (S0 Z.2.2.2.2.2.2.1 aA.2.2.2.2.1).bind fun aB=>(NO aA.2.2.2.2.1).bind fun aC=>if (!aC)=true then qW (wR (O.1,(aA.1,(aA.2.1,(aA.2.2.1,((O.2.2.2.2.1.1,(O.2.2.2.2.1.2.1,(O.2.2.2.2.1.2.2.1,(O.2.2.2.2.1.2.2.2.1,())))),(O.2.2.2.2.2.1,())))))) (aA.2.2.2.1,(aA.2.2.2.2.1,(aA.2.2.2.2.2.1,(aA.2.2.2.2.2.2,())))) (3:Int)) fun aD=>some ((aA.1,aD.1,aD.2,Z.2.2.2.2.2.2.1)) else if aB.2=true then qW (wR (O.1,(aA.1,(aA.2.1,(aA.2.2.1,((O.2.2.2.2.1.1,(O.2.2.2.2.1.2.1,(O.2.2.2.2.1.2.2.1,(O.2.2.2.2.1.2.2.2.1,())))),(O.2.2.2.2.2.1,())))))) (aA.2.2.2.1,(aA.2.2.2.2.1,(aA.2.2.2.2.2.1,(aA.2.2.2.2.2.2,())))) (9:Int)) fun aE=>some ((aA.1,aE.1,aE.2,Z.2.2.2.2.2.2.1)) else if (decide ((20:Int)≤(Z.2.2.2.2.2.2.1.length:Int)))=true then qW (wR (O.1,(aA.1,(aA.2.1,(aA.2.2.1,((O.2.2.2.2.1.1,(O.2.2.2.2.1.2.1,(O.2.2.2.2.1.2.2.1,(O.2.2.2.2.1.2.2.2.1,())))),(O.2.2.2.2.2.1,())))))) (aA.2.2.2.1,(aA.2.2.2.2.1,(aA.2.2.2.2.2.1,(aA.2.2.2.2.2.2,())))) (6:Int)) fun aF=>some ((aA.1,aF.1,aF.2,Z.2.2.2.2.2.2.1)) else (uN (O.1,(aA.1,(aA.2.1,(aA.2.2.1,((O.2.2.2.2.1.1,(O.2.2.2.2.1.2.1,(O.2.2.2.2.1.2.2.1,(O.2.2.2.2.1.2.2.2.1,())))),(O.2.2.2.2.2.1,())))))) (1:Int) ([]:List UInt8)).bind fun aG=>(S2 Z.2.2.2.2.2.2.1 aA.2.2.2.2.1 aG.2.2.2.2.1).bind fun aH=>some ((aG.1,aG.2.1,aG.2.2.1,aH))
attribute [irreducible] SK
def SL (O:qT) (Z:(Int×Int×Int×Int×(List UInt8)×Int×Int)):Int→Option (Int⊕Int):=fun aA=>if (((decide (aA<(O.2.2.2.2.1.length:Int)))==true)=true→0≤aA∧aA<(O.2.2.2.2.1.length:Int)) then if ((decide (aA<(O.2.2.2.2.1.length:Int)))&&(Op.bytesLess (qG .str O.2.2.2.2.1 aA) Z.2.2.2.2.1))=true then if p8 (aA+(1:Int)) then some (.inl (aA+(1:Int))) else none else some (.inr aA) else none
def SM (O:ER) (Z:qT):Option (Int×Int×Int×(List (List UInt8))):=(uN O (2:Int) ([]:List UInt8)).bind fun aA=>if (!decide (aA.2.2.1=(0:Int)))=true then some ((aA.1,aA.2.1,aA.2.2.1,Z.2.2.2.2.1)) else (NO aA.2.2.2.2.1).bind fun aB=>if (!aB)=true then qW (wR (O.1,(aA.1,(aA.2.1,(aA.2.2.1,((O.2.2.2.2.1.1,(O.2.2.2.2.1.2.1,(O.2.2.2.2.1.2.2.1,(O.2.2.2.2.1.2.2.2.1,())))),(O.2.2.2.2.2.1,())))))) (aA.2.2.2.1,(aA.2.2.2.2.1,(aA.2.2.2.2.2.1,(aA.2.2.2.2.2.2,())))) (3:Int)) fun aC=>some ((aA.1,aC.1,aC.2,Z.2.2.2.2.1)) else (S7 Z.2.2.2.2.1 aA.2.2.2.2.1).bind fun aD=>if aD=true then qW (wR (O.1,(aA.1,(aA.2.1,(aA.2.2.1,((O.2.2.2.2.1.1,(O.2.2.2.2.1.2.1,(O.2.2.2.2.1.2.2.1,(O.2.2.2.2.1.2.2.2.1,())))),(O.2.2.2.2.2.1,())))))) (aA.2.2.2.1,(aA.2.2.2.2.1,(aA.2.2.2.2.2.1,(aA.2.2.2.2.2.2,())))) (9:Int)) fun aE=>some ((aA.1,aE.1,aE.2,Z.2.2.2.2.1)) else if (decide ((20:Int)≤(Z.2.2.2.2.1.length:Int)))=true then qW (wR (O.1,(aA.1,(aA.2.1,(aA.2.2.1,((O.2.2.2.2.1.1,(O.2.2.2.2.1.2.1,(O.2.2.2.2.1.2.2.1,(O.2.2.2.2.1.2.2.2.1,())))),(O.2.2.2.2.2.1,())))))) (aA.2.2.2.1,(aA.2.2.2.2.1,(aA.2.2.2.2.2.1,(aA.2.2.2.2.2.2,())))) (6:Int)) fun aF=>some ((aA.1,aF.1,aF.2,Z.2.2.2.2.1)) else rE (pR (SL Z aA) (0:Int)) fun aG=>if 0≤(0:Int)∧(0:Int)≤aG∧aG≤(Z.2.2.2.2.1.length:Int) then if (([]:List (List UInt8)).length+(pE Z.2.2.2.2.1 (0:Int) aG).length)*16≤140737488355328 then if ((([]:List (List UInt8))++(pE Z.2.2.2.2.1 (0:Int) aG)).length+([aA.2.2.2.2.1]:List (List UInt8)).length)*16≤140737488355328 then if 0≤aG∧aG≤(Z.2.2.2.2.1.length:Int)∧(Z.2.2.2.2.1.length:Int)≤(Z.2.2.2.2.1.length:Int) then if (((([]:List (List UInt8))++(pE Z.2.2.2.2.1 (0:Int) aG))++([aA.2.2.2.2.1]:List (List UInt8))).length+(pE Z.2.2.2.2.1 aG (Z.2.2.2.2.1.length:Int)).length)*16≤140737488355328 then some ((aA.1,aA.2.1,aA.2.2.1,(((([]:List (List UInt8))++(pE Z.2.2.2.2.1 (0:Int) aG))++([aA.2.2.2.2.1]:List (List UInt8)))++(pE Z.2.2.2.2.1 aG (Z.2.2.2.2.1.length:Int))))) else none else none else none else none else none
attribute [irreducible] SM
end
end Go.Proofs.YtbbpilohihldiaaGreatDoor
