/- Packed by a program of mine (wip/tools/pack.py): the same texts with short names and few blanks. -/
import Derived.BigCall
import Derived.BigGuard
import Derived.Handy
import Derived.KernelRfl
import Derived.Lib.Hide
import Derived.Lib.ItoaMem
import Derived.Lib.MapLaws
import Derived.Lib.TrimAscii
import Derived.Lib.TrimUEq
import Derived.Lib.ValidLaws
import Derived.LoopIn
import Derived.LoopNIn
import Derived.OwnWalkIn
import Derived.RangeFuncBox
import Derived.RangeFuncLeaves
import Derived.Shelf.Abstract
import Derived.Shelf.Slices.Clone
import Derived.Shelf.Slices.In.SortNone
import Derived.Shelf.Small.Strs
import Derived.Shelf.Small.Utf8
import Derived.Shelf.Sort.Plain
import Derived.Shelf.Spec.SlicesInsertGrow
import Derived.Shelf.Strings.Builder1
import Derived.Shelf.Strings.Repeat
import Derived.Shelf.Strings.Runes
import Derived.Shelf.Strings.Search1
import Derived.Shelf.Strings.Search3
import Derived.Shelf.Strings.SlTrimAscii
import Derived.Shelf.Strings.Trim
import Derived.Shelf.Unicode.DecodeAny
import Derived.Shelf.Unicode.ValidAny
import Derived.TacticsInMore
import Derived.Test.YtbbpilohihldiaaGreatDoorChecked
import Derived.Test.YtbbpilohihldiaaGreatDoorProg
import Derived.WalkKit
import Derived.Test.YtbbpilohihldiaaGreatDoorW01
set_option linter.defProp false
set_option linter.unusedVariables false
set_option linter.unusedSimpArgs false
set_option linter.unusedSectionVars false
set_option maxRecDepth 100000
set_option maxHeartbeats 4000000
namespace Go.Proofs
open Go.RowKit Go.Lib
def Tryz.lays137_ren:Go.Shelf.Ren:=⟨fun|137=>135|217=>182|266=>222|n=>n,fun|9=>9|5=>5|3=>3|n=>n,fun|n=>n⟩
theorem Tryz.lays137:Go.Proofs.Lays.n137 Tryz.prog Tryz.lays137_ren:={
 mixed:=by kernel_rfl
 f137:=Tryz.func135.trans (aVL some pX)
 f217:=Tryz.func182.trans (aVL some pX)
 f266:=Tryz.func222.trans (aVL some pX)
 t3:=Tryz.underlying3
 a3:=Tryz.isAgg3
 z3:=Tryz.sizeOf3
 v3:=Tryz.zeroValue3
 t5:=Tryz.underlying5
 a5:=Tryz.isAgg5
 z5:=Tryz.sizeOf5
 v5:=Tryz.zeroValue5
 t9:=Tryz.underlying9
 a9:=Tryz.isAgg9
 z9:=Tryz.sizeOf9
 v9:=Tryz.zeroValue9}
def Tryz.lays190_ren:Go.Shelf.Ren:=⟨fun|190=>147|125=>192|258=>191|128=>234|129=>235|302=>225|303=>226|304=>227|305=>228|306=>229|307=>230|308=>231|309=>232|310=>233|333=>261|329=>262|330=>263|334=>264|335=>265|336=>266|344=>279|n=>n,fun|31=>23|9=>9|3=>3|46=>219|0=>0|51=>241|53=>243|4=>4|183=>235|182=>234|131=>57|5=>5|218=>258|222=>262|228=>272|229=>224|n=>n,fun|n=>n⟩
theorem Tryz.lays190:Go.Proofs.Lays.n190 Tryz.prog Tryz.lays190_ren:={
 mixed:=by kernel_rfl
 f125:=Tryz.func192.trans (aVL some pX)
 f128:=Tryz.func234.trans (aVL some pX)
 f129:=Tryz.func235.trans (aVL some pX)
 f190:=Tryz.func147.trans (aVL some pX)
 f258:=Tryz.func191.trans (aVL some pX)
 f302:=Tryz.func225.trans (aVL some pX)
 f303:=Tryz.func226.trans (aVL some pX)
 f304:=Tryz.func227.trans (aVL some pX)
 f305:=Tryz.func228.trans (aVL some pX)
 f306:=Tryz.func229.trans (aVL some pX)
 f307:=Tryz.func230.trans (aVL some pX)
 f308:=Tryz.func231.trans (aVL some pX)
 f309:=Tryz.func232.trans (aVL some pX)
 f310:=Tryz.func233.trans (aVL some pX)
 f329:=Tryz.func262.trans (aVL some pX)
 f330:=Tryz.func263.trans (aVL some pX)
 f333:=Tryz.func261.trans (aVL some pX)
 f334:=Tryz.func264.trans (aVL some pX)
 f335:=Tryz.func265.trans (aVL some pX)
 f336:=Tryz.func266.trans (aVL some pX)
 f344:=Tryz.func279.trans (aVL some pX)
 t0:=Tryz.underlying0
 a0:=Tryz.isAgg0
 z0:=Tryz.sizeOf0
 v0:=Tryz.zeroValue0
 t3:=Tryz.underlying3
 a3:=Tryz.isAgg3
 z3:=Tryz.sizeOf3
 v3:=Tryz.zeroValue3
 t4:=Tryz.underlying4
 a4:=Tryz.isAgg4
 z4:=Tryz.sizeOf4
 v4:=Tryz.zeroValue4
 t5:=Tryz.underlying5
 a5:=Tryz.isAgg5
 z5:=Tryz.sizeOf5
 v5:=Tryz.zeroValue5
 t9:=Tryz.underlying9
 a9:=Tryz.isAgg9
 z9:=Tryz.sizeOf9
 v9:=Tryz.zeroValue9
 t31:=Tryz.underlying23
 a31:=Tryz.isAgg23
 z31:=Tryz.sizeOf23
 v31:=Tryz.zeroValue23
 t46:=Tryz.underlying219
 a46:=Tryz.isAgg219
 z46:=Tryz.sizeOf219
 v46:=Tryz.zeroValue219
 t51:=Tryz.underlying241
 a51:=Tryz.isAgg241
 z51:=Tryz.sizeOf241
 v51:=Tryz.zeroValue241
 t53:=Tryz.underlying243
 a53:=Tryz.isAgg243
 z53:=Tryz.sizeOf243
 v53:=Tryz.zeroValue243
 t131:=Tryz.underlying57
 a131:=Tryz.isAgg57
 z131:=Tryz.sizeOf57
 v131:=Tryz.zeroValue57
 t182:=Tryz.underlying234
 a182:=Tryz.isAgg234
 z182:=Tryz.sizeOf234
 v182:=Tryz.zeroValue234
 t183:=Tryz.underlying235
 a183:=Tryz.isAgg235
 z183:=Tryz.sizeOf235
 v183:=Tryz.zeroValue235
 t218:=Tryz.underlying258
 a218:=Tryz.isAgg258
 z218:=Tryz.sizeOf258
 v218:=Tryz.zeroValue258
 t222:=Tryz.underlying262
 a222:=Tryz.isAgg262
 z222:=Tryz.sizeOf262
 v222:=Tryz.zeroValue262
 t228:=Tryz.underlying272
 a228:=Tryz.isAgg272
 z228:=Tryz.sizeOf272
 v228:=Tryz.zeroValue272
 t229:=Tryz.underlying224
 a229:=Tryz.isAgg224
 z229:=Tryz.sizeOf224
 v229:=Tryz.zeroValue224}
def Tryz.lays196_ren:Go.Shelf.Ren:=⟨fun|196=>243|259=>271|n=>n,fun|0=>0|3=>3|4=>4|5=>5|9=>9|12=>12|46=>219|53=>243|119=>254|138=>256|139=>257|n=>n,fun|3=>1|4=>2|n=>n⟩
theorem Tryz.lays196:Go.Proofs.Lays.n196 Tryz.prog Tryz.lays196_ren:={
 mixed:=by kernel_rfl
 f196:=Tryz.func243.trans (aVL some pX)
 f259:=Tryz.func271.trans (aVL some pX)
 t0:=Tryz.underlying0
 a0:=Tryz.isAgg0
 z0:=Tryz.sizeOf0
 v0:=Tryz.zeroValue0
 t3:=Tryz.underlying3
 a3:=Tryz.isAgg3
 z3:=Tryz.sizeOf3
 v3:=Tryz.zeroValue3
 t4:=Tryz.underlying4
 a4:=Tryz.isAgg4
 z4:=Tryz.sizeOf4
 v4:=Tryz.zeroValue4
 t5:=Tryz.underlying5
 a5:=Tryz.isAgg5
 z5:=Tryz.sizeOf5
 v5:=Tryz.zeroValue5
 t9:=Tryz.underlying9
 a9:=Tryz.isAgg9
 z9:=Tryz.sizeOf9
 v9:=Tryz.zeroValue9
 t12:=Tryz.underlying12
 a12:=Tryz.isAgg12
 z12:=Tryz.sizeOf12
 v12:=Tryz.zeroValue12
 t46:=Tryz.underlying219
 a46:=Tryz.isAgg219
 z46:=Tryz.sizeOf219
 v46:=Tryz.zeroValue219
 t53:=Tryz.underlying243
 a53:=Tryz.isAgg243
 z53:=Tryz.sizeOf243
 v53:=Tryz.zeroValue243
 t119:=Tryz.underlying254
 a119:=Tryz.isAgg254
 z119:=Tryz.sizeOf254
 t138:=Tryz.underlying256
 a138:=Tryz.isAgg256
 z138:=Tryz.sizeOf256
 v138:=Tryz.zeroValue256
 t139:=Tryz.underlying257
 a139:=Tryz.isAgg257
 z139:=Tryz.sizeOf257
 v139:=Tryz.zeroValue257
 g3:=by kernel_rfl
 g4:=by kernel_rfl}
def Tryz.lays143_ren:Go.Shelf.Ren:=⟨fun|143=>173|219=>208|217=>182|225=>248|224=>249|267=>250|266=>222|314=>276|n=>n,fun|9=>9|3=>3|4=>4|5=>5|46=>219|146=>270|51=>241|n=>n,fun|1=>0|n=>n⟩
theorem Tryz.lays143:Go.Proofs.Lays.n143 Tryz.prog Tryz.lays143_ren:={
 mixed:=by kernel_rfl
 f143:=Tryz.func173.trans (aVL some pX)
 f217:=Tryz.func182.trans (aVL some pX)
 f219:=Tryz.func208.trans (aVL some pX)
 f224:=Tryz.func249.trans (aVL some pX)
 f225:=Tryz.func248.trans (aVL some pX)
 f266:=Tryz.func222.trans (aVL some pX)
 f267:=Tryz.func250.trans (aVL some pX)
 f314:=Tryz.func276.trans (aVL some pX)
 t3:=Tryz.underlying3
 a3:=Tryz.isAgg3
 z3:=Tryz.sizeOf3
 v3:=Tryz.zeroValue3
 t4:=Tryz.underlying4
 a4:=Tryz.isAgg4
 z4:=Tryz.sizeOf4
 v4:=Tryz.zeroValue4
 t5:=Tryz.underlying5
 a5:=Tryz.isAgg5
 z5:=Tryz.sizeOf5
 v5:=Tryz.zeroValue5
 t9:=Tryz.underlying9
 a9:=Tryz.isAgg9
 z9:=Tryz.sizeOf9
 v9:=Tryz.zeroValue9
 t46:=Tryz.underlying219
 a46:=Tryz.isAgg219
 z46:=Tryz.sizeOf219
 v46:=Tryz.zeroValue219
 t51:=Tryz.underlying241
 a51:=Tryz.isAgg241
 z51:=Tryz.sizeOf241
 v51:=Tryz.zeroValue241
 t146:=Tryz.underlying270
 a146:=Tryz.isAgg270
 z146:=Tryz.sizeOf270
 v146:=Tryz.zeroValue270
 g1:=by kernel_rfl}
def Tryz.lays240_ren:Go.Shelf.Ren:=⟨fun|240=>93|276=>133|n=>n,fun|0=>0|4=>4|9=>9|20=>20|70=>82|72=>84|164=>168|37=>42|n=>n,fun|n=>n⟩
theorem Tryz.lays240:Go.Proofs.Lays.n240 Tryz.prog Tryz.lays240_ren:={
 mixed:=by kernel_rfl
 f240:=Tryz.func93.trans (aVL some pX)
 f276:=Tryz.func133.trans (aVL some pX)
 t0:=Tryz.underlying0
 a0:=Tryz.isAgg0
 z0:=Tryz.sizeOf0
 v0:=Tryz.zeroValue0
 t4:=Tryz.underlying4
 a4:=Tryz.isAgg4
 z4:=Tryz.sizeOf4
 v4:=Tryz.zeroValue4
 t9:=Tryz.underlying9
 a9:=Tryz.isAgg9
 z9:=Tryz.sizeOf9
 v9:=Tryz.zeroValue9
 t20:=Tryz.underlying20
 a20:=Tryz.isAgg20
 z20:=Tryz.sizeOf20
 v20:=Tryz.zeroValue20
 t70:=Tryz.underlying82
 a70:=Tryz.isAgg82
 z70:=Tryz.sizeOf82
 v70:=Tryz.zeroValue82
 t72:=Tryz.underlying84
 a72:=Tryz.isAgg84
 z72:=Tryz.sizeOf84
 v72:=Tryz.zeroValue84
 t164:=Tryz.underlying168
 a164:=Tryz.isAgg168
 z164:=Tryz.sizeOf168
 v164:=Tryz.zeroValue168}
theorem Tryz.builderX72:Builder.X72 Tryz.prog Tryz.lays240_ren:={
 sizeBuilder:=by kernel_rfl
 liesBuilder:=by kernel_rfl}
def Tryz.lays169_ren:Go.Shelf.Ren:=⟨fun|169=>54|n=>n,fun|70=>82|9=>9|0=>0|72=>84|37=>42|127=>125|3=>3|5=>5|n=>n,fun|n=>n⟩
theorem Tryz.lays169:Go.Proofs.Lays.n169 Tryz.prog Tryz.lays169_ren:={
 mixed:=by kernel_rfl
 f169:=Tryz.func54.trans (aVL some pX)
 t0:=Tryz.underlying0
 a0:=Tryz.isAgg0
 z0:=Tryz.sizeOf0
 v0:=Tryz.zeroValue0
 t3:=Tryz.underlying3
 a3:=Tryz.isAgg3
 z3:=Tryz.sizeOf3
 v3:=Tryz.zeroValue3
 t9:=Tryz.underlying9
 a9:=Tryz.isAgg9
 z9:=Tryz.sizeOf9
 v9:=Tryz.zeroValue9
 t37:=Tryz.underlying42
 a37:=Tryz.isAgg42
 z37:=Tryz.sizeOf42
 v37:=Tryz.zeroValue42
 t70:=Tryz.underlying82
 a70:=Tryz.isAgg82
 z70:=Tryz.sizeOf82
 v70:=Tryz.zeroValue82
 t72:=Tryz.underlying84
 a72:=Tryz.isAgg84
 z72:=Tryz.sizeOf84
 v72:=Tryz.zeroValue84
 t127:=Tryz.underlying125
 a127:=Tryz.isAgg125
 z127:=Tryz.sizeOf125
 v127:=Tryz.zeroValue125}
theorem Tryz.builderExtra:Builder.Extra Tryz.prog Tryz.lays169_ren:={
 sizeBuilder:=by kernel_rfl
 liesBuilder:=by kernel_rfl
 t5:=Tryz.underlying5
 a5:=Tryz.isAgg5
 z5:=Tryz.sizeOf5
 v5:=Tryz.zeroValue5
 infoByte:=by kernel_rfl
 cellsByte:=by kernel_rfl
 sizeByte:=by kernel_rfl
 neB5:=by decide}
end Go.Proofs
namespace Go.Proofs.YtbbpilohihldiaaGreatDoor
open Vc Go.RowKit
theorem aMx {g:Gh}{w w':pU}(hH:sK g w (qW 0 [])) (hb:Below w.heap.size w w'):sK g w' (qW 0 []):=
 ⟨fun _ _ h=>(by cases h),fun _ _ _ _ _ _ _ h=>(by cases h),fun b o h=>aVP (hH.sl b o h) hb.size,⟨PY hH.tab.1 hb.size fun b h=>hb.block b (aVP h hH.tab.1.1),fun _ _ _ _ h=>(by cases h)⟩⟩
theorem NV {P:Program}{f:FuncId}{C:List qI->List qH->Option qQ}(hen: ∀args w,(callFunc f args).run P w= .ok (.enter f args) w)
  (h: ∀(g:Gh) (w:pU) (args:List qI) (vals:pQ) (L:List qH) (r:qQ),KO w->vV g w args vals->C args L=some r->(∀p∈r.side,p)->
   L=[]/\r.H=[]/\Calls P f vals.toArray w (fun e w'=> ∃v,e= .returned v/\Below w.heap.size w w'/\QZ g w' r.ret v)):AX P f C:=by
 refine⟨hen,fun g w args vals L r hH ha hC hs=> ?_⟩;obtain⟨rfl,hr,hc⟩:=h g w args vals L r hH.tab.1 ha hC hs;refine hc.mono fun e w' ⟨v,he,hb,hv⟩=>⟨v,g,he,⟨fun b o h=>⟨h,hb.cell (p:=⟨b,o,none⟩) (hH.sl b o h)⟩,by rw[hr];exact aMx hH hb,hv,⟨hb.os,hb.tape,hb.output,hb.size,fun b h _=>hb.block b h,fun b o h _=>⟨hb.cell (p:=⟨b,o,none⟩) h,hb.frozen (p:=⟨b,o,none⟩) h⟩,fun b o h=> .inl h,fun b s h=> .inl ((F2 (hb.block b (F1 h))).trans h)⟩,(fun i blk b o h=>by rw[hr] at h;cases h),(fun i t x ts h=>by cases h),(fun i t x ts u y us h=>by cases h),(fun _ _ _ h=>h),(fun _ _ _ _ h=>h)⟩⟩
theorem aC6 {P:Program}{f:FuncId}{vals:Array pV}{w:pU}{Q:Ending->Prop}(h:Calls P f vals w fun e w'=>Q e/\w'=w):Calls P f vals w fun e w'=>Q e/\Below w.heap.size w w':=
 h.mono fun e w' ⟨h1,h2⟩=>⟨h1,by rw[h2];exact Below.refl _ _⟩
def uY (s:pG) (c:Int):Int:=Lib.indexByte s (Int.toNat c).toUInt8
@[go_sem] def a1u:List qI->List qH->Option qQ
 |[(.val .str O,none),(.val (.int .u8) Z,none)],[]=>some ⟨[],[(.val (.int .i64) (uY O Z),none)],[]⟩
 |_,_=>none
theorem aMy:AX Tryz.prog 135 a1u:=by
 refine NV (fun _ _=>rfl) fun g w args vals L r hT ha hC hs=> ?_;unfold a1u at hC;split at hC
 .rename_i s c;cases hC;obtain⟨va,_,rfl,ra,vb,_,rfl,rb,hv⟩:=ha;obtain rfl:=zK ra.1;obtain rfl:=wC rb.1;cases hv;exact⟨rfl,rfl,(aC6 (Any.strings_IndexByte Tryz.lays137 ⟨List.toArray s⟩ c w)).mono fun e w' ⟨he,hb⟩=>⟨_,he,hb,wU _ _ _ _,trivial⟩⟩
 .cases hC
@[go_sem] def a1v:List qI->List qH->Option qQ
 |[(.val .str O,none)],[]=>some ⟨[List.length O<=9223372036854775807],[(.val .bool (Lib.validD O),none)],[]⟩
 |_,_=>none
theorem aMz:AX Tryz.prog 243 a1v:=by
 refine NV (fun _ _=>rfl) fun g w args vals L r hT ha hC hs=> ?_;unfold a1v at hC;split at hC
 .rename_i s;cases hC;have h1:=hs _ aVw;obtain⟨va,_,rfl,ra,hv⟩:=ha;obtain rfl:=zK ra.1;cases hv;exact⟨rfl,rfl,(Any.utf8_ValidString Tryz.lays196 ⟨List.toArray s⟩ w h1 hT.2.1).mono fun e w' ⟨he,hb⟩=>⟨_,he,hb,wV _ _ _,trivial⟩⟩
 .cases hC
@[go_sem] def noC:List qI->List qH->Option qQ:=fun _ _=>none
def xF (l:pH):pH:=l.mergeSort fun x y=>decide (x<=y)
@[go_sem] def aC8:(t:Ty)->List t.den->Option (List t.den)
 | .str,l=>some (xF l)
 |_,_=>none
theorem aC9 {g:Gh}{w:pU}: ∀{l:pH}{xs:pQ},tT (Rd g w .str) 1 l xs->xs=l.map Go.Proofs.encStr
 |[],_,h=>h
 |_::_,_,⟨c1,c2,e,_,h2,h3⟩=>by rw[e,show c1=_ from h2,aC9 h3];rfl
theorem aDa {g:Gh}{w:pU}: ∀(l:pH),tT (Rd g w .str) 1 l (l.map Go.Proofs.encStr)
 |[]=>rfl
 |x::l=>⟨[.string ⟨x.toArray⟩],_,rfl,rfl,rfl,aDa l⟩
theorem aMA (s:pH) (cur:Array pV) (h:s.length<=cur.size):(Go.Sort.putCells Go.Proofs.encStr 0 s.toArray cur).toList.take s.length=s.map Go.Proofs.encStr:=by
 apply List.ext_getElem
 .simp [Go.Sort.putCells];omega
 .intro i h1 h2;have hi:i<s.length:=by simpa using h2
  simp only[Go.Sort.putCells,List.getElem_take,Array.getElem_toList,Array.getElem_mapIdx,List.getElem_map];rw[aU8 (by simp;exact hi)];simp [hi]
theorem aMB:AX Tryz.prog 147 noC/\∀F,some aC8=some F->VE Tryz.prog 147 F:=by
 refine⟨⟨fun _ _=>rfl,fun g w args vals L r _ _ hC _=>by cases hC⟩,fun F hF=> ?_⟩;cases hF;intro g w e t l l' v n xs hT hown hF hl hn hf;cases t with
 |str=>
  have hf:xF l=l':=aVe hf;subst hf;subst hl;have hlen:(xF l).length=l.length:=by simp [xF]
  obtain⟨hx,⟨rfl,h0⟩ |⟨b,cap,cur,rfl,hb0,hbk,hnc,hcm,hcs,htk⟩⟩:=hown
  .obtain rfl:l=[]:=aWL.1 h0;refine(Any.slices_Sort_string_none Tryz.lays190 none 0 w).mono ?_;rintro en w' ⟨rfl,rfl⟩;exact⟨rfl,hlen,[],⟨rfl,.inl ⟨rfl,rfl⟩⟩,by simp [xF,tT],⟨rfl,rfl,rfl,aVp _,fun _ _ _=>rfl⟩⟩
  .have hxs:=aC9 hF;subst hxs;have hc1:(Ty.str).cells=1:=rfl;rw[hc1,aXj] at hcs htk;have hbl:b<w.heap.size:=by
    rcases aWm b w.heap.size with h|h
    .exact h
    .rw[Array.getElem?_eq_none h] at hbk;cases hbk
   have hH:Go.Sort.Holds Go.Proofs.encStr w b 0 l.toArray:=by
    intro j hj;have hj':j<l.length:=by simpa using hj
    refine⟨?_,Lib.frozen_of_heap hbk _⟩;rw[Lib.cell_of_heap hbk,aVF];have h2:(cur.toList.take l.length)[j]? =(l.map Go.Proofs.encStr)[j]? :=by rw[htk]
    rw[aXe hj',aWj] at h2;rw[h2];simp [hj']
   refine(Any.slices_Sort_string Tryz.lays190 b 0 cap l w hH hbl hn).mono ?_;rintro en w' ⟨rfl,m,os,rfl⟩;have hsz:(xF l).length<=cur.size:=by rw[hlen,hcs];exact hnc
   have hnew:(Go.Sort.grow (Go.Sort.putRow Go.Proofs.encStr (Go.Sort.ahead w m) b 0 (xF l).toArray) os).heap[b]? =some (.cells (Go.Sort.putCells Go.Proofs.encStr 0 (xF l).toArray cur) e (0,0)):=by
    rw[Go.Sort.heap_grow_old _ _ (by simpa using hbl)];simp [Go.Sort.putRow,Go.Sort.mapBlock,aWH,hbk,Go.Sort.onCells]
   refine⟨rfl,hlen,(xF l).map Go.Proofs.encStr,⟨by simp [hlen,hc1],.inr ⟨b,cap,_,rfl,hb0,hnew,hnc,hcm,?_,?_⟩⟩,aDa _,⟨rfl,rfl,rfl,by simp,fun k hk hne=> ?_⟩⟩
   .rw[hc1,aXj];simpa[Go.Sort.putCells] using hcs
   .rw[hc1,aXj,<-hlen];exact aMA _ _ hsz
   .rw[Go.Sort.heap_grow_old _ _ (by simpa using hk)];have hkb:b≠k:=fun h=>hne (by rw[h];rfl);simp [Go.Sort.putRow,Go.Sort.mapBlock,aWH,hkb]
 |_=>cases hf
def NW (s c:pG):Int:=Lib.index s c
@[go_sem] def a1w:List qI->List qH->Option qQ
 |[(.val .str O,none),(.val .str Z,none)],[]=>some ⟨[List.length O<4294967281],[(.val (.int .i64) (NW O Z),none)],[]⟩
 |_,_=>none
theorem aMC:AX Tryz.prog 173 a1w:=by
 refine NV (fun _ _=>rfl) fun g w args vals L r hT ha hC hs=> ?_;unfold a1w at hC;split at hC
 .rename_i s c;cases hC;have h1:=hs _ aVw;obtain⟨va,_,rfl,ra,vb,_,rfl,rb,hv⟩:=ha;obtain rfl:=zK ra.1;obtain rfl:=zK rb.1;cases hv;obtain⟨m,hm⟩:=hT.2.2.1;exact⟨rfl,rfl,(aC6 (Any.strings_Index Tryz.lays143 ⟨List.toArray s⟩ ⟨List.toArray c⟩ m w h1 hm)).mono fun e w' ⟨he,hb⟩=>⟨_,he,hb,wU _ _ _ _,trivial⟩⟩
 .cases hC
@[go_sem] def a1x:List qI->List qH->Option qQ
 |[(.val .ref (some (0,0)),none)],[.cells (.pair .mref (.pair (.list (.int .u8)) .unit)) ((some (0,0)),O) [(1,1)],.grow Z 1 aA]=>some ⟨[aA=List.length O.1],[],[.cells (.pair .mref (.pair (.list (.int .u8)) .unit)) ((some (0,0)),O) [(1,1)],.grow Z 1 aA]⟩
 |_,_=>none
theorem aMD {g:Gh}{w:pU}{L:List qH}{e:qT}{w':pU}{u v:pV}{r:qQ}(hE:sG g w (qW 0 L) e g w' u)
  (hH: ∀i,qM (qW 0 r.H) i=qM (rD e.upd (qW 0 L)) i) (hin: ∀i,i∈qO e.upd->i<L.length) (hlen:r.H.length=L.length)
  (hp: ∀i blk b o,r.H[i]? =some blk->sE g i blk b o->w.heap.size<=b\/A9 g (qW 0 L) b o)
  (hty: ∀(i:Nat) t x ts u y us,L[i]? =some (.cells t x ts)->r.H[i]? =some (.cells u y us)->u=t)
  (hret:QZ g w' r.ret v):LC g w L r g w' v:=
 ⟨fun b o h=>⟨h,hE.le.cell b o h⟩,hE.heap.ext hH,hret,hE.fr.mono fun b o ⟨i,blk,_,h1,h2⟩=>⟨i,blk,h1,h2⟩,hp,fun _ _ _ _ _=>rfl,hty,fun _ _ _ h=>h,fun _ _ _ _ h=>h⟩
theorem aME {P:Program}{ρ:Go.Shelf.Ren}(L:Lays.n240 P ρ) (X:Builder.X72 P ρ) {e:TypeId}(b:Nat) (w:pU) (h0:w.cell? ⟨b,0,none⟩=some (.pointer none)) (hsh:w.shape? b=some (e,2)) (hl:liesAt P P.depth e (2/P.cellsOf e) 0 (ρ.t 72) 1=true) (hfz:w.frozen? ⟨b,0,none⟩=false):
  Calls P (ρ.f 240) #[.pointer (some ⟨b,0,none⟩)] w fun en w'=>en= .returned (.tuple #[])/\w'=w.setCell ⟨b,0,none⟩ (.pointer (some ⟨b,0,none⟩)):=by
 obtain⟨j,hj,hjs⟩:=aVo.1 X.sizeBuilder;have mixed:=L.mixed;have t72:=L.t72;have a72:=L.a72;have z72:=L.z72;have v72:=L.v72;have u72:=aVu L.t72;have t70:=L.t70;have a70:=L.a70;have z70:=L.z70;have v70:=L.v70;have u70:=aVu L.t70;have t9:=L.t9;have a9:=L.a9;have z9:=L.z9;have v9:=L.v9;have u9:=aVu L.t9;have t4:=L.t4;have a4:=L.a4;have z4:=L.z4;have v4:=L.v4;have u4:=aVu L.t4;have t164:=L.t164;have a164:=L.a164;have z164:=L.z164;have v164:=L.v164;have u164:=aVu L.t164
 go_enter L.f240,Body.n240_ntmps ρ
 go_wp2
 rw[Lib.run_to_unsafe w ⟨b,0,none⟩ L.t70 L.t164 hj (by rw[hjs];decide) hsh (Nat.zero_lt_succ 1)];simp only[Result.andThen];rw[Oper.upon_value]
 go_wp2
 rw[run_callFunc_extern L.f276 pX pX pX (e:=Extern.AbiNoEscape.same) pX];rw[Lib.run_noEscape];simp only[Result.andThen];rw[Oper.upon_value]
 go_wp2
 rw[Lib.run_from_unsafe w ⟨b,0,none⟩ L.t164 L.t70 hj hsh hl];simp only[Result.andThen];rw[Oper.upon_value]
 go_wp2
 go_end0
 exact⟨rfl,rfl⟩
theorem aMF:AX Tryz.prog 93 a1x:=by
 refine⟨fun _ _=>rfl,fun g w args vals L r hH ha hC hs=> ?_⟩;unfold a1x at hC;split at hC
 .rename_i O Z aA;cases hC;obtain⟨va,_,rfl,ra,hv⟩:=ha;cases hv;have hg0:qM (qW 0 [qH.cells (.pair .mref (.pair (.list (.int .u8)) .unit)) ((some (0,0)),O) [(1,1)],.grow Z 1 aA]) 0=some (.cells (.pair .mref (.pair (.list (.int .u8)) .unit)) ((some (0,0)),O) [(1,1)]):=rfl;obtain⟨p,cs,hJ,hR,hra,hth,hns,htk⟩:=hH.blk 0 _ hg0;obtain⟨c1,c2,rfl,hR1,hR2⟩:=hR;obtain⟨p',hJ',⟨hp0,eb,heb,hk3⟩,hc1⟩:=hR1;rw[hJ] at hJ';obtain rfl:=aVe hJ';obtain⟨b,o,k⟩:=p;have ho:o=0:=by simpa using hp0
  subst ho;have hlies:liesAt Tryz.prog Tryz.prog.depth eb (2/Tryz.prog.cellsOf eb) 0 84 1=true:=by
   unfold ZC at heb;split at heb
   .rename_i h;subst h;kernel_rfl
   .split at heb
    .rename_i h;subst h;kernel_rfl
    .cases heb
  have hva:va= .pointer (some ⟨b,0,none⟩):=by
   obtain⟨q,hq,e⟩:=A0 ra.1;rw[hJ] at hq;cases hq;exact e
  subst hva;have hsh:w.shape? b=some (eb,2):=hth.2 pK _ hk3;rcases hc1 with rfl|rfl
  .have h0:w.cell? ⟨b,0,none⟩=some (.pointer none)/\w.frozen? ⟨b,0,none⟩=false:=⟨hra 0 _ rfl,(hth.1 0 pK).2⟩;refine(aME Tryz.lays240 Tryz.builderX72 b w h0.1 hsh hlies h0.2).mono ?_;rintro en w' ⟨rfl,rfl⟩;refine⟨_,g,rfl,?_⟩;have hE:=sG.store (side:=[]) (rds:=[]) hH (i:=0) (t:= .mref) (y:=some (0,0)) (off:=0) (k:=none) (p:=⟨b,0,k⟩) (cy:=[.pointer (some ⟨b,0,none⟩)]) (v:= .pointer (some ⟨b,0,none⟩)) hg0 hJ (z:=((some (0,0)),O)) pY ⟨_,hJ,⟨rfl,_,heb,hk3⟩,.inr rfl⟩ trivial (fun _ _ h=>by cases h) (fun _=>rfl);refine aMD hE.1 ?_ ?_ rfl ?_ ?_ ?_
   .intro i
    match i with
    |0=>rfl
    |1=>rfl
    |i+2=>rfl
   .intro i hi;simp [qO] at hi;subst hi;exact Nat.zero_lt_succ _
   .intro i blk b o hi ho;exact .inr ⟨i,blk,by rw[VD];simpa using hi,ho⟩
   .intro i t x ts u y us h1 h2;rw[h1] at h2;cases h2;rfl
   .exact⟨[],rfl,rfl⟩
  .have h0:w.cell? ⟨b,0,none⟩=some (.pointer (some ⟨b,0,none⟩)):=hra 0 _ rfl;refine(Any.Builder_copyCheck_used Tryz.lays240 Tryz.builderX72 b w h0).mono ?_;rintro en w' ⟨rfl,rfl⟩;refine⟨_,g,rfl,⟨fun b o h=>⟨h,rfl⟩,hH,⟨[],rfl,rfl⟩,Fr.refl _ _ _,?_,fun _ _ _ _ _=>rfl,?_,fun _ _ _ h=>h,fun _ _ _ _ h=>h⟩⟩
   .intro i blk b o hi ho;exact .inr ⟨i,blk,by rw[VD];simpa using hi,ho⟩
   .intro i t x ts u y us h1 h2;rw[h1] at h2;cases h2;rfl
 .cases hC
theorem aDb {P:Program}(w:pU): ∀(l:pP) (a:Addr) (acc:ByteArray),(∀j x,l[j]? =some x->w.cell? (a.add j)=some (.int .u8 x))->
  (loadBytes a acc l.length).run P w= .ok ⟨acc.data++(tE l).toArray⟩ w
 |[],a,acc,_=>by simp [loadBytes,tE]
 |x::l,a,acc,h=>by
  have h0:w.cell? a=some (.int .u8 x):=by
   have:=h 0 x rfl;simpa[Addr.add] using this
  have ih:=aDb (P:=P) w l (a.add 1) (acc.push (UInt8.ofNat x.toNat)) (fun j y hy=>by
   have:=h (j+1) y (by simpa using hy);have e:(a.add 1).add j=a.add (j+1):=by
    unfold Addr.add;by_cases hj:j=0
    .subst hj;simp
    .simp [hj];omega
   rw[e];exact this)
  have hx:x.toNat.toUInt8=UInt8.ofNat x.toNat:=rfl;simp only[aVd,loadBytes,aVn,run_load,h0,Result.andThen,hx];rw[ih];congr 1;apply ByteArray.ext;simp [ByteArray.push,tE]
theorem aMG {P:Program}(w:pU) (pt it ty e:TypeId) (hp:P.underlying pt=some (.pointer e)) (hc:P.cellsOf e=1) (g cells:Nat) (hsh:w.shape? g=some (e,cells)) (l:pP) (h0:l≠[]) (hn:l.length<=cells) (h63:l.length<=9223372036854775807)
  (hcell: ∀j x,l[j]? =some x->w.cell? ((⟨g,0,none⟩:Addr).add j)=some (.int .u8 x)):
  (Builtin.unsafeString_ #[pt,it] ty #[.pointer (some ⟨g,0,none⟩),.int .i64 l.length]).run P w= .ok (.string ⟨(tE l).toArray⟩) (w.freeze ⟨g,0,none⟩ l.length):=by
 have hl:l.length≠0:=by simpa using h0
 have hlb:=aDb (P:=P) w l ⟨g,0,none⟩ .empty hcell;have hlies:=Lib.liesAt_bytes (P:=P) hc (cells/P.cellsOf e) l.length (by rw[hc];simpa using hn);have h63': ¬(9223372036854775807:Int)<(l.length:Int):=by omega
 have hdef:Builtin.unsafeString_ #[pt,it] ty #[.pointer (some ⟨g,0,none⟩),.int .i64 l.length]=
   (do
    let n<-asInt (.int .i64 l.length)
    if n<0 then runtimePanic (.error "unsafe.String: len out of range")
    if n>IntKind.i64.max then unsupported (.unsafePointer "String: a length above the largest int")
    if n=0 then pure (.string .empty)
    else if<-variablesAt ⟨g,0,none⟩ (<-elemOf pt) n.toNat then do
     let s<-loadBytes ⟨g,0,none⟩ .empty n.toNat
     freeze ⟨g,0,none⟩ n.toNat
     pure (.string s)
    else unsupported (.unsafePointer "String: not so many bytes at ptr")):=rfl
 rw[hdef];have hmax:IntKind.i64.max=9223372036854775807:=rfl;have hneg: ¬(l.length:Int)<0:=by omega
 simp [asInt,asIntOf,hmax,h63',hneg,hl,variablesAt,hsh,elemOf,aVu hp,hlies,hlb]
theorem a1y {P:Program}{ρ:Go.Shelf.Ren}(L:Lays.n169 P ρ) (X:Builder.Extra P ρ) (b n cap:Nat) (a q:Option Addr) (s:ByteArray) (w w2:pU)
  (c1:w.drew.cell? ⟨b,1,none⟩=some (.slice a n cap)) (hSD:(Builtin.unsafeSliceData_ #[(ρ.t 37)] (ρ.t 127) #[.slice a n cap]).run P w.drew= .ok (.pointer q) w.drew)
  (hUS:(Builtin.unsafeString_ #[(ρ.t 127),(ρ.t 3)] (ρ.t 9) #[.pointer q,.int .i64 n]).run P w.drew= .ok (.string s) w2):
  Calls P (ρ.f 169) #[.pointer (some ⟨b,0,none⟩)] w fun e w'=>e= .returned (.string s)/\w'=w2:=by
 have mixed:=L.mixed;have t72:=L.t72;have a72:=L.a72;have z72:=L.z72;have v72:=L.v72;have u72:=aVu L.t72;have t70:=L.t70;have a70:=L.a70;have z70:=L.z70;have v70:=L.v70;have u70:=aVu L.t70;have t37:=L.t37;have a37:=L.a37;have z37:=L.z37;have v37:=L.v37;have u37:=aVu L.t37;have t127:=L.t127;have a127:=L.a127;have z127:=L.z127;have v127:=L.v127;have u127:=aVu L.t127;have t3:=L.t3;have a3:=L.a3;have z3:=L.z3;have v3:=L.v3;have u3:=aVu L.t3;have t9:=L.t9;have a9:=L.a9;have z9:=L.z9;have v9:=L.v9;have u9:=aVu L.t9;have t5:=X.t5;have a5:=X.a5;have z5:=X.z5;have v5:=X.v5;have u5:=aVu X.t5
 go_enter L.f169,Body.n169_ntmps ρ
 go_wp2
 go_region_o
 all_goals (go_wp2;go_ret;exact⟨rfl,rfl⟩)
theorem aMH {P:Program}{ρ:Go.Shelf.Ren}(L:Lays.n169 P ρ) (X:Builder.Extra P ρ) (b g:Nat) (cur:Array pV) (w:pU) (hlt:b<w.heap.size)
  (c1:w.drew.cell? ⟨b,1,none⟩=some (.slice (some ⟨g,0,none⟩) 0 0)) (hg:w.drew.heap[g]? =some (.cells cur (ρ.t 5) (0,0))):
  Calls P (ρ.f 169) #[.pointer (some ⟨b,0,none⟩)] w fun e w'=>e= .returned (.string ⟨#[]⟩)/\w'=w.drew.alloc (.view ⟨g,0,none⟩ (ρ.t 5)):=by
 have hUS:=Any.unsafeString_none L X;have hSD:(Builtin.unsafeSliceData_ #[(ρ.t 37)] (ρ.t 127) #[.slice (some ⟨g,0,none⟩) 0 0]).run P w.drew= .ok (.pointer (some ⟨w.drew.heap.size,0,none⟩)) (w.drew.alloc (.view ⟨g,0,none⟩ (ρ.t 5))):=
  Lib.run_unsafeSliceData_zero w.drew _ _ (ρ.t 5) L.t127 ⟨g,0,none⟩ 0 ((ρ.t 5),cur.size) (by simp [World.shape?,hg])
 have c2:(w.drew.alloc (.view ⟨g,0,none⟩ (ρ.t 5))).cell? ⟨b,1,none⟩=some (.slice (some ⟨g,0,none⟩) 0 0):=
  (aVB (a:=⟨b,1,none⟩) (Lib.alloc_old w.drew _ b hlt)).trans c1
 have c3:(w.alloc (.view ⟨g,0,none⟩ (ρ.t 5))).drew.cell? ⟨b,1,none⟩=some (.slice (some ⟨g,0,none⟩) 0 0):=c2;have c0:w.cell? ⟨b,1,none⟩=some (.slice (some ⟨g,0,none⟩) 0 0):=c1;have mixed:=L.mixed;have t72:=L.t72;have a72:=L.a72;have z72:=L.z72;have v72:=L.v72;have u72:=aVu L.t72;have t70:=L.t70;have a70:=L.a70;have z70:=L.z70;have v70:=L.v70;have u70:=aVu L.t70;have t37:=L.t37;have a37:=L.a37;have z37:=L.z37;have v37:=L.v37;have u37:=aVu L.t37;have t127:=L.t127;have a127:=L.a127;have z127:=L.z127;have v127:=L.v127;have u127:=aVu L.t127;have t3:=L.t3;have a3:=L.a3;have z3:=L.z3;have v3:=L.v3;have u3:=aVu L.t3;have t9:=L.t9;have a9:=L.a9;have z9:=L.z9;have v9:=L.v9;have u9:=aVu L.t9;have t5:=X.t5;have a5:=X.a5;have z5:=X.z5;have v5:=X.v5;have u5:=aVu X.t5
 go_enter L.f169,Body.n169_ntmps ρ
 go_wp2
 go_region_o
 all_goals (go_wp2;go_ret;exact⟨rfl,rfl⟩)
@[go_sem] def a1z:List qI->List qH->Option qQ
 |[(.val .ref (some (0,0)),none)],[.cells (.pair .mref (.pair (.list (.int .u8)) .unit)) ((some (0,0)),O) [(1,1)],.grow 5 1 Z]=>some ⟨[Z=List.length O.1],[(.val .str (tE O.1),none)],[.cells (.pair .mref (.pair (.list (.int .u8)) .unit)) ((some (0,0)),O) [],.dead]⟩
 |_,_=>none
theorem a1A {g:Gh}{w w':pU}{m:pR}{b:(Ty.pair (.list (.int .u8)) .unit).den}{e n:Nat}{s:pG}{sd:List Prop}(hH:sK g w (qW 0 [qH.cells (.pair .mref (.pair (.list (.int .u8)) .unit)) (m,b) [(1,1)],.grow e 1 n]))
  (hos:w'.os=w.os) (htape:w'.tape=w.tape) (hout:w'.output=w.output) (hsz:w.heap.size<=w'.heap.size)
  (hcell: ∀b o,b<w.heap.size->w'.cell? ⟨b,o,none⟩=w.cell? ⟨b,o,none⟩) (hshape: ∀b s,w.shape? b=some s->w'.shape? b=some s)
  (hblk: ∀b,b<w.heap.size->(∀o,¬sE g 1 (.grow e 1 n) b o)->w'.heap[b]? =w.heap[b]?):
  LC g w [qH.cells (.pair .mref (.pair (.list (.int .u8)) .unit)) (m,b) [(1,1)],.grow e 1 n] ⟨sd,[(.val .str s,none)],[.cells (.pair .mref (.pair (.list (.int .u8)) .unit)) (m,b) [],.dead]⟩ g w' (.string ⟨s.toArray⟩):=by
 have hg0:qM (qW 0 [qH.cells (.pair .mref (.pair (.list (.int .u8)) .unit)) (m,b) [(1,1)],.grow e 1 n]) 0=some (.cells (.pair .mref (.pair (.list (.int .u8)) .unit)) (m,b) [(1,1)]):=rfl;have hg1:qM (qW 0 [qH.cells (.pair .mref (.pair (.list (.int .u8)) .unit)) (m,b) [(1,1)],.grow e 1 n]) 1=some (.grow e 1 n):=rfl;have hle:Le g w g w':=⟨fun _ _ h=>h,fun b o h=>hcell b o (hH.sl b o h),fun _ _ h=>h,fun _ _ _ h=>h⟩;have hno: ∀c o,sE g 0 (.cells (.pair .mref (.pair (.list (.int .u8)) .unit)) (m,b) [(1,1)]) c o->∀o',¬sE g 1 (.grow e 1 n) c o':=fun c o h o' h'=>by
  obtain⟨v,hv,hb⟩:=h';exact hH.dis 0 1 _ _ c o pK hg0 hg1 h ⟨v,hv,hb⟩
 obtain⟨p,cs,hJ,hR,hra,hth,hns,htk⟩:=hH.blk 0 _ hg0;have hown0: ∀j,j<2->sE g 0 (.cells (.pair .mref (.pair (.list (.int .u8)) .unit)) (m,b) [(1,1)]) p.1 (p.2+j):=fun j hj=>⟨p,hJ,rfl,Nat.le_add_right _ _,Nat.add_lt_add_left hj _⟩;have hpl:p.1<w.heap.size:=QO (hH.blk 0 _ hg0) (hown0 0 pK);have hpb:w'.heap[p.1]? =w.heap[p.1]? :=hblk p.1 hpl (hno p.1 _ (hown0 0 pK));have hbk0:AT g w' 0 (.cells (.pair .mref (.pair (.list (.int .u8)) .unit)) (m,b) []):=
  ⟨p,cs,hJ,wT hle hR,fun j v hj=>(hcell _ _ hpl).trans (hra j v hj),⟨fun j hj=>by
   have h1:=hth.1 j hj;rw[hcell _ _ hpl];exact⟨h1.1,(aWb (a:=⟨p.1,p.2+j,none⟩) hpb).trans h1.2⟩,fun h s hs=>hshape _ _ (hth.2 h s hs)⟩,hns,fun _ _ h=>by cases h⟩
 refine⟨fun b o h=>⟨h,hcell b o (hH.sl b o h)⟩,?_,(show s3 g w' (.val .str s,none) (.string ⟨s.toArray⟩) from⟨HI _ _ _,trivial⟩),⟨hos,htape,hout,hsz,?_,?_,fun _ _ h=> .inl h,fun b s h=> .inl (hshape b s h)⟩,?_,fun _ _ _ _ _=>rfl,?_,fun _ _ _ h=>h,fun _ _ _ _ h=>h⟩
 .refine⟨fun i blk h=> ?_,fun i j bi bj c o hij hi hj hoi hoj=> ?_,fun b o h=>aVP (hH.sl b o h) hsz,PY hH.tab.1 hsz (fun c hc=>hblk c (aVP hc hH.tab.1.1) fun o ho=>absurd (hH.tab.2 1 _ c o hg1 ho) pJ),fun i blk c o h ho=> ?_⟩
  .match i,h with
   |0,h=>cases h;exact hbk0
   |1,h=>cases h;trivial
   |i+2,h=>simp [qW,qM] at h
  .match i,j,hi,hj with
   |0,0,_,_=>exact hij rfl
   |0,1,_,hj=>cases hj;exact hoj
   |1,_,hi,_=>cases hi;exact hoi
   |0,j+2,_,hj=>simp [qW,qM] at hj
   |i+2,_,hi,_=>simp [qW,qM] at hi
  .match i,h with
   |0,h=>cases h;exact hH.tab.2 0 _ c o hg0 ho
   |1,h=>cases h;exact ho.elim
   |i+2,h=>simp [qW,qM] at h
 .intro c hc hn;exact hblk c hc fun o ho=>hn o ⟨1,_,hg1,ho⟩
 .intro c o hc hn;exact⟨hcell c o hc,aWb (a:=⟨c,o,none⟩) (hblk c hc fun o' ho=>hn ⟨1,_,hg1,by obtain⟨v,hv,hb⟩:=ho;exact⟨v,hv,hb⟩⟩)⟩
 .intro i blk c o hi ho
  match i,hi with
  |0,hi=>cases hi;exact .inr ⟨0,_,hg0,ho⟩
  |1,hi=>cases hi;exact ho.elim
  |i+2,hi=>simp at hi
 .intro i t x ts u y us h1 h2
  match i,h1,h2 with
  |0,h1,h2=>cases h1;cases h2;rfl
  |1,h1,_=>cases h1
  |i+2,h1,_=>simp at h1
theorem aMI (w:pU) (a p:Addr) (n:Nat):(w.freeze a n).cell? p=w.cell? p:=by
 unfold World.freeze;split
 .rfl
 .simp only[World.cell?,aWH];by_cases h:a.block=p.block
  .rw[aU8 h];cases w.heap[p.block]? with
   |none=>rfl
   |some o=>cases o<;>rfl
  .rw[aVa h]
theorem aMJ (w:pU) (a:Addr) (n b:Nat):(w.freeze a n).shape? b=w.shape? b:=by
 unfold World.freeze;split
 .rfl
 .simp only[World.shape?,aWH];by_cases h:a.block=b
  .rw[aU8 h];cases w.heap[b]? with
   |none=>rfl
   |some o=>cases o<;>rfl
  .rw[aVa h]
theorem aMK (w:pU) (a:Addr) (n b:Nat) (h:b≠a.block):(w.freeze a n).heap[b]? =w.heap[b]? :=by
 unfold World.freeze;split
 .rfl
 .simp only[aWH];rw[aVa (Ne.symm h)]
theorem aML (w:pU) (a:Addr) (n:Nat):(w.freeze a n).os=w.os/\(w.freeze a n).tape=w.tape/\(w.freeze a n).output=w.output/\(w.freeze a n).heap.size=w.heap.size:=by
 unfold World.freeze;split
 .exact⟨rfl,rfl,rfl,rfl⟩
 .exact⟨rfl,rfl,rfl,by simp⟩
theorem aDc {g:Gh}{w:pU}{b:Nat}: ∀{l:pP}{o:Nat},yU (Rd g w (.int .u8)) w g.S 1 b o l->∀j x,l[j]? =some x->w.cell? ⟨b,o+j,none⟩=some (.int .u8 x)
 |[],_,_,_,_,h=>by cases h
 |y::l,o,⟨⟨cs,_,hra,_,hR⟩,hl⟩,j,x,h=>by
  match j,h with
  |0,h=>
   cases h;have hR:cs=[.int .u8 y]:=hR;subst hR;exact hra 0 _ rfl
  |j+1,h=>
   have:=aDc hl j x (by simpa using h);rw[show o+(j+1)=o+1+j by omega];exact this
theorem aMM {u:Ty}{m:pR}{bv:(Ty.pair (.list (.int .u8)) .unit).den}{l:List u.den}(hget:rN (.list u) (.pair .mref (.pair (.list (.int .u8)) .unit)) (m,bv) 1=some l):l.length=bv.1.length:=by
 have h2:rN (.list u) (.list (.int .u8)) bv.1 0=some l:=hget;simp only[rN] at h2;split at h2
 .rename_i h;injection h with h
  subst h;cases h2;rfl
 .cases h2
theorem aMN:AX Tryz.prog 54 a1z:=by
 refine⟨fun _ _=>rfl,fun g w args vals L r hH ha hC hs=> ?_⟩;unfold a1z at hC;split at hC
 .rename_i bv n;cases hC;obtain rfl:n=List.length bv.1:=hs _ pL;obtain⟨va,_,rfl,ra,hv⟩:=ha;cases hv;have hg0:qM (qW 0 [qH.cells (.pair .mref (.pair (.list (.int .u8)) .unit)) ((some (0,0)),bv) [(1,1)],.grow 5 1 (List.length bv.1)]) 0=some (.cells (.pair .mref (.pair (.list (.int .u8)) .unit)) ((some (0,0)),bv) [(1,1)]):=rfl;have hg1:qM (qW 0 [qH.cells (.pair .mref (.pair (.list (.int .u8)) .unit)) ((some (0,0)),bv) [(1,1)],.grow 5 1 (List.length bv.1)]) 1=some (.grow 5 1 (List.length bv.1)):=rfl;obtain⟨p,cs,hJ,hR,hra,hth,hns,htk⟩:=hH.blk 0 _ hg0;obtain⟨v',xs,hv',hown,hmax,hsl⟩:=hH.blk 1 _ hg1;obtain⟨c1,c2,rfl,hR1,hR2⟩:=hR;obtain⟨d1,d2,rfl,⟨a,cap,rfl,hcap,hl⟩,hd2⟩:=hR2;obtain⟨p',hJ',⟨hp0,_,_,_⟩,hc1⟩:=hR1;rw[hJ] at hJ';obtain rfl:=aVe hJ';obtain⟨b,o,k⟩:=p;have ho:o=0:=by simpa using hp0
  subst ho;have hlen1:c1.length=1:=by rcases hc1 with rfl|rfl<;>rfl
  obtain⟨q,hq,hva⟩:=A0 ra.1;rw[hJ] at hq;cases hq;subst hva;have hcell1:w.cell? ⟨b,1,none⟩=some (.slice a bv.1.length cap):=hra 1 _ (by rw[aVl pJ,hlen1];rfl);obtain⟨u,l,v,hget,hcv,hcur⟩:=htk 1 1 pL;have hvv:v= .slice a bv.1.length cap:=by
   rw[aVl pJ,hlen1] at hcv;exact(aVe hcv).symm
  have hll:l.length=bv.1.length:=aMM hget;rw[hll,hv',hvv] at hcur;obtain rfl:=aVe hcur;have hbl:b<w.heap.size:=V3 hcell1;have hdr: ∀(s:pG) (sd:List Prop),LC g w _ ⟨sd,[(.val .str s,none)],[.cells (.pair .mref (.pair (.list (.int .u8)) .unit)) ((some (0,0)),bv) [],.dead]⟩ g w.drew (.string ⟨s.toArray⟩):=fun s sd=>
   a1A hH rfl rfl rfl (aVp _) (fun _ _ _=>rfl) (fun _ _ h=>h) (fun _ _ _=>rfl)
  obtain⟨hx,⟨hnil,h0⟩ |⟨gb,cap',cur,hsl',hb0,hbk,hnc,hcm,hcs,htake⟩⟩:=hown
  .have hb0:bv.1=[]:=aWL.1 h0;have hz:tE bv.1=[]:=by rw[hb0];rfl
   have hl0:List.length bv.1=0:=h0;injection hnil with e1 e2 e3
   subst e1;subst e3;refine(a1y Tryz.lays169 Tryz.builderExtra b bv.1.length 0 none none .empty w w.drew hcell1 rfl (by rw[hl0];exact Any.unsafeString_none Tryz.lays169 Tryz.builderExtra w.drew none)).mono ?_;rintro e w' ⟨rfl,rfl⟩;exact⟨_,g,rfl,by rw[hz];exact hdr [] _⟩
  .injection hsl' with e1 e2 e3
   subst e1;subst e3;have hsz:bv.1.length<=cur.size:=by omega
   by_cases hb0:bv.1=[]
   .have hz:tE bv.1=[]:=by rw[hb0];rfl
    have hl0:List.length bv.1=0:=by rw[hb0];rfl
    by_cases hc0:cap=0
    .subst hc0;rw[hl0] at hcell1;refine(aMH Tryz.lays169 Tryz.builderExtra b gb cur w hbl hcell1 hbk).mono ?_;rintro e w' ⟨rfl,rfl⟩;have hold: ∀c,c<w.heap.size->(w.drew.alloc (.view ⟨gb,0,none⟩ 5)).heap[c]? =w.heap[c]? :=fun c hc=>Lib.alloc_old w.drew _ c hc;refine⟨_,g,rfl,?_⟩;rw[hz];exact a1A hH rfl rfl rfl pL (fun c o hc=>aVB (a:=⟨c,o,none⟩) (hold c hc)) (fun c s h=>(F2 (hold c (F1 h))).trans h) (fun c hc _=>hold c hc)
    .refine(a1y Tryz.lays169 Tryz.builderExtra b bv.1.length cap (some ⟨gb,0,none⟩) (some ⟨gb,0,none⟩) .empty w w.drew hcell1 (Lib.run_unsafeSliceData_row _ _ _ _ _ _ hc0) (by rw[hl0];exact Any.unsafeString_none Tryz.lays169 Tryz.builderExtra w.drew _)).mono ?_;rintro e w' ⟨rfl,rfl⟩;exact⟨_,g,rfl,by rw[hz];exact hdr [] _⟩
   .have hcap0:cap≠0:=fun h=>hb0 (aWL.1 pJ);have hcb: ∀j x,bv.1[j]? =some x->w.cell? ⟨gb,j,none⟩=some (.int .u8 x):=by
     rcases hl with hl|⟨b',o',ha',hl⟩
     .exact absurd hl hb0
     .cases ha';intro j x hj;have:=aDc hl j x hj;rwa [aVF] at this
    have hbk':w.drew.heap[gb]? =some (.cells cur 5 (0,0)):=hbk;have hshp:w.drew.shape? gb=some (5,cur.size):=by simp only[World.shape?,hbk']
    refine(a1y Tryz.lays169 Tryz.builderExtra b bv.1.length cap (some ⟨gb,0,none⟩) (some ⟨gb,0,none⟩) ⟨(tE bv.1).toArray⟩ w (w.drew.freeze ⟨gb,0,none⟩ bv.1.length) hcell1 (Lib.run_unsafeSliceData_row _ _ _ _ _ _ hcap0)
     (aMG w.drew _ _ _ 5 (Tryz.lays169).t127 (Tryz.builderExtra).cellsByte gb cur.size hshp bv.1 hb0 hsz (by unfold maxLen at hcm;omega) (fun j x h=>by rw[aWt,aVF];exact hcb j x h))).mono ?_
    rintro e w' ⟨rfl,rfl⟩;refine⟨_,g,rfl,?_⟩;have hblk: ∀c,(∀o,¬sE g 1 (.grow 5 1 (List.length bv.1)) c o)->(w.drew.freeze ⟨gb,0,none⟩ bv.1.length).heap[c]? =w.heap[c]? :=fun c hc=>aMK w.drew _ _ c fun e=>hc 0 ⟨_,hv',by rw[e];rfl⟩;have hr:=aML w.drew ⟨gb,0,none⟩ bv.1.length;refine a1A hH hr.1 hr.2.1 hr.2.2.1 (aWO hr.2.2.2.symm) (fun c o _=>aMI w.drew _ _ _) (fun c s h=>(aMJ w.drew _ _ c).trans h) (fun c _ hc=>hblk c hc)
 .cases hC
theorem aDd:tU Tryz.prog 149 ⟨(.pair .str (.pair .str .unit)),0,0,false,[]⟩:=⟨pX,(show ((_/\∃_,_/\_)\/_)/\_ from⟨.inl ⟨rfl,_,Tryz.underlying149,(show _/\_/\_/\_ from⟨rfl,pX,pX,(show _/\_/\_/\_ from⟨rfl,pX,pX,trivial⟩)⟩)⟩,(fun h=>absurd h pK)⟩)⟩
theorem W8 {P:Program}(w:pU) (dT sT ty elem:TypeId) (sz g o dLen dCap:Nat) (a:Addr) (sLen sCap:Nat) (cur:Array pV) (t:TypeId) (cs:pQ)
  (hu:P.underlying dT=some (.slice elem)) (hs:(P.info? elem).map (·.size)=some sz)
  (hg:w.heap[g]? =some (.cells cur t (0,0))) (hn:cs.length=Nat.min sLen dLen*sz)
  (hsrc: ∀j v,cs[j]? =some v->w.cell? (a.add j)=some v) (hfit:o+cs.length<=cur.size) (h1: ∀v∈cs,v.oneCell'=true):
  (Builtin.copy_ #[dT,sT] ty #[.slice (some ⟨g,o,none⟩) dLen dCap,.slice (some a) sLen sCap]).run P w=
   .ok (goInt (Nat.min sLen dLen:Nat)) (w.setRow g (cur.toList.take o++cs++cur.toList.drop (o+cs.length)).toArray):=by
 have hl:=run_loadCells_list (P:=P) w a cs hsrc;have hst:=run_storeCells_at P g o t cs 0 cur w hg (by simpa using hfit) h1;cases hq:P.info? elem with
 |none=>simp [hq] at hs
 |some i=>
  have hi:i.size=sz:=by simpa[hq] using hs
  simp [Builtin.copy_,aVu hu,Builtin.lenOf,Builtin.firstCells,sizeOf,typeInfo,hq,hi,<-hn,hl,hst]
theorem aMO {P:Program}(w:pU) (tS tR e:TypeId) (ht:P.underlying tS=some (.slice e)) (size:Nat) (hz: ∀w,(Go.sizeOf e).run P w= .ok size w)
  (a b:Addr) (la ca lb cb:Nat) (hne:a.block≠b.block) (tA tB:TypeId) (kA kB:Nat)
  (hsa:w.shape? a.block=some (tA,kA)) (hkA:kA≠0) (hsb:w.shape? b.block=some (tB,kB)) (hfb: ∀o,w.frozen? ⟨b.block,o,none⟩=false) (hsp:b.spot=none):
  (Extern.SlicesOverlaps.overlaps #[tS,tS] #[tR] #[.slice (some a) la ca,.slice (some b) lb cb]).run P w= .ok (.bool false) w:=by
 have hnb:(a.block != b.block)=true:=by simpa using hne
 have hnb':(a.block==b.block)=false:=by simpa using hne
 have hfb1:w.frozen? b=false:=by
  obtain⟨bb,bo,bs⟩:=b;cases hsp;exact hfb bo
 have hfb2:=hfb kB;change Sem.run P (α:=pV) (do
  let some t:=(#[tS,tS]:Array TypeId)[0]? |stuck "slices.overlaps: no parameter types"
  let .slice elem<-underlying t|stuck "slices.overlaps: slice type expected"
  let size<-sizeOf elem
  match (some a:Option Addr),(some b:Option Addr) with
  |some a,some b=>
   if la=0\/lb=0\/size=0 then pure (Value.bool false)
   else if a.block != b.block&&(<-frozen a)&&(<-frozen b) then unsupported .addressObserved
   else do
    if a.block != b.block then do
     noView a;noView b
     if<-mayBeOne a b then return Value.bool ((<-choose (.extern "sameAddr.stringBytes" 2))==1)
    pure (Value.bool (a.block==b.block&&a.off<b.off+lb*size&&b.off<a.off+la*size))
  |_,_=>pure (Value.bool false)) w=_
 by_cases h0:la=0\/lb=0\/size=0
 .simp [aVu ht,hz,h0]
 .cases kA with
  |zero=>exact absurd rfl hkA
  |succ kA=>
   cases hfa:w.frozen? a<;>cases hfe:w.frozen? {block:=a.block,off:=kA+1}<;>
   simp [aVu ht,hz,h0,hnb,hnb',frozen,noView,viewAt,mayBeOne,stringish,shape,Sem.run,hsa,hsb,hfb1,hfb2,hfa,hfe]
theorem aMP {α:Type}{l:List α}{i n:Nat}(hin:i<=n):(l.drop (i*2)).take ((n-i)*2)=(l.take (n*2)).drop (i*2):=by
 rw[List.drop_take,show n*2-i*2=(n-i)*2 by omega]
theorem aDe {α:Type}{l:List α}{i n:Nat}{v:α}(h:v∈(l.drop (i*2)).take ((n-i)*2)):v∈l.take (n*2):=by
 rw[show (n-i)*2=n*2-i*2 by omega,<-List.drop_take] at h;exact List.mem_of_mem_drop h
theorem aMQ {cur c1 c2:Array pV}{mid vs:pQ}{i n m:Nat}(hc1:c1=(cur.toList.take ((i+m)*2)++mid++cur.toList.drop ((i+m)*2+mid.length)).toArray) (hc2:c2=(c1.toList.take (i*2)++vs++c1.toList.drop (i*2+vs.length)).toArray)
  (hml:mid.length=(n-i)*2) (hvl:vs.length=m*2) (hcur:(n+m)*2<=cur.toList.length) (hin:i<=n):c2.toList.take ((n+m)*2)=cur.toList.take (i*2)++vs++mid:=by
 have e1:c1.toList=cur.toList.take ((i+m)*2)++(mid++cur.toList.drop ((i+m)*2+mid.length)):=by rw[hc1,aVi]
 have l1:(cur.toList.take ((i+m)*2)).length=(i+m)*2:=by rw[aVx];omega
 have e2:c1.toList.take (i*2)=cur.toList.take (i*2):=by
  rw[e1,aV5 pJ,List.take_take,Nat.min_eq_left pJ]
 have e3:c1.toList.drop (i*2+vs.length)=mid++cur.toList.drop ((i+m)*2+mid.length):=by
  rw[e1,hvl,show i*2+m*2=(cur.toList.take ((i+m)*2)).length by omega,aWR]
 have l2:(cur.toList.take (i*2)).length=i*2:=by rw[aVx];omega
 have e4:c2.toList=(cur.toList.take (i*2)++vs++mid)++cur.toList.drop ((i+m)*2+mid.length):=by rw[hc2,e2,e3];simp only[aVi]
 rw[e4,show (n+m)*2=(cur.toList.take (i*2)++vs++mid).length by simp only[aVc];omega,aWu]
theorem aMR (b n c i vb voff m vc:Nat) (cur:Array pV) (vs:pQ) (w:pU) (hi:i<n) (hm:0<m) (hroom:n+m<=c) (hc63:c<=maxLen) (hvb:vb≠b)
  (hg:w.heap[b]? =some (.cells cur 149 (0,0))) (hcs:cur.size=c*2) (hvl:vs.length=m*2)
  (hvs: ∀j v,vs[j]? =some v->w.cell? ⟨vb,voff+j,none⟩=some v) (h1: ∀v∈cur.toList.take (n*2),v.oneCell'=true) (h1v: ∀v∈vs,v.oneCell'=true):
  Calls Tryz.prog 240 #[.slice (some ⟨b,0,none⟩) n c,.int .i64 i,.slice (some ⟨vb,voff,none⟩) m vc] w fun e w'=>
   e= .returned (.slice (some ⟨b,0,none⟩) (n+m) c)/\∃cur':Array pV,w'=w.drew.setRow b cur'/\cur'.size=cur.size/\cur'.toList.take ((n+m)*2)=cur.toList.take (i*2)++vs++(cur.toList.drop (i*2)).take ((n-i)*2):=by
 have u24:=aVu Tryz.underlying24;have hz1: ¬((m:Int)=0):=by omega
 have hz2: ¬((i:Int)=(n:Int)):=by omega
 have hw1:IntKind.i64.wrap ((i:Int)+(m:Int))=(i:Int)+(m:Int):=by rw[aWc];unfold maxLen at hc63;omega
 have hw2:IntKind.i64.wrap ((n:Int)+(m:Int))=(n:Int)+(m:Int):=by rw[aWc];unfold maxLen at hc63;omega
 have hb1:(0:Int)<=(i:Int)+(m:Int):=by omega
 have hin:i<=n:=by omega
 have htn:((i:Int)+(m:Int)).toNat=i+m:=by omega
 have hb2: ¬(c=i+m):=by omega
 have hb3:(i:Int)<=(n:Int)+(m:Int):=by omega
 have hb4: ¬(c=i):=by omega
 have z144: ∀w,(Go.sizeOf 149).run Tryz.prog w= .ok 2 w:=fun w=>by
  simp only[sizeOf,typeInfo,aVn,aWg,aVk];rfl
 have hsz:(Tryz.prog.info? 149).map (·.size)=some 2:=by kernel_rfl
 have hvs0:w.cell? ⟨vb,voff,none⟩=some (vs[0]'pJ):=hvs 0 _ (aVj pJ);obtain⟨⟨tA,kA⟩,hsa,hkA⟩: ∃q:TypeId×Nat,w.shape? vb=some q/\q.2≠0:=by
  have h0:=hvs0;simp only[World.cell?] at h0;simp only[World.shape?];cases hh:w.heap[vb]? with
  |none=>rw[hh] at h0;simp at h0
  |some o=>
   rw[hh] at h0;cases o with
   |cells cs e fr=>
    refine⟨(e,cs.size),rfl,fun hz=> ?_⟩;have hz:cs.size=0:=hz;have:cs= #[]:=Array.eq_empty_of_size_eq_zero hz;subst this;simp at h0
   |_=>simp at h0
 have hov: ∀lb cb,(callFunc 268 #[.slice (some ⟨vb,voff,none⟩) m vc,.slice (some ⟨b,(i+m)*2,none⟩) lb cb]).run Tryz.prog w= .ok (.value (.bool false)) w:=fun lb cb=>by
  rw[run_callFunc_extern Tryz.func268 pX pX pX (e:=Extern.SlicesOverlaps.overlaps #[24,24] #[4]) pX,
   aMO w 24 4 149 Tryz.underlying24 2 z144 ⟨vb,voff,none⟩ ⟨b,(i+m)*2,none⟩ m vc lb cb hvb tA 149 kA cur.size hsa hkA (by simp [World.shape?,hg]) (fun o=>Lib.frozen_of_heap hg _) rfl]
  rfl
 have mixed:Tryz.prog.follows .mixedOrders=true:=by kernel_rfl
 obtain⟨mid,hmid⟩: ∃mid,mid=(cur.toList.drop (i*2)).take ((n-i)*2):=⟨_,rfl⟩;have hml:mid.length=(n-i)*2:=by rw[hmid,aVx,aVh,aVJ];omega
 have hmin1:Nat.min (n+m-i) (n+m- (i+m))=n-i:=by simp only[Nat.min_def];split<;>omega
 have hmin2:Nat.min m (n+m-i)=m:=by simp only[Nat.min_def];split<;>omega
 obtain⟨c1,hc1⟩: ∃c1:Array pV,c1=(cur.toList.take ((i+m)*2)++mid++cur.toList.drop ((i+m)*2+mid.length)).toArray:=⟨_,rfl⟩;have hc1l:c1.size=cur.size:=by rw[hc1];simp only[aV3,aVc,aVx,aVh,aVJ,hml];omega
 obtain⟨c2,hc2⟩: ∃c2:Array pV,c2=(c1.toList.take (i*2)++vs++c1.toList.drop (i*2+vs.length)).toArray:=⟨_,rfl⟩;have hc2l:c2.size=cur.size:=by rw[hc2];simp only[aV3,aVc,aVx,aVh,aVJ,hc1l,hvl];omega
 have hcp1: ∀ty dc sc,(Builtin.copy_ #[24,24] ty #[.slice (some ⟨b,(i+m)*2,none⟩) (n+m- (i+m)) dc,.slice (some ⟨b,i*2,none⟩) (n+m-i) sc]).run Tryz.prog w.drew= .ok (goInt (n-i:Nat)) (w.drew.setRow b c1):=fun ty dc sc=>by
  have h:=W8 (P:=Tryz.prog) w.drew 24 24 ty 149 2 b ((i+m)*2) (n+m- (i+m)) dc ⟨b,i*2,none⟩ (n+m-i) sc cur 149 mid Tryz.underlying24 hsz hg (by rw[hml,hmin1]) (fun j v hj=>by
    rw[aW2];rw[hmid,aWY] at hj;split at hj
    .rw[List.getElem?_drop,aWj] at hj;show (w.cell? ⟨b,i*2+j,none⟩)=_;rw[Lib.cell_of_heap hg];exact hj
    .cases hj) (by rw[hml];omega) (fun v hv=>h1 v (aDe (hmid▸hv)))
  rw[h,hmin1,hc1]
 have hg1:(w.drew.setRow b c1).heap[b]? =some (.cells c1 149 (0,0)):=aXb w.drew b cur c1 _ _ hg;have hcp2: ∀ty dc,(Builtin.copy_ #[24,24] ty #[.slice (some ⟨b,i*2,none⟩) (n+m-i) dc,.slice (some ⟨vb,voff,none⟩) m vc]).run Tryz.prog (w.drew.setRow b c1)= .ok (goInt (m:Nat)) ((w.drew.setRow b c1).setRow b c2):=fun ty dc=>by
  have h:=W8 (P:=Tryz.prog) (w.drew.setRow b c1) 24 24 ty 149 2 b (i*2) (n+m-i) dc ⟨vb,voff,none⟩ m vc c1 149 vs Tryz.underlying24 hsz hg1 (by rw[hvl,hmin2]) (fun j v hj=>by
    rw[aW2,aVB (w:=w) (a:=⟨vb,voff+j,none⟩) (aWM w.drew b vb c1 hvb)];exact hvs j v hj) (by rw[hvl,hc1l];omega) h1v
  rw[h,hmin2,hc2]
 have Hmid:=Lib.hid hmid;have Hc1:=Lib.hid hc1;have Hc2:=Lib.hid hc2;have Hs1:=Lib.hid hc1l;have Hs2:=Lib.hid hc2l;have Hml:=Lib.hid hml;clear hmid hc1 hc2 hc1l hc2l hml hmin1 hmin2
 go_enter Tryz.func240,Tryz.ntmps240
 go_wp2_with (simp only[hov])
 go_region_law_o (refine step_copy_runI rfl _ _ 24 24 rfl _ _ (by simp [Act.eval,Act.put]) (by simp [Act.eval,Act.put]) (hcp1 _ _ _) ?_)
 go_wp2_with (at_builtin;refine wpList_copy_runI _ rfl _ _ 24 24 rfl _ _ rfl rfl (hcp2 _ _) ?_)
 go_ret
 refine⟨rfl,c2,?_,Hs2.out,?_⟩
 .rw[setRow_setRow]
 .rw[<-Hmid.out];exact aMQ Hc1.out Hc2.out Hml.out hvl (by rw[aVJ];omega) hin
theorem aMS (base:Option Addr) (n c i:Nat) (v0:Option Addr) (vc:Nat) (w:pU) (hi:i<=n) (hnc:n<=c) (hc63:c<=maxLen):
  Calls Tryz.prog 240 #[.slice base n c,.int .i64 i,.slice v0 0 vc] w fun e w'=>e= .returned (.slice base n c)/\w'=w:=by
 have u24:=aVu Tryz.underlying24
 go_enter Tryz.func240,Tryz.ntmps240
 go_wp2_with fail
 all_goals (go_ret;exact⟨rfl,rfl⟩)
theorem aMT (v:pV) (n vb voff m vc:Nat) (xs vs:pQ) (w:pU) (hm:0<m) (hown:w.ownsRow 0 149 2 v n xs) (h63:n+m<=maxLen) (hby:(n+m)*32<=140737488355328)
  (hvl:vs.length=m*2) (hvs: ∀j v,vs[j]? =some v->w.cell? ⟨vb,voff+j,none⟩=some v) (h1v: ∀v∈vs,v.oneCell'=true):
  Calls Tryz.prog 240 #[v,.int .i64 n,.slice (some ⟨vb,voff,none⟩) m vc] w fun e w'=>
   ∃q cap,e= .returned (.slice (some ⟨q,0,none⟩) (n+m) cap)/\w'.ownsRow 0 149 2 (.slice (some ⟨q,0,none⟩) (n+m) cap) (n+m) (xs++vs)/\
   (q=w.heap.size\/v.ownBlock=some q)/\w.grownBy w' v.ownBlock:=by
 have u24:=aVu Tryz.underlying24;obtain⟨inf,hi,hsz,hz⟩:=G7 aDd;have hby2:inf.bytes=32:=by
  have:(Tryz.prog.info? 149).map (·.bytes)=some 32:=by kernel_rfl
  rw[hi] at this;exact aVe this
 have hrun: ∀ty,∃q cap w',(Builtin.append_ #[24,24] ty #[v,.slice (some ⟨vb,voff,none⟩) m vc]).run Tryz.prog w= .ok (.slice (some ⟨q,0,none⟩) (n+m) cap) w'/\_:=
  fun ty=>a0F (P:=Tryz.prog) w 24 ty 149 inf _ 2 32 Tryz.underlying24 hi hz hsz hby2 pY v n xs hown ⟨vb,voff,none⟩ m vc vs hvl (fun j u hj=>by rw[aW2];exact hvs j u hj) h1v hm h63 hby
 obtain⟨q,cap,w2,hr,h1,h2,h3,h4,h5⟩:=hrun 24;have H1:=Lib.hid h1;have H2:=Lib.hid h2;have H3:=Lib.hid h3;have Hown:=Lib.hid hown;have hz1: ¬((m:Int)=0):=by omega
 have hmx:n+m<=9223372036854775807:=by unfold maxLen at h63;omega
 obtain⟨hxl,hv⟩:=hown;clear h1 h2 h3 h5 hrun hz hsz hby2 hi hxl;rcases hv with⟨rfl,rfl⟩ |⟨b,c,cur,rfl,_,hbk,hnc,hcm,hcs,htk⟩
 .clear Hown;rw[aVF] at hr
  go_enter Tryz.func240,Tryz.ntmps240
  go_wp2_with (at_builtin;refine Lib.wpList_append_run _ rfl _ _ _ _ rfl _ _ rfl rfl _ _ hr ?_)
  all_goals (go_ret;exact⟨q,cap,by rw[aVF];rfl,H1.out,H2.out,H3.out⟩)
 .clear hbk hcs htk;have hcm:c<=9223372036854775807:=by unfold maxLen at hcm;omega
  go_enter Tryz.func240,Tryz.ntmps240
  go_wp2_with (at_builtin;refine Lib.wpList_append_run _ rfl _ _ _ _ rfl _ _ rfl rfl _ _ hr ?_)
  all_goals (go_ret;exact⟨q,cap,rfl,H1.out,H2.out,H3.out⟩)
theorem aMU (b n c i vb voff m vc:Nat) (cur:Array pV) (vs:pQ) (w:pU) (hi:i<n) (hm:0<m) (hnc:n<=c) (hroom:c<n+m) (hbig:(n+m)*32<=140737488355328)
  (hg:w.heap[b]? =some (.cells cur 149 (0,0))) (hcs:cur.size=c*2) (hvl:vs.length=m*2)
  (hvs: ∀j v,vs[j]? =some v->w.cell? ⟨vb,voff+j,none⟩=some v) (h1: ∀v∈cur.toList.take (n*2),v.oneCell'=true) (h1v: ∀v∈vs,v.oneCell'=true):
  Calls Tryz.prog 240 #[.slice (some ⟨b,0,none⟩) n c,.int .i64 i,.slice (some ⟨vb,voff,none⟩) m vc] w fun e w'=>
   ∃G,e= .returned (.slice (some ⟨w.heap.size,0,none⟩) (n+m) G)/\w'.ownsRow 0 149 2 (.slice (some ⟨w.heap.size,0,none⟩) (n+m) G) (n+m) (cur.toList.take (i*2)++vs++(cur.toList.drop (i*2)).take ((n-i)*2))/\w.grownBy w' none:=by
 have u24:=aVu Tryz.underlying24;have mixed:Tryz.prog.follows .mixedOrders=true:=by kernel_rfl
 obtain⟨inf,hinf,hzs,hz⟩:=G7 aDd;have hzb:inf.bytes=32:=by
  have:(Tryz.prog.info? 149).map (·.bytes)=some 32:=by kernel_rfl
  rw[hinf] at this;exact aVe this
 have hsz:(Tryz.prog.info? 149).map (·.size)=some 2:=by kernel_rfl
 have hz1: ¬((m:Int)=0):=by omega
 have hz2: ¬((i:Int)=(n:Int)):=by omega
 have hz3:(c:Int)<(n:Int)+(m:Int):=by omega
 have hbw:b<w.heap.size:=by
  rcases aWm b w.heap.size with h|h
  .exact h
  .rw[Array.getElem?_eq_none h] at hg;cases hg
 have hvw:vb<w.heap.size:=block_lt_of_cell (hvs 0 _ (aVj pJ));have hkk:(n:Int)+(m:Int)- (i:Int)=((n+m-i:Nat):Int):=by omega
 have hik:i+(n+m-i)=n+m:=by omega
 have hold:(Builtin.firstCells inf.size i (.slice (some ⟨b,0,none⟩) i c)).run Tryz.prog w.drew= .ok (cur.toList.take (i*2)).toArray w.drew:=by
  rw[hzs];exact run_firstCells_some w.drew 2 i ⟨b,0,none⟩ i c (cur.toList.take (i*2)) (by rw[aVx,aVJ];omega) (fun j v hj=>by
   rw[aW2,aVF];rw[aWY] at hj;split at hj
   .rw[aWj] at hj;show w.cell? ⟨b,j,none⟩=_;rw[Lib.cell_of_heap hg];exact hj
   .cases hj)
 have hrz: ∀ty,(Builtin.append_ #[24,3] ty #[.slice (some ⟨b,0,none⟩) i c,.int .i64 ((n:Int)+(m:Int)- (i:Int))]).run Tryz.prog w=
   .ok (.slice (some ⟨w.heap.size,0,none⟩) (n+m) (grownCap w (n+m) c 149)) (w.drew.alloc (.cells ((cur.toList.take (i*2)).toArray++Builtin.zeroCells (xP (.pair .str (.pair .str .unit))).cells (n+m-i)++Builtin.zeroCells (xP (.pair .str (.pair .str .unit))).cells (grownCap w (n+m) c 149- (n+m))) 149)):=fun ty=>by
  have h:=Lib.run_append_grow_zeros (P:=Tryz.prog) w 24 3 ty 149 inf _ .i64 .i64 Tryz.underlying24 Tryz.underlying3 hinf hz (some ⟨b,0,none⟩) i c (cur.toList.take (i*2)) hold (n+m-i) pJ (by rw[hzs];decide) pJ pJ (by rw[hzb];omega) (by rw[hzb,hik];exact growslice_fits hroom hbig);rw[hik] at h;rw[hkk];exact h
 obtain⟨G,hG⟩: ∃G,G=grownCap w (n+m) c 149:=⟨_,rfl⟩;obtain⟨ROW,hROW⟩: ∃ROW:Array pV,ROW=(cur.toList.take (i*2)).toArray++Builtin.zeroCells (xP (.pair .str (.pair .str .unit))).cells (n+m-i)++Builtin.zeroCells (xP (.pair .str (.pair .str .unit))).cells (G- (n+m)):=⟨_,rfl⟩;rw[<-hG] at hrz;rw[<-hROW] at hrz;have hGn:n+m<=G:=by rw[hG];exact grownCap_ge w _ _ _
 have hGm:G<=maxLen:=by rw[hG];exact grownCap_le_maxLen w (n+m) c _ (by unfold maxLen;omega)
 have hzc:(xP (.pair .str (.pair .str .unit))).cells.size=2:=rfl;have hRl:ROW.size=G*2:=by
  rw[hROW];simp only[aXk,aV3,size_zeroCells,hzc,aVx,aVJ];omega
 have hRt:ROW.toList.take (i*2)=cur.toList.take (i*2):=by
  rw[hROW];simp only[Array.toList_append,aVi];rw[aV5 (by rw[aVx,aVJ];omega),List.take_take,Nat.min_self]
 obtain⟨q,hq⟩: ∃q,q=w.heap.size:=⟨_,rfl⟩;obtain⟨mid,hmid⟩: ∃mid,mid=(cur.toList.drop (i*2)).take ((n-i)*2):=⟨_,rfl⟩;have hml:mid.length=(n-i)*2:=by rw[hmid,aVx,aVh,aVJ];omega
 have hmin1:Nat.min m (n+m-i)=m:=by simp only[Nat.min_def];split<;>omega
 have hmin2:Nat.min (n-i) (n+m- (i+m))=n-i:=by simp only[Nat.min_def];split<;>omega
 obtain⟨c1,hc1⟩: ∃c1:Array pV,c1=(ROW.toList.take (i*2)++vs++ROW.toList.drop (i*2+vs.length)).toArray:=⟨_,rfl⟩;have hc1l:c1.size=G*2:=by rw[hc1];simp only[aV3,aVc,aVx,aVh,aVJ,hRl,hvl];omega
 obtain⟨c2,hc2⟩: ∃c2:Array pV,c2=(c1.toList.take ((i+m)*2)++mid++c1.toList.drop ((i+m)*2+mid.length)).toArray:=⟨_,rfl⟩;have hc2l:c2.size=G*2:=by rw[hc2];simp only[aV3,aVc,aVx,aVh,aVJ,hc1l,hml];omega
 obtain⟨W1,hW1⟩: ∃W1,W1=w.drew.alloc (.cells ROW 149):=⟨_,rfl⟩;rw[<-hW1] at hrz;have hbq:b≠q:=by omega
 have hvq:vb≠q:=by omega
 have hg1:W1.heap[q]? =some (.cells ROW 149 (0,0)):=by rw[hW1,hq];exact aXl w.drew _
 have hO1: ∀k,k<w.heap.size->W1.heap[k]? =w.heap[k]? :=fun k hk=>by rw[hW1];exact aVH w.drew _ k hk
 have hcpA: ∀(W:pU),W.heap=W1.heap->∀ty dc,(Builtin.copy_ #[24,24] ty #[.slice (some ⟨q,i*2,none⟩) (n+m-i) dc,.slice (some ⟨vb,voff,none⟩) m vc]).run Tryz.prog W= .ok (goInt (m:Nat)) (W.setRow q c1):=fun W hW ty dc=>by
  have h:=W8 (P:=Tryz.prog) W 24 24 ty 149 2 q (i*2) (n+m-i) dc ⟨vb,voff,none⟩ m vc ROW 149 vs Tryz.underlying24 hsz (by rw[hW];exact hg1) (by rw[hvl,hmin1]) (fun j v hj=>by
    rw[aW2,aVB (w:=w) (a:=⟨vb,voff+j,none⟩) (by rw[hW];exact hO1 vb hvw)];exact hvs j v hj) (by rw[hvl,hRl];omega) h1v
  rw[h,hmin1,hc1]
 have hcpB: ∀(W:pU),W.heap=(W1.setRow q c1).heap->∀ty dc sc,(Builtin.copy_ #[24,24] ty #[.slice (some ⟨q,(i+m)*2,none⟩) (n+m- (i+m)) dc,.slice (some ⟨b,i*2,none⟩) (n-i) sc]).run Tryz.prog W= .ok (goInt (n-i:Nat)) (W.setRow q c2):=fun W hW ty dc sc=>by
  have h:=W8 (P:=Tryz.prog) W 24 24 ty 149 2 q ((i+m)*2) (n+m- (i+m)) dc ⟨b,i*2,none⟩ (n-i) sc c1 149 mid Tryz.underlying24 hsz (by rw[hW];exact aXb W1 q ROW c1 _ _ hg1) (by rw[hml,hmin2]) (fun j v hj=>by
    rw[aW2,aVB (w:=w) (a:=⟨b,i*2+j,none⟩) (by rw[hW,aWM W1 q b c1 hbq];exact hO1 b hbw),Lib.cell_of_heap hg];rw[hmid,aWY] at hj;split at hj
    .rw[List.getElem?_drop,aWj] at hj;exact hj
    .cases hj) (by rw[hml,hc1l];omega) (fun v hv=>h1 v (aDe (hmid▸hv)))
  rw[h,hmin2,hc2]
 have hGi: ¬(G=i):=by omega
 have hGim: ¬(G=i+m):=by omega
 have hci: ¬(c=i):=by omega
 have hw1:IntKind.i64.wrap ((i:Int)+(m:Int))=(i:Int)+(m:Int):=by rw[aWc];omega
 have hw2:IntKind.i64.wrap ((n:Int)+(m:Int))=(n:Int)+(m:Int):=by rw[aWc];omega
 have hw3:IntKind.i64.wrap ((n:Int)+(m:Int)- (i:Int))=(n:Int)+(m:Int)- (i:Int):=by rw[aWc];omega
 have hb1:(0:Int)<=(i:Int)+(m:Int):=by omega
 have hin:i<=n:=by omega
 have htn:((i:Int)+(m:Int)).toNat=i+m:=by omega
 have hb3:(i:Int)<=(n:Int):=by omega
 have hG63:G<=9223372036854775807:=by unfold maxLen at hGm;omega
 rw[<-hq] at hrz|-;have hend: ∀W:pU,W.heap=((W1.setRow q c1).setRow q c2).heap->W.os=w.os->W.tape=w.tape->W.output=w.output->
   W.ownsRow 0 149 2 (.slice (some ⟨q,0,none⟩) (n+m) G) (n+m) (cur.toList.take (i*2)++vs++mid)/\w.grownBy W none:=fun W hW e1 e2 e3=>by
  have hg2:W.heap[q]? =some (.cells c2 149 (0,0)):=by rw[hW];exact aXb (W1.setRow q c1) q c1 c2 _ _ (aXb W1 q ROW c1 _ _ hg1)
  have hs:w.heap.size<=W.heap.size:=by
   have:=(aVz.1 hg2).1;omega
  refine⟨⟨?_,.inr ⟨q,G,c2,rfl,aVX _,hg2,hGn,hGm,hc2l,?_⟩⟩,⟨e1,e2,e3,hs,fun k hk _=> ?_⟩⟩
  .simp only[aVc,aVx,aVJ,hml,hvl];omega
  .have x1:c1.toList=cur.toList.take (i*2)++vs++ROW.toList.drop (i*2+vs.length):=by rw[hc1,hRt]
   have l1:(cur.toList.take (i*2)++vs).length=(i+m)*2:=by rw[aVc,aVx,aVJ,hvl];omega
   have x2:c2.toList=cur.toList.take (i*2)++vs++mid++c1.toList.drop ((i+m)*2+mid.length):=by
    rw[hc2];show c1.toList.take ((i+m)*2)++mid++_=_;rw[x1,<-l1,aWu]
   rw[x2,show (n+m)*2=(cur.toList.take (i*2)++vs++mid).length by rw[aVc,l1,hml];omega,aWu]
  .rw[hW,aWM _ q k c2 pJ,aWM _ q k c1 pJ];exact hO1 k hk
 have Hmid:=Lib.hid hmid;have Hq:=Lib.hid hq;have Hend:=Lib.hid hend;have HW1:=Lib.hid hW1;clear hkk hik hold hROW hG hRl hmid hq hend hW1 hc1 hc2 hc1l hc2l hml hmin1 hmin2 hz hzs hzb hinf hRt hg1 hO1
 go_enter Tryz.func240,Tryz.ntmps240
 go_wp2_with (first
  |(at_builtin;refine Lib.wpList_append_run _ rfl _ _ _ _ rfl _ _ rfl rfl _ _ (hrz _) ?_)
  |(at_builtin;refine wpList_copy_runI _ rfl _ _ 24 24 rfl _ _ rfl rfl (hcpA _ rfl _ _) ?_))
 go_region_law_o (refine step_copy_runI rfl _ _ 24 24 rfl (.slice (some ⟨q,(i+m)*2,none⟩) (n+m- (i+m)) (G- (i+m))) (.slice (some ⟨b,i*2,none⟩) (n-i) (c-i)) (by simp [Act.eval,Act.put]) (by simp [Act.eval,Act.put]) (hcpB (W1.setRow q c1).drew rfl _ (G- (i+m)) (c-i)) ?_)
 go_wp2_with fail
 go_ret
 rw[<-Hmid.out];exact⟨G,rfl,Hend.out _ rfl (by rw[HW1.out];rfl) (by rw[HW1.out];rfl) (by rw[HW1.out];rfl)⟩
theorem aMV (v:pV) (n i m vc:Nat) (v0:Option Addr) (xs vs:pQ) (w:pU) (hin:i<=n) (hown:w.ownsRow 0 149 2 v n xs) (hby:(n+m)*32<=140737488355328)
  (h1: ∀u∈xs,u.oneCell'=true) (hv0:m=0\/∃vb voff,v0=some ⟨vb,voff,none⟩/\v.ownBlock≠some vb/\∀j u,vs[j]? =some u->w.cell? ⟨vb,voff+j,none⟩=some u)
  (hvl:vs.length=m*2) (h1v: ∀v∈vs,v.oneCell'=true):
  Calls Tryz.prog 240 #[v,.int .i64 i,.slice v0 m vc] w fun e w'=>
   ∃v',e= .returned v'/\w'.ownsRow 0 149 2 v' (n+m) (xs.take (i*2)++vs++xs.drop (i*2))/\(m=0->v'=v)/\(∀b,v'.ownBlock=some b->b=w.heap.size\/v.ownBlock=some b)/\w.grownBy w' v.ownBlock:=by
 have h63:n+m<=maxLen:=by unfold maxLen;omega
 rcases Nat.eq_zero_or_pos m with hm|hm
 .subst hm;have hvs:vs=[]:=aWL.1 pJ;subst hvs;have hres:w.ownsRow 0 149 2 v (n+0) (xs.take (i*2)++[]++xs.drop (i*2)):=by
   rw[List.append_nil,aWn];exact hown
  obtain⟨base,c,rfl,hnc,hc⟩: ∃base c,v= .slice base n c/\n<=c/\c<=maxLen:=by
   rcases hown.2 with⟨rfl,rfl⟩ |⟨b,c,cur,rfl,_,_,h2,h3,_⟩
   .exact⟨none,0,rfl,aVp _,by unfold maxLen;omega⟩
   .exact⟨_,c,rfl,h2,h3⟩
  refine(aMS base n c i v0 vc w hin hnc hc).mono ?_;rintro e w' ⟨rfl,rfl⟩;exact⟨_,rfl,hres,fun _=>rfl,fun b hb=> .inr hb,World.grownBy.refl _ _⟩
 .obtain⟨vb,voff,rfl,hvb,hvs⟩: ∃vb voff,v0=some ⟨vb,voff,none⟩/\v.ownBlock≠some vb/\∀j u,vs[j]? =some u->w.cell? ⟨vb,voff+j,none⟩=some u:=by
   rcases hv0 with h|h
   .omega
   .exact h
  have hxl:=hown.1;rcases aWm i n with hlt|hge
  .rcases hown.2 with⟨rfl,rfl⟩ |⟨b,c,cur,rfl,_,hbk,hnc,hcm,hcs,htk⟩
   .omega
   .have hb:vb≠b:=fun h=>hvb (by rw[h];rfl);have hx1:cur.toList.take (i*2)=xs.take (i*2):=by rw[<-htk,List.take_take,Nat.min_eq_left pJ]
    have hx2:(cur.toList.drop (i*2)).take ((n-i)*2)=xs.drop (i*2):=by rw[aMP hin,htk]
    rcases aWm c (n+m) with hr|hr
    .refine(aMU b n c i vb voff m vc cur vs w hlt hm hnc hr hby hbk hcs hvl hvs (by rw[htk];exact h1) h1v).mono ?_;rintro e w' ⟨G,rfl,ho,hg⟩;rw[hx1,hx2] at ho;exact⟨_,rfl,ho,fun h=>by omega,fun b hb=> .inl (by simpa[Value.ownBlock] using hb.symm),⟨hg.os,hg.tape,hg.output,hg.size,fun k hk _=>hg.block k hk pL⟩⟩
    .refine(aMR b n c i vb voff m vc cur vs w hlt hm hr hcm hb hbk hcs hvl hvs (by rw[htk];exact h1) h1v).mono ?_;rintro e w' ⟨rfl,cur',rfl,hs,ht⟩;rw[hx1,hx2] at ht;refine⟨_,rfl,⟨?_,.inr ⟨b,c,cur',rfl,aVX _,aXb w.drew b cur cur' _ _ hbk,hr,hcm,by rw[hs,hcs],ht⟩⟩,fun h=>by omega,fun b' hb'=> .inr hb',⟨rfl,rfl,rfl,by simp,fun k hk hne=>aWM w.drew b k cur' (fun h=>hne (by rw[h];rfl))⟩⟩;simp only[aVc,aVx,aVh,hxl,hvl];omega
  .obtain rfl:i=n:=by omega
   refine(aMT v i vb voff m vc xs vs w hm hown h63 hby hvl hvs h1v).mono ?_;rintro e w' ⟨q,cap,rfl,ho,hq,hg⟩;refine⟨_,rfl,?_,fun h=>by omega,fun b hb=> ?_,hg⟩
   .rw[<-hxl,List.take_length,aVR,List.append_nil];exact ho
   .have hb:q=b:=by simpa[Value.ownBlock] using hb
    exact hb▸hq
theorem aDf {α:Type}{R:α->pQ->Prop}{c:Nat}: ∀{l:List α}{cs:pQ}(i:Nat),tT R c l cs->tT R c (l.take i) (cs.take (i*c))
 |_,_,0,_=>by simp [tT]
 |[],_,_+1,h=>by rw[show _=[] from h];simp [tT]
 |x::l,_,i+1,⟨c1,c2,e,h1,h2,h3⟩=>by
  refine⟨c1,c2.take (i*c),?_,h1,h2,aDf i h3⟩;rw[e,aWi,Nat.add_comm,<-h1,List.take_length_add_append]
theorem aDg {α:Type}{R:α->pQ->Prop}{c:Nat}: ∀{l:List α}{cs:pQ}(i:Nat),tT R c l cs->tT R c (l.drop i) (cs.drop (i*c))
 |_,_,0,h=>by simpa using h
 |[],_,_+1,h=>by rw[show _=[] from h];simp [tT]
 |x::l,_,i+1,⟨c1,c2,e,h1,h2,h3⟩=>by
  rw[e,show (i+1)*c=c1.length+i*c by rw[h1,aWi,Nat.add_comm],List.drop_length_add_append];exact aDg i h3
def CJ {t:Type}(l:List t) (i:Int) (v:List t):List t:=List.take i.toNat l++v++List.drop i.toNat l
@[go_sem] def a1B:List qI->List qH->Option qQ
 |[(.own 0 O,none),(.val (.int .i64) Z,none),(.val (.list (.pair .str (.pair .str .unit))) aA,none)],[.row 149 (.pair .str (.pair .str .unit)) aB aC]=>
  some ⟨[O=aC,0<=Z/\Z<=List.length aB,(List.length aB+List.length aA)*32<=140737488355328],[(.own 0 (List.length (CJ aB Z aA)),none)],[.row 149 (.pair .str (.pair .str .unit)) (CJ aB Z aA) (List.length (CJ aB Z aA))]⟩
 |_,_=>none
theorem aMW:AX Tryz.prog 240 a1B:=by
 refine⟨fun _ _=>rfl,fun g w args vals L r hH ha hC hs=> ?_⟩;unfold a1B at hC;split at hC
 .rename_i n iI vl l n2;cases hC;obtain rfl:n=n2:=hs _ pL;obtain⟨hi0,hil⟩:=hs (0<=iI/\iI<=List.length l) pL;have hby:=hs ((List.length l+List.length vl)*32<=140737488355328) pL;clear hs;obtain⟨va,_,rfl,ra,vb,_,rfl,rb,vc,_,rfl,rc,hv⟩:=ha;cases hv;have hg0:qM (qW 0 [qH.row 149 (.pair .str (.pair .str .unit)) l n]) 0=some (.row 149 (.pair .str (.pair .str .unit)) l n):=rfl;obtain⟨hl,v,xs,hcur,hown,hF,hnone,hseal⟩:=hH.blk 0 _ hg0;have hva:va=v:=by
   have:=ra.1.1;rw[hcur] at this;exact(aVe this).symm
  subst hva;obtain⟨i,rfl⟩:=Int.eq_ofNat_of_zero_le hi0;have hvb:vb= .int .i64 i:=wC rb.1;subst hvb;obtain⟨a,cap,rfl,hcap,hlist⟩:=F4 rc.1;have hRone: ∀(x:(Ty.pair .str (.pair .str .unit)).den) cs,Rd g w (.pair .str (.pair .str .unit)) x cs->∀v∈cs,v.oneCell'=true:=fun x cs h=>BP h;obtain⟨vs,hFv,hv0⟩: ∃vs,tT (Rd g w (.pair .str (.pair .str .unit))) 2 vl vs/\(vl.length=0\/∃vb voff,a=some ⟨vb,voff,none⟩/\va.ownBlock≠some vb/\∀j u,vs[j]? =some u->w.cell? ⟨vb,voff+j,none⟩=some u):=by
   rcases hlist with rfl|⟨b,o,rfl,hL⟩
   .exact⟨[],rfl,.inl rfl⟩
   .obtain⟨cs,h1,h2,h3⟩:=NK hL;rcases Nat.eq_zero_or_pos vl.length with h0|h0
    .exact⟨cs,h1,.inl h0⟩
    .exact⟨cs,h1,.inr ⟨b,o,rfl,fun hb=>hseal b hb _ (h3 0 (Nat.mul_pos h0 pK)),h2⟩⟩
  have hvl:=J5 hFv;have hil2:(i:Int)<=(l.length:Int):=hil;have hil':i<=n:=by omega
  subst hl;refine(aMV va l.length i vl.length cap a xs vs w pJ hown hby (QV hRone hF) hv0 hvl (QV hRone hFv)).mono ?_;rintro e w' ⟨v',rfl,hown',hm0,hob,hgr⟩;have hlen:(CJ l (i:Int) vl).length=l.length+vl.length:=by
   simp only[CJ,aVN,aVc,aVx,aVh];omega
  have hF':tT (Rd g w (.pair .str (.pair .str .unit))) 2 (CJ l (i:Int) vl) (xs.take (i*2)++vs++xs.drop (i*2)):=by
   unfold CJ;rw[aVN];exact QN (QN (aDf i hF) hFv) (aDg i hF)
  have hsl: ∀b o,g.S b o->w'.cell? ⟨b,o,none⟩=w.cell? ⟨b,o,none⟩:=fun b o h=>aVB (a:=⟨b,o,none⟩) (hgr.block b (hH.sl b o h) (fun e=>hseal b e.symm o h));have hE:=sG.row (side:=[]) (rds:=[]) (s:=(.own 0 (CJ l (i:Int) vl).length,none)) (val:=v') (k:=0) (g:=g) (w:=w) (H:=qW 0 [qH.row 149 (.pair .str (.pair .str .unit)) l l.length]) hH (e:=149) (t:= .pair .str (.pair .str .unit)) (l:=CJ l (i:Int) vl) (n:=(CJ l (i:Int) vl).length) (v:=v') rfl (by rw[hlen];exact hown') hF'
   (fun m hm=>hnone m pJ) (fun u hu=>by
    rcases Nat.eq_zero_or_pos vl.length with h0|h0
    .rw[hlen,h0,aWs,hcur] at hu;rw[hm0 h0];exact(aVe hu).symm
    .rw[hnone _ pJ] at hu;cases hu)
   (.inr ⟨va.ownBlock,hgr,fun b hb o=>⟨0,_,by simp,hg0,va,hcur,hb⟩⟩) hsl
   (fun b hb o hS=>by
    rcases hob b hb with h|h
    .have:=hH.sl b o hS;omega
    .exact hseal b h o hS)
   (fun b hb=>(hob b hb).imp (fun h=>by omega) fun h o=>⟨0,_,by simp,hg0,va,hcur,h⟩)
   ⟨⟨by simp [Gh.tok],by
    rw[hlen];rcases hown'.2 with⟨rfl,h⟩ |⟨b,cap',_,rfl,_,_,h,_⟩
    .exact .inl ⟨rfl,h⟩
    .exact .inr ⟨b,cap',rfl,h⟩⟩,trivial⟩
  refine⟨v',_,rfl,⟨fun b o h=>⟨hE.le.S b o h,hE.le.cell b o h⟩,hE.heap.ext ?_,hE.slot,hE.fr.mono fun b o ⟨i,blk,_,h1,h2⟩=>⟨i,blk,h1,h2⟩,fun i blk b o hi ho=> ?_,fun i t x ts h=> ?_,fun i t x ts u y us h _=> ?_,fun _ _ _ h=>h,fun i m u hi h=> ?_⟩⟩
  .intro i
   match i with
   |0=>rfl
   |i+1=>rfl
  .match i,hi with
   |0,hi=>
    cases hi;exact(hE.perm 0 _ b o (by simp [qO]) rfl ho).imp id fun⟨i,blk,_,h1,h2⟩=>⟨i,blk,h1,h2⟩
   |i+1,hi=>simp at hi
  .match i,h with
   |0,h=>cases h
   |i+1,h=>simp at h
  .match i,h with
   |0,h=>cases h
   |i+1,h=>simp at h
  .exact hE.le.cur i m u h
 .cases hC
end Go.Proofs.YtbbpilohihldiaaGreatDoor
namespace Go.Proofs.YtbbpilohihldiaaGreatDoor.Vc
open Go.RowKit
@[go_sem] def a1C (np:Nat):DV->Bool
 | .any=>true
 | .nilS=>true
 | .val .ref (some (i,_))=>decide (i<np)
 | .val .ref none=>true
 | .val t _=>t.pure
 |_=>false
@[go_sem] def W9 (np:Nat):qI->Bool
 |(d,none)=>a1C np d
 |(.val (.list t) _,some k)=>t.pure&&decide (k<np)
 |_=>false
@[go_sem] def NX (np:Nat):List (Nat×qI)->Bool
 |[]=>true
 |(_,s)::r=>W9 np s&&NX np r
theorem aDh {np:Nat}: ∀{env:List (Nat×qI)},NX np env=true->∀t,W9 np (lk env t)=true
 |[],_,t=>rfl
 |(k,s)::r,h,t=>by
  simp only[NX,aVg] at h;unfold lk;split
  .exact h.1
  .exact aDh h.2 t
theorem aMX {np:Nat}{g g':Gh}{w:pU}(hS:g'.S=g.S) (hJ: ∀i,i<np->g'.J i=g.J i) (hC: ∀i n,i<np->g'.cur i n=g.cur i n) {s:qI}{v:pV}(hp:W9 np s=true) (h:s3 g w s v):s3 g' w s v:=by
 have hV: ∀{t:Ty}{x:t.den},t.pure=true->tJ g w t x v->tJ g' w t x v:=fun ht hv=>by
  rcases hv with⟨h1,cs,h2,h3⟩ |⟨h1,h2⟩
  .exact .inl ⟨h1,cs,h2,w7 hS ht h3⟩
  .exact .inr ⟨h1,w7 hS ht h2⟩
 have hD: ∀d,a1C np d=true->AS g w d v->AS g' w d v:=by
  intro d hd hr;unfold a1C at hd;split at hd
  .trivial
  .exact hr
  .rename_i i o;have hi:=aVU hd;rcases hr with⟨h1,_⟩ |⟨h1,h2⟩
   .cases h1
   .refine .inr ⟨h1,?_⟩;obtain⟨p,hp1,hp2⟩:=h2;exact⟨p,(hJ i hi).trans hp1,hp2⟩
  .rcases hr with⟨h1,_⟩ |⟨h1,h2⟩
   .cases h1
   .exact .inr ⟨h1,h2⟩
  .exact hV hd hr
  .cases hd
 obtain⟨d,k⟩:=s;cases k with
 |none=>exact⟨hD d hp h.1,trivial⟩
 |some k=>
  unfold W9 at hp;split at hp
  .rename_i heq;cases heq
  .rename_i t x k' heq;cases heq;simp only[aVg,aVf] at hp;exact⟨hV (t:= .list t) hp.1 h.1,(hC k _ hp.2).trans h.2⟩
  .cases hp
theorem aMY {np:Nat}{g g':Gh}{w w':pU}{env:List (Nat×qI)}{tmps:Array pV}(h:CG g w env tmps) (hp:NX np env=true) (hS: ∀b o,g.S b o->g'.S b o) (hc: ∀b o,g.S b o->w'.cell? ⟨b,o,none⟩=w.cell? ⟨b,o,none⟩)
  (hJ: ∀i p,i<np->g.J i=some p->g'.J i=some p) (hC: ∀i n v,i<np->g.cur i n=some v->g'.cur i n=some v):CG g' w' env tmps:=fun t=>by
 have le:Le g w ⟨g'.S,fun i=>if i<np then g'.J i else g.J i,fun i n=>if i<np then g'.cur i n else g.cur i n⟩ w':=by
  refine⟨hS,hc,fun i p hi=> ?_,fun i n v hi=> ?_⟩
  .show (if i<np then _ else _)=_;split
   .rename_i hlt;exact hJ i p hlt hi
   .exact hi
  .show (if i<np then _ else _)=_;split
   .rename_i hlt;exact hC i n v hlt hi
   .exact hi
 exact aMX (np:=np) (g:=⟨g'.S,fun i=>if i<np then g'.J i else g.J i,fun i n=>if i<np then g'.cur i n else g.cur i n⟩) (g':=g') rfl (fun i hi=>(aU8 hi).symm) (fun i n hi=>by show g'.cur i n=(if i<np then g'.cur i n else g.cur i n);rw[aU8 hi]) (aDh hp t) (CC le (h t))
theorem tM.inner {A A':Nat->Nat->Prop}{L L':List qH}{g0 g g':Gh}{w0 w w':pU}{H H':sD}(h:tM A L g0 w0 g w H) (k:tM A' L' g w g' w' H') (hA: ∀b o,A' b o->w.heap.size<=b\/A9 g H b o) (hl:L.length<=L'.length)
  (hL: ∀i,i<L.length->∀b,L'[i]? =some b->qM H i=some b):tM A L g0 w0 g' w' H':=by
 have own: ∀b o,A' b o->w0.heap.size<=b\/A b o:=fun b o x=>by
  rcases hA b o x with h1|⟨i,blk,h1,h2⟩
  .exact .inl (aV7 h.fr.size h1)
  .exact h.perm i blk b o h1 h2
 refine⟨fun b o x=> ?_,h.fr.trans k.fr own,fun i blk b o h1 h2=> ?_,fun i p hi hp=>k.J i p pJ (h.J i p hi hp),fun i hi=>k.live i pJ,fun i u y us hi hg=> ?_,fun i n v hi hv=>k.cur i n v pJ (h.cur i n v hi hv)⟩
 .obtain⟨h1,h2⟩:=h.shut b o x;obtain⟨k1,k2⟩:=k.shut b o h1;exact⟨k1,k2.trans h2⟩
 .rcases k.perm i blk b o h1 h2 with h3|h3
  .exact .inl (aV7 h.fr.size h3)
  .exact own b o h3
 .obtain⟨x,ts,hx⟩:=k.ty i u y us pJ hg;exact h.ty i u x ts hi (hL i hi _ hx)
theorem tM.start {g:Gh}{w:pU}{H:sD}{L':List qH}(hH:sK g w H) (hL: ∀i b,L'[i]? =some b->qM H i=some b/\b≠.dead) (hty: ∀i,i<L'.length->∀b,qM H i=some b->L'[i]? =some b):tM (A9 g H) L' g w g w H:=by
 refine⟨fun b o h=>⟨h,rfl⟩,Fr.refl _ _ _,fun i blk b o hg ho=> .inr ⟨i,blk,hg,ho⟩,fun _ _ _ h=>h,fun i hi=> ?_,fun i u y us hi hg=>⟨y,us,hty i hi _ hg⟩,fun _ _ _ _ h=>h⟩;obtain⟨h1,h2⟩:=hL i L'[i] pL;have hbk:=hH.blk i _ h1;generalize L'[i]=blk at hbk h2;cases blk with
 |cells t x ts=>obtain⟨p,cs,hp,_⟩:=hbk;exact .inl ⟨p,hp⟩
 |grow e c n=>obtain⟨v,xs,hv,_⟩:=hbk;exact .inr ⟨n,v,hv⟩
 |row e t l n=>obtain⟨_,v,xs,hv,_⟩:=hbk;exact .inr ⟨n,v,hv⟩
 |map k v l=>obtain⟨p,es,cl,hp,_⟩:=hbk;exact .inl ⟨p,hp⟩
 |iter s n=>obtain⟨p,hp,_⟩:=hbk;exact .inl ⟨p,hp⟩
 |dead=>exact absurd rfl h2
@[go_sem] def RE (env:List (Nat×qI)):pT->List qI->List (Nat×qI)
 |p::ps,s::ss=>RE (uA (some p) s env) ps ss
 |_,_=>env
theorem aDi {g:Gh}{w:pU}: ∀{ps:pT}{ss:List qI}{vs:pQ}{env:List (Nat×qI)}{tmps:Array pV},CG g w env tmps->(∀p∈ps,p<tmps.size)->vV g w ss vs->ps.length=ss.length->
  CG g w (RE env ps ss) ((ps.zip vs).foldl (fun t (q:Nat×pV)=>t.setIfInBounds q.1 q.2) tmps)/\((ps.zip vs).foldl (fun t (q:Nat×pV)=>t.setIfInBounds q.1 q.2) tmps).size=tmps.size
 |[],[],vs,env,tmps,h,_,ha,_=>by
  have:vs=[]:=ha;subst this;exact⟨h,rfl⟩
 |p::ps,s::ss,vs,env,tmps,h,hp,ha,hl=>by
  obtain⟨v,vs',rfl,h1,h2⟩:=ha;have hput:CG g w (uA (some p) s env) (tmps.setIfInBounds p v):=a09 (a:={tmps:=tmps,defers:=[]}) (o:=⟨some p,.move (.tmp 0),0, "",#[],none⟩) (N:=tmps.size) h (Le.refl g w) h1 rfl (by simpa[J1] using hp p pL)
  have:=aDi (tmps:=tmps.setIfInBounds p v) hput (fun q hq=>by simpa using hp q (aVr _ hq)) h2 (by simpa using hl);exact⟨this.1,by rw[List.zip_cons_cons,List.foldl_cons];rw[this.2];simp⟩
def aDj (P:Program) (gf:Nat) (u:Ty) {ι:Type}(pre:u.den->Prop) (items:u.den->List ι) (vl:ι->pQ):Prop:=
 (∀args w,(callFunc gf args).run P w= .ok (.enter gf args) w)/\
 ∀(l b o:Nat) (x:u.den) (cs:pQ) (g:Gh) (W0:pU) (J:Nat->pU->Prop) (Jx:pU->Prop),pre x->Rd g W0 u x cs->
  (∀i W,J i W->W.rangeAt b o cs/\∀b o,g.S b o->W.cell? ⟨b,o,none⟩=W0.cell? ⟨b,o,none⟩)->
  (∀i W d,J i W->J i {W with drawn:=d})->(∀W d,Jx W->Jx {W with drawn:=d})->
  (∀i it W,(items x)[i]? =some it->J i W->YieldAt Fence.wide 0 P l (vl it).toArray W fun e W'=>(e= .returned (.bool true)/\J (i+1) W')\/(e= .returned (.bool false)/\Jx W'))->
  ∀W,J 0 W->Calls P gf #[.func (.yield l) #[] #[],.pointer (some ⟨b,o,none⟩)] W fun e W'=>(∃v,e= .returned v)/\(J (items x).length W'\/Jx W')
def F8 {ι σ ρ:Type}(f:ι->σ->Option (σ⊕ρ)):List ι->σ->Option (σ⊕ρ)
 |[],x=>some (.inl x)
 |it::r,x=>(f it x).bind fun w=>match w with
  | .inl x'=>F8 f r x'
  | .inr y=>some (.inr y)
theorem aMZ {ι σ ρ:Type}{f:ι->σ->Option (σ⊕ρ)}{it:ι}{r:List ι}{x:σ}{y:σ⊕ρ}(h:F8 f (it::r) x=some y): ∃w,f it x=some w/\(∀x',w= .inl x'->F8 f r x'=some y)/\(∀z,w= .inr z->y= .inr z):=by
 unfold F8 at h;cases hf:f it x with
 |none=>rw[hf] at h;cases h
 |some w=>
  rw[hf] at h;refine⟨w,rfl,fun x' e=> ?_,fun z e=> ?_⟩
  .subst e;exact h
  .subst e;exact(aVe h).symm
def qA (st:St):Ex->St->Prop
 | .normal,s=> ∃k:wM,s.keep k=st
 |_,_=>False
def qF {σ ρ:Type}(encH:σ->List qH) (E0:List (Nat×qI)) (N np np':Nat) (w:σ⊕ρ) (Q:Ex->St->Prop):Ex->St->Prop
 | .normal,s=> ∃(k:wM) (x:σ),w= .inl x/\s.keep k=⟨[],qW 0 (encH x),rF (encH x),N,np'⟩
 |e,s=> ∃(k:wM) (B:List qH),s.keep k=⟨[],qW 0 B,rF B,N,np'⟩/\(∃z,w= .inr z)/\Q e ⟨E0,qW 0 B,rF B,N,np⟩
section
variable {B:Nat}{A:Nat->Nat->Prop}{L:List qH}{g0 g:Gh}{w0 w:pU}{b0 o0 n0:Nat}{cs:pQ}{E0:List (Nat×qI)}{tmps:Array pV}{ds:List Deferred}
structure GC (B:Nat) (A:Nat->Nat->Prop) (L:List qH) (g0:Gh) (w0:pU) (g:Gh) (w:pU) (b0 o0 n0:Nat) (cs:pQ) (E0:List (Nat×qI)) (tmps:Array pV) (ds:List Deferred) (g1:Gh) (W:pU) (H:sD):Prop where
 env:CG g1 W E0 tmps
 heap:sK g1 W H
 good:tM A L g0 w0 g1 W H
 sld: ∀b o,g.S b o->g1.S b o/\W.cell? ⟨b,o,none⟩=w.cell? ⟨b,o,none⟩
 rng:W.rangeAt b0 o0 cs
 len:cs.length=n0
 lt:0<n0->b0<W.heap.size
 out: ∀o,o0<=o->o<o0+n0->¬A9 g1 H b0 o
 defs:AA B W ds
theorem GC.turn {g1:Gh}{W W2:pU}{H:sD}(h:GC B A L g0 w0 g w b0 o0 n0 cs E0 tmps ds g1 W H) (t:vF w0.heap.size W W2) {ds':List Deferred}(hd:AA B W2 ds'):GC B A L g0 w0 g w b0 o0 n0 cs E0 tmps ds' g1 W2 H:=by
 refine⟨fun x=>CC (t.le h.heap.sl) (h.env x),t.heapOk h.heap,h.good.turn h.heap.sl t,fun b o x=>⟨(h.sld b o x).1,(t.cell (h.heap.sl b o (h.sld b o x).1) o).1.trans (h.sld b o x).2⟩,fun j v hv=> ?_,h.len,fun x=>aVP (h.lt x) t.size,h.out,hd⟩;have hj:j<cs.length:=(aVq.1 hv).1;have:=h.len;exact(t.cell (h.lt pJ) _).1.trans (h.rng j v hv)
theorem GC.inner {g1 g2:Gh}{W W2:pU}{H H2:sD}{L':List qH}{np':Nat}(h:GC B A L g0 w0 g w b0 o0 n0 cs E0 tmps ds g1 W H) (k:tM (A9 g1 H) L' g1 W g2 W2 H2) (hH:sK g2 W2 H2) (hpin:NX np' E0=true) (hnp:np'=L'.length) (hl:L.length<=L'.length)
  (hL: ∀i,i<L.length->∀b,L'[i]? =some b->qM H i=some b):GC B A L g0 w0 g w b0 o0 n0 cs E0 tmps ds g2 W2 H2:=by
 subst hnp;refine⟨aMY h.env hpin (fun b o x=>(k.shut b o x).1) (fun b o x=>(k.shut b o x).2) (fun i p hi x=>k.J i p hi x) (fun i n v hi x=>k.cur i n v hi x),hH,h.good.inner k (fun b o x=> .inr x) hl hL,fun b o x=> ?_,fun j v hv=> ?_,h.len,fun x=>aVP (h.lt x) k.fr.size,fun o h1 h2 ⟨i,blk,h3,h4⟩=> ?_,h.defs.same fun D hD=> ?_⟩
 .obtain⟨h1,h2⟩:=h.sld b o x;exact⟨(k.shut b o h1).1,(k.shut b o h1).2.trans h2⟩
 .have hj:j<cs.length:=(aVq.1 hv).1;have:=h.len;exact(k.fr.cell _ _ (h.lt pJ) (h.out _ pJ pJ)).1.trans (h.rng j v hv)
 .rcases k.perm i blk _ _ h3 h4 with h5|h5
  .have:=h.lt pJ;omega
  .exact h.out o h1 h2 h5
 .rw[k.fr.blk D (aVz.1 hD).1 (fun o ⟨i,blk,h1,h2⟩=>VR (h.heap.blk i blk h1) h2 hD rfl)];exact hD
theorem aDk {g1 g2:Gh}{W W2:pU}{H H2:sD}{L':List qH}(hH:sK g1 W H) (k:tM (A9 g1 H) L' g1 W g2 W2 H2) {D:Nat}{ob:Obj}(hD:W.heap[D]? =some ob) (hm:HL ob=true):W2.heap[D]? =some ob:=by
 rw[k.fr.blk D (aVz.1 hD).1 (fun o ⟨i,blk,h1,h2⟩=>VR (hH.blk i blk h1) h2 hD hm)];exact hD
end
theorem vF.put {B:Nat}{W:pU}{l:Nat}{o o':Obj}(h:W.heap[l]? =some o) (hB:B<=l) (hN:NG<=l) (hm:HL o=true) (hm':HL o'=true):vF B W (W.putObj l o'):=by
 have hlt:=(aVz.1 h).1;refine⟨rfl,rfl,rfl,by simp [World.putObj],fun b hb=> ?_⟩;by_cases e:b=l
 .subst e;exact .inr ⟨hB,hN,_,_,h,World.putObj_heap_same hlt,hm,hm'⟩
 .exact .inl (World.putObj_heap_other e)
theorem vF.new (B:Nat) (W:pU) (o:Obj):vF B W (W.alloc o):=by
 refine⟨rfl,rfl,rfl,by simp,fun b hb=> .inl ?_⟩;exact aVH W o b hb
theorem aDl {e:Ex}{x:Exit}(h:E9 x=some e):(x= .normal/\e= .normal)\/(x= .ret/\e= .ret)\/∃id,x= .exit id/\e= .exit id:=by
 cases x<;>simp only[E9,aU9] at h
 .exact .inl ⟨rfl,h.symm⟩
 .exact .inr (.inr ⟨_,rfl,h.symm⟩)
 .cases h
 .exact .inr (.inl ⟨rfl,h.symm⟩)
 .cases h
 .cases h
def aM0:Ex->Option Code
 | .normal=>none
 | .ret=>some .ret
 | .exit id=>some (.exit id)
theorem aM1 {P:Program}{gf:Nat}{u:Ty}{ι:Type}{pre:u.den->Prop}{items:u.den->List ι}{vl:ι->pQ}(hit:aDj P gf u pre items vl) {sl:ι->List qI}(hsl: ∀it g w,vV g w (sl it) (vl it))
  {fo:Operand}{ps:Array Tmp}{assign body:Code}{s:St}{Q:Ex->St->Prop}{c:Nat}{k0:pS}(hf:uE s.env fo=(.val .clo (some (gf,[(c,0)])),k0)) {xc:u.den}{toks:pO}(hc:qM s.H c=some (.cells u xc toks)) (hpre:pre xc)
  {σ ρ:Type}{f:ι->σ->Option (σ⊕ρ)}{x0:σ}{y:σ⊕ρ}(hy:F8 f (items xc) x0=some y)
  (E0:List (Nat×qI)) (E1:ι->List (Nat×qI)) (encH:σ->List qH) (np':Nat) (k:wM) (hk:y5 s.np k.ids=true) (h0:s.keep k=⟨E0,qW 0 (encH x0),rF (encH x0),s.N,s.np⟩)
  (hcd:k.ids.all (fun q=>decide (q.2≠c))=true) (hpin:NX np' E0=true) (hnp:s.np<=np') (hlen: ∀x,np'<=rF (encH x)) (hdead: ∀x,((encH x).take np').all (fun b=>match b with| .dead=>false|_=>true)=true)
  (hps: ∀it,ps.toList.length=(sl it).length) (hpN:(ps.toList.all fun p=>decide (p<s.N))=true)
  (hround: ∀it x w,f it x=some w->(∀z,w= .inr z->y= .inr z)->Ev true P assign ⟨RE E0 ps.toList (sl it),qW 0 (encH x),rF (encH x),s.N,np'⟩ (qA ⟨E1 it,qW 0 (encH x),rF (encH x),s.N,np'⟩)/\
   Ev true P body ⟨E1 it,qW 0 (encH x),rF (encH x),s.N,np'⟩ (qF encH E0 s.N s.np np' w Q))
  (hdone: ∀x,y= .inl x->Q .normal ⟨E0,qW 0 (encH x),rF (encH x),s.N,s.np⟩):Ev false P (.rangeFunc fo ps assign body) s Q:=by
 intro ro hro A L g0 w0 g a w B hB hr hg hn;have hN:ro=none:=by cases ro<;>first|rfl|cases hro
 subst hN;have hfv:=AZ hr.env fo;rw[hf] at hfv;obtain⟨p,hpJ,hev⟩: ∃p,g.J c=some p/\a.eval fo= .func (.func gf) #[] #[.pointer (some ⟨p.1,p.2,none⟩)]:=by
  rcases hfv.1 with⟨h1,_⟩ |⟨_,vs,⟨p,vs',h4,h5,h6⟩,h3⟩
  .cases h1
  .rw[show vs'=[] from h6] at h5;subst h5;simp only[aV8,and_true] at h3;exact⟨p,h4,h3⟩
 obtain⟨p',cs,hp',hRc,hra,hth,hns,htk⟩:=hr.heap.blk c _ hc;rw[hpJ] at hp';obtain rfl:=aVe hp';have hcl:=sY hRc;obtain⟨hr1,hg1,hn1,_⟩:=a08 hr hg hn k hk;have hout: ∀o,p.2<=o->o<p.2+u.cells->¬A9 (v7 g s.np k.ids) (s.keep k).H p.1 o:=by
  rintro o h1 h2 ⟨i,blk,h3,h4⟩;have h3':qM (QH s k (y5 s.np k.ids)).H i=some blk:=h3;rw[hk] at h3';obtain⟨o',h5,rfl⟩:=J9 h3';obtain⟨c1,h6,h7⟩:=(LF hk h5 fun c1 hc1=>hr.heap.blk o' c1 hc1).2 _ _ h4;have h8:=aV4.1 hcd _ h5;exact hr.heap.dis o' c c1 _ p.1 o (aVU h8) h6 hc h7 ⟨p,hpJ,rfl,h1,h2⟩
 rw[h0] at hr1 hg1 hout;have inv0:GC B A L g0 w0 g w p.1 p.2 u.cells cs E0 a.tmps a.defers (v7 g s.np k.ids) w (qW 0 (encH x0)):=
  ⟨hr1.env,hr1.heap,hg1,fun b o h=>⟨h,rfl⟩,hra,hcl,fun hpos=>by
   obtain⟨v,hv⟩:=aVb.1 (hth.1 0 hpos).1;exact V3 hv,hout,hr.def_⟩
 have hNG:NG<=w.heap.size:=hr.heap.tab.1.1;have hBw:w0.heap.size<=w.heap.size:=hg.fr.size;refine wpIn_rangeFunc fun fn _=> ?_;obtain⟨rec,hrec⟩: ∃rec:LoopState->Option Code->Loop,rec=fun st pe=>{state:=st,pending:=pe,fn,tmps:=a.tmps,params:=ps,assign,body,defers:=w.heap.size}:=⟨_,rfl⟩;obtain⟨W1,hW1⟩: ∃W1,(w.alloc (.deferred (some []))).alloc (.loop (rec .ready none))=W1:=⟨_,rfl⟩;have hL1:W1.heap[w.heap.size+1]? =some (.loop (rec .ready none)):=by
  rw[<-hW1];have:=World.alloc_heap_new (w.alloc (.deferred (some []))) (.loop (rec .ready none));rwa [World.size_alloc] at this
 have hK1:W1.heap[w.heap.size]? =some (.deferred (some [])):=by
  rw[<-hW1];exact(aVH _ _ _ pL).trans (World.alloc_heap_new w _)
 have t1:vF w0.heap.size w W1:=by rw[<-hW1];exact(vF.new _ _ _).trans (vF.new _ _ _)
 obtain⟨ds,hds⟩: ∃ds:List Deferred,{target:= .collected w.heap.size,args:= #[]}::a.defers=ds:=⟨_,rfl⟩;have hd1:AA B W1 ds:=by
  rw[<-hds];refine⟨List.nodup_cons.2 ⟨fun hm=> ?_,hr.def_.1⟩,fun d hd=> ?_⟩
  .obtain⟨D,h1,_,_,h4⟩:=hr.def_.2 _ hm;have h5:w.heap.size=D:=by injection h1 with h1;injection h1
   have:=(aVz.1 h4).1;omega
  .rcases aVs.1 hd with rfl|hd
   .exact⟨_,rfl,pJ,hNG,hK1⟩
   .obtain⟨D,h1,h2,h3,h4⟩:=hr.def_.2 _ hd;have hlt:=(aVz.1 h4).1;refine⟨D,h1,h2,h3,?_⟩;rw[<-hW1];exact(aVH _ _ D pM).trans ((aVH _ _ D hlt).trans h4)
 let l:=w.heap.size+1
 let J:Nat->pU->Prop:=fun i W=> ∃g1 x,F8 f ((items xc).drop i) x=some y/\GC B A L g0 w0 g w p.1 p.2 u.cells cs E0 a.tmps ds g1 W (qW 0 (encH x))/\
  (∀j,rF (encH x)<=j->g1.J j=none/\∀n,g1.cur j n=none)/\W.heap[l]? =some (.loop (rec .ready none))
 let Jx:pU->Prop:=fun W=> ∃g1 Bl e cd z,aM0 e=some cd/\y= .inr z/\Q e ⟨E0,qW 0 Bl,rF Bl,s.N,s.np⟩/\GC B A L g0 w0 g w p.1 p.2 u.cells cs E0 a.tmps ds g1 W (qW 0 Bl)/\
  (∀j,rF Bl<=j->g1.J j=none/\∀n,g1.cur j n=none)/\s.np<=rF Bl/\W.heap[l]? =some (.loop (rec .done (some cd)))
 have tdrawn: ∀(W:pU) (d:Nat),vF w0.heap.size W {W with drawn:=d}:=fun W d=>⟨rfl,rfl,rfl,aVp _,fun _ _=> .inl rfl⟩
 have hJd: ∀i W d,J i W->J i {W with drawn:=d}:=fun i W d ⟨g1,x,h1,h2,h3,h4⟩=>⟨g1,x,h1,h2.turn (tdrawn W d) (h2.defs.same fun _ h=>h),h3,h4⟩
 have hJxd: ∀W d,Jx W->Jx {W with drawn:=d}:=fun W d ⟨g1,Bl,e,cd,z,h1,h2,h3,h4,h5,h6,h7⟩=>⟨g1,Bl,e,cd,z,h1,h2,h3,h4.turn (tdrawn W d) (h4.defs.same fun _ h=>h),h5,h6,h7⟩
 have hround2: ∀i it W,(items xc)[i]? =some it->J i W->YieldAt Fence.wide 0 P l (vl it).toArray W fun e W'=>(e= .returned (.bool true)/\J (i+1) W')\/(e= .returned (.bool false)/\Jx W'):=by
  rintro i it W hi ⟨g1,x,hfold,inv,nb,hl⟩;have hil:i<(items xc).length:=(aVq.1 hi).1;have hdrop:(items xc).drop i=it::(items xc).drop (i+1):=by
   rw[aVA hil];congr 1;exact(aVq.1 hi).2
  rw[hdrop] at hfold;obtain⟨wv,hw,hinl,hinr⟩:=aMZ hfold;obtain⟨evA,evB⟩:=hround it x wv hw hinr;have hvl:(vl it).toArray.size=ps.size:=by
   rw[aV3,(W3 (hsl it g1 W)).1,<-hps it,aVJ]
  have hyl:=run_yield (P:=P) (args:=(vl it).toArray) hl (by rw[hrec];exact hvl);rw[hrec] at hyl;refine⟨fn,_,assign,body,hyl,roundIn_of_wpIn trivial ?_⟩;have hz:(ps.zip (vl it).toArray).foldl (fun tmps (t,v)=>tmps.setIfInBounds t v) a.tmps=(ps.toList.zip (vl it)).foldl (fun t (q:Nat×pV)=>t.setIfInBounds q.1 q.2) a.tmps:=by
   rw[<-aXh,Array.toList_zip]
  rw[hz];obtain⟨henv,hsz⟩:=aDi inv.env (fun q hq=>by rw[hr.size];exact aVU (aV4.1 hpN q hq)) (hsl it g1 W) (hps it);have hL'len:((encH x).take np').length=np':=by
   rw[aVx];have:=hlen x;rw[W4] at this;omega
  have hLget: ∀i b,((encH x).take np')[i]? =some b->qM (qW 0 (encH x)) i=some b:=fun i b h=>by
   rw[yH];exact(aXe (by have:=(aVq.1 h).1;omega)).symm.trans h
  have hLget2: ∀i b,((encH x).take np')[i]? =some b->qM (qW 0 (encH x)) i=some b/\b≠.dead:=fun i b h=>⟨hLget i b h,fun e=>by
   have:=aV4.1 (hdead x) b (List.mem_of_getElem? h);subst e;cases this⟩
  have hLty: ∀i,i<((encH x).take np').length->∀b,qM (qW 0 (encH x)) i=some b->((encH x).take np')[i]? =some b:=fun i hi b h=>by
   rw[yH] at h;exact(aXe pJ).trans h
  have gs:=tM.start inv.heap hLget2 hLty;have rA:vK W.heap.size g1 W ⟨RE E0 ps.toList (sl it),qW 0 (encH x),rF (encH x),s.N,np'⟩ {tmps:=(ps.toList.zip (vl it)).foldl (fun t (q:Nat×pV)=>t.setIfInBounds q.1 q.2) a.tmps,defers:=[]}:=⟨henv,inv.heap,hsz.trans hr.size,nb,aB5 _ _,hlen x⟩;have hlow:L.length<=((encH x).take np').length:=by rw[hL'len,<-hn];exact hnp
  refine aWT (evA (some l) rfl _ _ g1 W g1 _ W _ (aVp _) rA gs hL'len.symm) fun e a1 wa hp=> ?_;obtain⟨e',g2,s2,e1,e2,e3,e4,e5⟩:=hp;rcases aDl e1 with⟨rfl,rfl⟩ |⟨rfl,rfl⟩ |⟨id,rfl,rfl⟩
  .obtain⟨kA,hkA⟩:=e2;obtain⟨g3,k1,k2,k3,_⟩:=HN e3 e4 e5 kA;rw[hkA] at k1 k2;have inva:=inv.inner k2 k1.heap hpin hL'len.symm hlow (fun i hi b h=>hLget i b h);have hla:=aDk inv.heap k2 hl rfl;refine⟨_,run_beginRound hla (by rw[hrec]),?_⟩;obtain⟨Wb,hWb⟩: ∃Wb,wa.putObj l (.loop {rec .ready none with state:= .busy})=Wb:=⟨_,rfl⟩
   have tb:vF w0.heap.size wa Wb:=by rw[<-hWb];exact vF.put hla (by show w0.heap.size<=w.heap.size+1;omega) (by show NG<=w.heap.size+1;omega) rfl rfl
   have hlt:=(aVz.1 hla).1;have other: ∀{W:pU}{o o':Obj}{D:Nat},W.heap[l]? =some (.loop (rec .ready none))\/W.heap[l]? =some (.loop {rec .ready none with state:= .busy})->W.heap[D]? =some (.deferred (some []))->(W.putObj l o').heap[D]? =some (.deferred (some [])):=by
    intro W o o' D h1 h2;rw[World.putObj_heap_other (fun e=>by subst e;rcases h1 with h1|h1<;>(rw[h1] at h2;cases h2))]
    exact h2
   have invb:=inva.turn tb (inva.defs.same fun D hD=>by rw[<-hWb];exact other (o:= .loop (rec .ready none)) (.inl hla) hD);have hlb:Wb.heap[l]? =some (.loop {rec .ready none with state:= .busy}):=by rw[<-hWb];exact World.putObj_heap_same hlt
   rw[hWb];have gsb:=tM.start invb.heap hLget2 hLty;have rB:vK W.heap.size g3 Wb ⟨E1 it,qW 0 (encH x),rF (encH x),s.N,np'⟩ a1:=⟨fun t=>CC (tb.le k1.heap.sl) (k1.env t),invb.heap,k1.size,k1.nb,k1.def_.same fun D hD=>by rw[<-hWb];exact other (o:= .loop (rec .ready none)) (.inl hla) hD,hlen x⟩;have hWW:W.heap.size<=Wb.heap.size:=aV7 k2.fr.size tb.size;refine aWT (evB (some l) rfl _ _ g3 Wb g3 a1 Wb _ hWW rB gsb hL'len.symm) fun e a2 wc hp=> ?_;obtain⟨e',g4,s4,e1,e2,e3,e4,e5⟩:=hp;have vN: ∀(kB:wM) (Bl:List qH),s4.keep kB=⟨[],qW 0 Bl,rF Bl,s.N,np'⟩->∀jump:Option Code,∃g5,GC B A L g0 w0 g w p.1 p.2 u.cells cs E0 a.tmps ds g5 (wc.putObj l (.loop (rec (if jump.isNone then .ready else .done) jump))) (qW 0 Bl)/\
     (∀j,rF Bl<=j->g5.J j=none/\∀n,g5.cur j n=none)/\np'<=rF Bl/\(wc.putObj l (.loop (rec (if jump.isNone then .ready else .done) jump))).heap[l]? =some (.loop (rec (if jump.isNone then .ready else .done) jump))/\
     (Instr.endRound l jump).run P wc= .ok (.bool jump.isNone) (wc.putObj l (.loop (rec (if jump.isNone then .ready else .done) jump))):=by
    intro kB Bl hkB jump;obtain⟨g5,j1,j2,j3,_⟩:=HN e3 e4 e5 kB;rw[hkB] at j1 j2;have invc:=invb.inner j2 j1.heap hpin hL'len.symm hlow (fun i hi b h=>hLget i b h);have hlc:=aDk invb.heap j2 hlb rfl;have hltc:=(aVz.1 hlc).1;have tc:vF w0.heap.size wc (wc.putObj l (.loop (rec (if jump.isNone then .ready else .done) jump))):=vF.put hlc (by show w0.heap.size<=w.heap.size+1;omega) (by show NG<=w.heap.size+1;omega) rfl rfl;refine⟨g5,invc.turn tc (invc.defs.same fun D hD=>other (o:= .loop (rec .ready none)) (.inr hlc) hD),j1.nb,j1.np,World.putObj_heap_same hltc,?_⟩;have:=run_endRound (P:=P) jump hlc;rw[this,hrec]
   rcases aDl e1 with⟨rfl,rfl⟩ |⟨rfl,rfl⟩ |⟨id,rfl,rfl⟩
   .obtain⟨kB,x',rfl,hkB⟩:=e2;obtain⟨g5,q1,q2,q3,q4,q5⟩:=vN kB _ hkB none;exact⟨_,_,q5,.inl ⟨rfl,g5,x',hinl x' rfl,q1,q2,q4⟩⟩
   .obtain⟨kB,Bl,hkB,⟨z,rfl⟩,hq⟩:=e2;obtain⟨g5,q1,q2,q3,q4,q5⟩:=vN kB _ hkB (some .ret);exact⟨_,_,q5,.inr ⟨rfl,g5,Bl,.ret,.ret,z,rfl,hinr z rfl,hq,q1,q2,aV7 hnp q3,q4⟩⟩
   .obtain⟨kB,Bl,hkB,⟨z,rfl⟩,hq⟩:=e2;obtain⟨g5,q1,q2,q3,q4,q5⟩:=vN kB _ hkB (some (.exit id));exact⟨_,_,q5,.inr ⟨rfl,g5,Bl,.exit id,.exit id,z,rfl,hinr z rfl,hq,q1,q2,aV7 hnp q3,q4⟩⟩
  .exact e2.elim
  .exact e2.elim
 refine⟨l,[{target:= .collected w.heap.size,args:= #[]}],W1,{target:= .fn (.func gf) #[.pointer (some ⟨p.1,p.2,none⟩)],args:= #[.func (.yield l) #[] #[]]},W1,gf,#[.func (.yield l) #[] #[]]++ #[.pointer (some ⟨p.1,p.2,none⟩)],W1,?_,?_,fun _ _=>trivial,?_,fun h=>(by cases h),?_⟩
 .rw[<-hW1,hrec];exact run_enterLoop_outer _ _ _ _ _
 .simp only[resolve,hev];simp [go_sem]
 .simp [invoke,go_sem,hit.1]
 .have inv1:=inv0.turn t1 hd1;refine(aCe (ro:=none) (n:=0-1) (hit.2 l p.1 p.2 xc cs g w J Jx hpre hRc (fun i W ⟨g1,x,_,h2,_⟩=>⟨h2.rng,fun b o hb=>(h2.sld b o hb).2⟩) hJd hJxd hround2 W1 ⟨_,x0,hy,inv1,hr1.nb,hL1⟩)).mono ?_;have hend: ∀{W:pU}{r:Loop},W.heap[l]? =some (.loop r)->∀{ds0:List Deferred},AA B W ds0->AA B (W.putObj l (.loop {r with state:= .exhausted})) ds0:=by
   intro W r h1 ds0 h2;refine h2.same fun D hD=> ?_;rw[World.putObj_heap_other (fun e=>by subst e;rw[h1] at hD;cases hD)];exact hD
  rintro e W2 ⟨⟨v,rfl⟩,(⟨g1,x,h1,h2,h3,h4⟩ |⟨g1,Bl,e,cd,z,h1,h2,h3,h4,h5,h6,h7⟩)⟩
  .rw[aVR] at h1;have hyx:y= .inl x:=(aVe h1).symm;have hin:=h2.turn (vF.put (o':= .loop {rec .ready none with state:= .exhausted}) h4 (by show w0.heap.size<=w.heap.size+1;omega) (by show NG<=w.heap.size+1;omega) rfl rfl) (hend h4 h2.defs)
   refine⟨none,W2.putObj l (.loop {rec .ready none with state:= .exhausted}),by have:=run_endLoop (P:=P) h4 (by rw[hrec];simp);rw[hrec] at this|-;exact this,?_⟩
   refine⟨.normal,g1,_,rfl,hdone x hyx,⟨hin.env,hin.heap,hr.size,h3,?_,aV7 hnp (hlen x)⟩,hin.good,hn⟩;have:=hin.defs;rw[<-hds] at this;exact this
  .have hin:=h4.turn (vF.put (o':= .loop {rec .done (some cd) with state:= .exhausted}) h7 (by show w0.heap.size<=w.heap.size+1;omega) (by show NG<=w.heap.size+1;omega) rfl rfl) (hend h7 h4.defs)
   refine⟨some cd,W2.putObj l (.loop {rec .done (some cd) with state:= .exhausted}),by have:=run_endLoop (P:=P) h7 (by rw[hrec];simp);rw[hrec] at this|-;exact this,?_⟩
   have hdef:=hin.defs;rw[<-hds] at hdef;have hrel:vK B g1 (W2.putObj l (.loop {rec .done (some cd) with state:= .exhausted})) ⟨E0,qW 0 Bl,rF Bl,s.N,s.np⟩ {a with defers:=[{target:= .collected w.heap.size,args:= #[]}]++a.defers}:=⟨hin.env,hin.heap,hr.size,h5,hdef,h6⟩
   cases e with
   |normal=>cases h1
   |ret=>
    obtain rfl:=aVe h1;exact wpIn_ret ⟨.ret,g1,_,rfl,h3,hrel,hin.good,hn⟩
   |exit id=>
    obtain rfl:=aVe h1;exact wpIn_exit ⟨.exit id,g1,_,rfl,h3,hrel,hin.good,hn⟩
section
variable {σ ρ:Type}{encH:σ->List qH}{E0:List (Nat×qI)}{N np np':Nat}{w:σ⊕ρ}{Q:Ex->St->Prop}{st s:St}
theorem aM2 (k:wM) (h:s.keep k=st):qA st .normal s:=⟨k,h⟩
theorem aM3 (k:wM) (x:σ) (hw:w= .inl x) (h:s.keep k=⟨[],qW 0 (encH x),rF (encH x),N,np'⟩):qF encH E0 N np np' w Q .normal s:=⟨k,x,hw,h⟩
end
end Go.Proofs.YtbbpilohihldiaaGreatDoor.Vc
namespace Go.Proofs.YtbbpilohihldiaaGreatDoor
open Go.RowKit Go.Shelf Vc
section
attribute [local go_sem] Oper.semAt_some
def DB (d:(Ty.pair .str (.pair (.list .str) (.pair .str .unit))).den):List (Int×pG):=
 (0,d.1)::((List.range d.2.1.length).map fun j:Nat=>((j:Int)+1,d.2.1.getD j []))++[((d.2.1.length:Int)+1,d.2.2.1)]
def RF (it:Int×pG):pQ:=[.int .i64 it.1,.string ⟨it.2.toArray⟩]
@[go_sem] def aDm (it:Int×pG):List qI:=[(.val (.int .i64) it.1,none),(.val .str it.2,none)]
theorem aM4 (it:Int×pG) (g:Gh) (w:pU):vV g w (aDm it) (RF it):=⟨_,_,rfl,⟨wU _ _ _ _,trivial⟩,_,_,rfl,⟨HI _ _ _,trivial⟩,rfl⟩
theorem aM5 (d:(Ty.pair .str (.pair (.list .str) (.pair .str .unit))).den):(DB d).length=d.2.1.length+2:=by simp [DB]
theorem aM6 (d:(Ty.pair .str (.pair (.list .str) (.pair .str .unit))).den):(DB d)[0]? =some (0,d.1):=by simp [DB]
theorem aM7 (d:(Ty.pair .str (.pair (.list .str) (.pair .str .unit))).den) {j:Nat}(h:j<d.2.1.length):(DB d)[j+1]? =some ((j:Int)+1,d.2.1.getD j []):=by
 simp [DB,aVt,h]
theorem aM8 (d:(Ty.pair .str (.pair (.list .str) (.pair .str .unit))).den):(DB d)[d.2.1.length+1]? =some ((d.2.1.length:Int)+1,d.2.2.1):=by
 simp [DB]
theorem aM9:aDj Tryz.prog 92 (.pair .str (.pair (.list .str) (.pair .str .unit))) (fun d=>d.2.1.length<=4611686018427387904) DB RF:=by
 refine⟨fun _ _=>rfl,?_⟩;intro l b o d cs g W0 J Jx hpre hR hrd hJd hJxd hY W h0;obtain⟨c1,c2,rfl,hh,c3,c4,rfl,hl,c5,c6,rfl,ht,hu⟩:=hR;rw[show c1=[.string ⟨d.1.toArray⟩] from hh] at hrd;rw[show c5=[.string ⟨d.2.2.1.toArray⟩] from ht,show c6=[] from hu] at hrd;obtain⟨a,cap,rfl,hcap,hel⟩:=hl;have r0: ∀i W,J i W->W.cell? ⟨b,o,none⟩=some (.string ⟨d.1.toArray⟩):=fun i W h=>by simpa using(hrd i W h).1 0 _ rfl
 have r1: ∀i W,J i W->W.cell? ⟨b,o+1,none⟩=some (.slice a d.2.1.length cap):=fun i W h=>(hrd i W h).1 1 _ rfl;have r2: ∀i W,J i W->W.cell? ⟨b,o+2,none⟩=some (.string ⟨d.2.2.1.toArray⟩):=fun i W h=>(hrd i W h).1 2 _ rfl;have re: ∀j,j<d.2.1.length->∃b' o',a=some ⟨b',o',none⟩/\∀i W,J i W->W.cell? ⟨b',o'+j,none⟩=some (.string ⟨(d.2.1.getD j []).toArray⟩):=by
  intro j hj;rcases hel with h|⟨b',o',h1,h2⟩
  .rw[h] at hj;cases hj
  .refine⟨b',o',h1,fun i W h=> ?_⟩;have hg:d.2.1[j]? =some (d.2.1.getD j []):=by rw[aVy,aVj hj];rfl
   obtain⟨cs,k1,k2,k3,k4⟩:=V6 h2 hg;rw[show cs=[.string ⟨(d.2.1.getD j []).toArray⟩] from k4] at k2;have k5:=k2 0 _ rfl;have k6:=k3 0 pK;rw[aWs,show j*Ty.str.cells=j from aXj j] at k5 k6;rw[(hrd i W h).2 _ _ k6];exact k5
 have q0:=aM6 d;have qm:=fun j=>aM7 d (j:=j);have ql:=aM8 d;have qn:=aM5 d;generalize hn:d.2.1.length=n at*;refine(callsIn_wide (n:=0)).1 (callsIn_of_wp Tryz.func92 rfl trivial ?_);simp only[Tryz.ntmps92,aV3,aVd,aVv,Nat.reduceAdd,Nat.reduceSub,Array.replicate_succ,Array.replicate_zero,List.push_toArray,List.append_toArray,List.nil_append,List.cons_append];have c0:=r0 0 W h0;obtain⟨fn,tmps,assign,body,hy,hQ⟩:=hY 0 _ W q0 h0;dsimp only[RF] at hy
 gi_wp2
 refine⟨rfl,hQ.mono ?_⟩;clear hQ hy;rintro e W1 (⟨rfl,hJ1⟩ |⟨rfl,hJx⟩)
 .have s1:=r1 _ W1 hJ1
  gi_wp2
  gi_loopw [13] (fun i wr=> ∃k:Nat,k<=n/\i= .int .i64 k/\J (k+1) wr) (fun i _=>n- (RowKit.intOf i).toNat)
  case atStart=>exact⟨0,aVX _,rfl,hJ1⟩
  case round=>
   obtain⟨k,hk,rfl,hJs⟩:=hrel;by_cases hlt:k<n
   .obtain⟨b',o',rfl,hce⟩:=re k hlt;have hc':=hce _ _ hJs;have hq:=qm k hlt;clear re qm ql q0 hce;generalize d.2.1.getD k []=x at hc' hq;obtain⟨fn,tmps,assign,body,hy,hQ⟩:=hY _ _ wr hq hJs;dsimp only[RF] at hy
    gi_wp2
    refine⟨rfl,hQ.mono ?_⟩;clear hQ hy;rintro e W2 (⟨rfl,hJ2⟩ |⟨rfl,hJx⟩)
    .gi_wp2
     go_roundw
     case rel=>exact⟨k+1,pJ,by simp,hJ2⟩
     case measure=>
      show n- (k+1)<n-k;omega
    .gi_wp2
     refine bodyPost_ret (results_none rfl _ _ _) rfl ?_;exact⟨⟨_,rfl⟩,.inr hJx⟩
   .obtain rfl:k=n:=by omega
    have s1:=r1 _ _ hJs;have s2:=r2 _ _ hJs;obtain⟨fn,tmps,assign,body,hy,hQ⟩:=hY _ _ wr ql hJs;dsimp only[RF] at hy
    gi_wp2
    refine⟨rfl,hQ.mono ?_⟩;clear hQ hy;rintro e W2 (⟨rfl,hJ2⟩ |⟨rfl,hJx⟩)
    .gi_wp2
     go_end0
     exact⟨⟨_,rfl⟩,.inl (by rw[qn];exact hJ2)⟩
    .gi_wp2
     go_end0
     exact⟨⟨_,rfl⟩,.inr hJx⟩
 .gi_wp2
  refine bodyPost_ret (results_none rfl _ _ _) rfl ?_;exact⟨⟨_,rfl⟩,.inr hJx⟩
end
end Go.Proofs.YtbbpilohihldiaaGreatDoor
namespace Go.Proofs.YtbbpilohihldiaaGreatDoor
open Go.RowKit Go.Shelf Go.Lib
theorem aNa {w:pU}(hc:w.cell? ⟨5,15,none⟩=some (.int .u8 4)):
  Calls Tryz.prog 299 #[.int .u64 16] w fun e w'=>e= .returned (.int .i64 4)/\w'=w:=by
 go_enter Tryz.func299,Tryz.ntmps299
 have k0:bits BinOp.and IntKind.u64 16 (IntKind.u64.wrap (-16))=16:=by decide+kernel
 have k1:IntKind.u64.wrap (16*285870213051353865) /288230376151711744=15:=by decide+kernel
 go_wp2
 go_ret
 exact⟨rfl,rfl⟩
theorem tzU {w:pU}(hc:w.cell? ⟨5,15,none⟩=some (.int .u8 4)):
  Calls Tryz.prog 295 #[.int .u64 16] w fun e w'=>e= .returned (.int .i64 4)/\w'=w:=by
 go_enter Tryz.func295,Tryz.ntmps295
 go_wp2_with fail
 refine(aNa hc).mono ?_;rintro e w' ⟨rfl,rfl⟩
 go_wp2
 go_ret
 exact⟨rfl,rfl⟩
theorem aDo {w:pU}:
  Calls Tryz.prog 294 #[.int .i64 16] w fun e w'=>e= .returned (.bool true)/\w'=w:=by
 have k0:bits BinOp.and IntKind.i64 16 15=0:=by decide+kernel
 go_enter Tryz.func294,Tryz.ntmps294
 go_wp2
 go_ret
 exact⟨rfl,rfl⟩
theorem aDp {w:pU}{a:Addr}{v:pV}(h:w.cell? a=some v):a.block<w.heap.size:=by
 unfold World.cell? at h;split at h
 .rename_i hb;exact(aVz.1 hb).1
 .cases h
def LK (n:Nat):UInt8:=if n<10 then(48+n).toUInt8 else(87+n).toUInt8
theorem aNb (w:pU) (d:UInt8):(convert 42 9 (.slice (some ⟨w.heap.size,64,none⟩) 1 1)).run Tryz.prog (w.alloc (.cells (Tryz.zeroCells285.setIfInBounds 64 (.int .u8 (d.toNat:Int))) 285))= .ok (.string ⟨#[d]⟩) (w.alloc (.cells (Tryz.zeroCells285.setIfInBounds 64 (.int .u8 (d.toNat:Int))) 285)):=by
 refine run_convert_bytes_back _ _ _ 5 ⟨w.heap.size,64,none⟩ 1 [d] Tryz.underlying42 Tryz.underlying5 Tryz.underlying9 fun j hj=> ?_;have:j=0:=by simpa using hj
 subst this;simp [Addr.add,aWE]
theorem a1D: ∀u:Fin 16,(⟨#[48,49,50,51,52,53,54,55,56,57,97,98,99,100,101,102,103,104,105,106,107,108,109,110,111,112,113,114,115,116,117,118,119,120,121,122]⟩:ByteArray).data[u.val]? =some (LK u.val):=by decide+kernel
theorem aNc {w:pU}(hc:w.cell? ⟨5,15,none⟩=some (.int .u8 4)) (u:Nat) (hu:u<16):
  Calls Tryz.prog 285 #[.slice none 0 0,.int .u64 u,.int .i64 16,.bool false,.bool false] w fun e w'=>e= .returned (.tuple #[.slice none 0 0,.string ⟨#[LK u]⟩])/\Below w.heap.size w w':=by
 have hc2:(w.alloc (.cells Tryz.zeroCells285 285)).cell? ⟨5,15,none⟩=some (.int .u8 4):=by
  rw[aVB (a:=⟨5,15,none⟩) (aVH _ _ _ (aDp hc))];exact hc
 go_enter Tryz.func285,Tryz.ntmps285
 go_wp2_with fail
 refine aDo.mono ?_;rintro e w' ⟨rfl,rfl⟩
 go_wp2_with fail
 refine(tzU hc2).mono ?_;rintro e w' ⟨rfl,rfl⟩
 go_wp2_with fail
 go_rounds 1
 rw[aNb];simp only[Result.andThen];rw[Oper.upon_value]
 go_wp2
 go_ret2
 refine⟨?_,(Below.refl _ _).alloc (aVp _) _⟩;have h:=a1D ⟨u,hu⟩;obtain⟨h1,h2⟩:=aVz.1 h;rw[<-h2];rfl
theorem aNd (w:pU) (d e:UInt8):(convert 42 9 (.slice (some ⟨w.heap.size,63,none⟩) 2 2)).run Tryz.prog (w.alloc (.cells ((Tryz.zeroCells285.setIfInBounds 64 (.int .u8 (e.toNat:Int))).setIfInBounds 63 (.int .u8 (d.toNat:Int))) 285))= .ok (.string ⟨#[d,e]⟩) (w.alloc (.cells ((Tryz.zeroCells285.setIfInBounds 64 (.int .u8 (e.toNat:Int))).setIfInBounds 63 (.int .u8 (d.toNat:Int))) 285)):=by
 refine run_convert_bytes_back _ _ _ 5 ⟨w.heap.size,63,none⟩ 2 [d,e] Tryz.underlying42 Tryz.underlying5 Tryz.underlying9 fun j hj=> ?_
 match j,hj with
 |0,_=>simp [Addr.add,aWE]
 |1,_=>simp [Addr.add,aWE]
theorem aNe: ∀u:Fin 256,bits BinOp.and IntKind.u64 (u.val:Int) 15=((u.val%16:Nat):Int):=by decide+kernel
theorem aNf {w:pU}(hc:w.cell? ⟨5,15,none⟩=some (.int .u8 4)) (u:Nat) (hu:16<=u) (hu2:u<256):
  Calls Tryz.prog 285 #[.slice none 0 0,.int .u64 u,.int .i64 16,.bool false,.bool false] w fun e w'=>e= .returned (.tuple #[.slice none 0 0,.string ⟨#[LK (u/16),LK (u%16)]⟩])/\Below w.heap.size w w':=by
 have hc2:(w.alloc (.cells Tryz.zeroCells285 285)).cell? ⟨5,15,none⟩=some (.int .u8 4):=by
  rw[aVB (a:=⟨5,15,none⟩) (aVH _ _ _ (aDp hc))];exact hc
 have h15:=aNe ⟨u,hu2⟩;have hm:u%16<16:=Nat.mod_lt _ pK;have hq:u/16<16:=by omega
 have hq2:((u:Int)) /16=((u/16:Nat):Int):=rfl;dsimp only at h15;have H15:=Lib.hid h15;clear h15;obtain⟨m,hmm⟩: ∃m,u%16=m:=⟨_,rfl⟩;obtain⟨q,hqq⟩: ∃q,u/16=q:=⟨_,rfl⟩;rw[hmm] at hm;rw[hqq] at hq hq2;have h15:=H15.out;rw[hmm] at h15;have HM:=Lib.hid hmm;have HQ:=Lib.hid hqq;clear hmm hqq H15
 go_enter Tryz.func285,Tryz.ntmps285
 go_wp2_with fail
 refine aDo.mono ?_;rintro e w' ⟨rfl,rfl⟩
 go_wp2_with fail
 refine(tzU hc2).mono ?_;rintro e w' ⟨rfl,rfl⟩
 go_wp2_with fail
 go_rounds 2
 rw[aNd];simp only[Result.andThen];rw[Oper.upon_value]
 go_wp2
 go_ret2
 refine⟨?_,(Below.refl _ _).alloc (aVp _) _⟩;have h:=a1D ⟨m,hm⟩;obtain⟨h1,h2⟩:=aVz.1 h;have k:=a1D ⟨q,hq⟩;obtain⟨k1,k2⟩:=aVz.1 k;rw[HM.out,HQ.out,<-h2,<-k2];rfl
def xG (c _b:Int):pG:=if c<16 then[LK c.toNat] else[LK (c.toNat/16),LK (c.toNat%16)]
theorem fb {w:pU}(hc:w.cell? ⟨5,15,none⟩=some (.int .u8 4)) (u:Nat) (hu2:u<256):
  Calls Tryz.prog 285 #[.slice none 0 0,.int .u64 u,.int .i64 16,.bool false,.bool false] w fun e w'=>e= .returned (.tuple #[.slice none 0 0,.string ⟨(xG u 16).toArray⟩])/\Below w.heap.size w w':=by
 unfold xG;by_cases h:(u:Int)<16
 .rw[aU8 h];exact aNc hc u pJ
 .rw[aVa h];exact aNf hc u pJ hu2
theorem aNg {w:pU}(hc:w.cell? ⟨5,15,none⟩=some (.int .u8 4)) (u:Nat) (hu2:u<256):
  Calls Tryz.prog 272 #[.int .i64 u,.int .i64 16] w fun e w'=>e= .returned (.string ⟨(xG u 16).toArray⟩)/\Below w.heap.size w w':=by
 obtain⟨s,hs⟩: ∃s,xG u 16=s:=⟨_,rfl⟩;have hfb:=fb hc u hu2;rw[hs] at hfb|-;clear hs;have hk:IntKind.u64.wrap (u:Int)=u:=by rw[IntKind.wrap_u64];omega
 have hn: ¬(u:Int)<0:=by omega
 go_enter Tryz.func272,Tryz.ntmps272
 go_wp2_with fail
 refine hfb.mono ?_;rintro e w' ⟨rfl,hb⟩
 go_wp2
 go_ret
 exact⟨rfl,hb⟩
theorem aDq {w:pU}(hc:w.cell? ⟨5,15,none⟩=some (.int .u8 4)) (u:Nat) (hu2:u<256):
  Calls Tryz.prog 245 #[.int .i64 u,.int .i64 16] w fun e w'=>e= .returned (.string ⟨(xG u 16).toArray⟩)/\Below w.heap.size w w':=by
 obtain⟨s,hs⟩: ∃s,xG u 16=s:=⟨_,rfl⟩;have hfb:=aNg hc u hu2;rw[hs] at hfb|-;clear hs
 go_enter Tryz.func245,Tryz.ntmps245
 go_wp2_with fail
 refine hfb.mono ?_;rintro e w' ⟨rfl,hb⟩
 go_wp2
 go_ret
 exact⟨rfl,hb⟩
#print axioms aDq
end Go.Proofs.YtbbpilohihldiaaGreatDoor
namespace Go.Proofs
open Go.RowKit Go.Lib
def Tryz.lays105_ren:Go.Shelf.Ren:=⟨fun|105=>246|212=>273|99=>136|165=>274|166=>53|170=>275|169=>54|263=>286|264=>287|206=>183|240=>93|241=>288|276=>133|277=>296|n=>n,fun|9=>9|3=>3|4=>4|20=>20|0=>0|46=>219|109=>266|5=>5|72=>84|76=>87|51=>241|146=>270|53=>243|148=>280|70=>82|37=>42|75=>86|127=>125|164=>168|80=>89|n=>n,fun|n=>n⟩
theorem Tryz.lays105:Go.Proofs.Lays.n105 Tryz.prog Tryz.lays105_ren:={
 mixed:=by kernel_rfl
 f99:=Tryz.func136.trans (aVL some pX)
 f105:=Tryz.func246.trans (aVL some pX)
 f165:=Tryz.func274.trans (aVL some pX)
 f166:=Tryz.func53.trans (aVL some pX)
 f169:=Tryz.func54.trans (aVL some pX)
 f170:=Tryz.func275.trans (aVL some pX)
 f206:=Tryz.func183.trans (aVL some pX)
 f212:=Tryz.func273.trans (aVL some pX)
 f240:=Tryz.func93.trans (aVL some pX)
 f241:=Tryz.func288.trans (aVL some pX)
 f263:=Tryz.func286.trans (aVL some pX)
 f264:=Tryz.func287.trans (aVL some pX)
 f276:=Tryz.func133.trans (aVL some pX)
 f277:=Tryz.func296.trans (aVL some pX)
 t0:=Tryz.underlying0
 a0:=Tryz.isAgg0
 z0:=Tryz.sizeOf0
 v0:=Tryz.zeroValue0
 t3:=Tryz.underlying3
 a3:=Tryz.isAgg3
 z3:=Tryz.sizeOf3
 v3:=Tryz.zeroValue3
 t4:=Tryz.underlying4
 a4:=Tryz.isAgg4
 z4:=Tryz.sizeOf4
 v4:=Tryz.zeroValue4
 t5:=Tryz.underlying5
 a5:=Tryz.isAgg5
 z5:=Tryz.sizeOf5
 v5:=Tryz.zeroValue5
 t9:=Tryz.underlying9
 a9:=Tryz.isAgg9
 z9:=Tryz.sizeOf9
 v9:=Tryz.zeroValue9
 t20:=Tryz.underlying20
 a20:=Tryz.isAgg20
 z20:=Tryz.sizeOf20
 v20:=Tryz.zeroValue20
 t37:=Tryz.underlying42
 a37:=Tryz.isAgg42
 z37:=Tryz.sizeOf42
 v37:=Tryz.zeroValue42
 t46:=Tryz.underlying219
 a46:=Tryz.isAgg219
 z46:=Tryz.sizeOf219
 v46:=Tryz.zeroValue219
 t51:=Tryz.underlying241
 a51:=Tryz.isAgg241
 z51:=Tryz.sizeOf241
 v51:=Tryz.zeroValue241
 t53:=Tryz.underlying243
 a53:=Tryz.isAgg243
 z53:=Tryz.sizeOf243
 v53:=Tryz.zeroValue243
 t70:=Tryz.underlying82
 a70:=Tryz.isAgg82
 z70:=Tryz.sizeOf82
 v70:=Tryz.zeroValue82
 t72:=Tryz.underlying84
 a72:=Tryz.isAgg84
 z72:=Tryz.sizeOf84
 v72:=Tryz.zeroValue84
 t75:=Tryz.underlying86
 a75:=Tryz.isAgg86
 z75:=Tryz.sizeOf86
 v75:=Tryz.zeroValue86
 t76:=Tryz.underlying87
 a76:=Tryz.isAgg87
 z76:=Tryz.sizeOf87
 v76:=Tryz.zeroValue87
 t109:=Tryz.underlying266
 a109:=Tryz.isAgg266
 z109:=Tryz.sizeOf266
 v109:=Tryz.zeroValue266
 t127:=Tryz.underlying125
 a127:=Tryz.isAgg125
 z127:=Tryz.sizeOf125
 v127:=Tryz.zeroValue125
 t146:=Tryz.underlying270
 a146:=Tryz.isAgg270
 z146:=Tryz.sizeOf270
 v146:=Tryz.zeroValue270
 t148:=Tryz.underlying280
 a148:=Tryz.isAgg280
 z148:=Tryz.sizeOf280
 v148:=Tryz.zeroValue280
 t164:=Tryz.underlying168
 a164:=Tryz.isAgg168
 z164:=Tryz.sizeOf168
 v164:=Tryz.zeroValue168}
theorem Tryz.Builder_Extra_105:Builder.Extra Tryz.prog Tryz.lays105_ren:={
 sizeBuilder:=by kernel_rfl
 liesBuilder:=by kernel_rfl
 t5:=Tryz.underlying5
 a5:=Tryz.isAgg5
 z5:=Tryz.sizeOf5
 v5:=Tryz.zeroValue5
 infoByte:=by kernel_rfl
 cellsByte:=by kernel_rfl
 sizeByte:=by kernel_rfl
 neB5:=by decide}
end Go.Proofs
namespace Go.Proofs.YtbbpilohihldiaaGreatDoor
open Vc Go.RowKit
def a1E (n:Int):Prop:=n=16
instance (n:Int):Decidable (a1E n):=inferInstanceAs (Decidable (n=16))
@[go_sem] def a1F:List qI->List qH->Option qQ
 |[(.val (.int .i64) O,none),(.val (.int .i64) Z,none)],[]=>some ⟨[0<=O/\O<256/\a1E Z],[(.val .str (xG O Z),none)],[]⟩
 |_,_=>none
theorem aNh:AX Tryz.prog 245 a1F:=by
 refine NV (fun _ _=>rfl) fun g w args vals L r hT ha hC hs=> ?_;unfold a1F at hC;split at hC
 .rename_i c d;cases hC;obtain⟨h1,h2,h3⟩:=hs _ aVw;obtain⟨va,_,rfl,ra,vb,_,rfl,rb,hv⟩:=ha;obtain rfl:=wC ra.1;obtain rfl:=wC rb.1;cases hv;obtain⟨u,rfl⟩: ∃u:Nat,c=((u:Nat):Int):=⟨Int.toNat c,(Int.toNat_of_nonneg h1).symm⟩;have h2:(u:Int)<256:=h2;obtain rfl:d=(16:Int):=h3;have hcell:w.cell? ⟨5,15,none⟩=some (.int .u8 4):=(hT.2.2.2 _ aVw).2;exact⟨rfl,rfl,(aDq hcell u pJ).mono fun e w' ⟨he,hb⟩=>⟨_,he,hb,HI _ _ _,trivial⟩⟩
 .cases hC
def LL (s:pG) (c:Int):pG:=Lib.repeatL s c.toNat
@[go_sem] def a1G:List qI->List qH->Option qQ
 |[(.val .str O,none),(.val (.int .i64) Z,none)],[]=>some ⟨[0<=Z/\Z<=140737488355328/\(List.length O:Int)*Z<=140737488355328],[(.val .str (LL O Z),none)],[]⟩
 |_,_=>none
theorem aNi:AX Tryz.prog 246 a1G:=by
 refine NV (fun _ _=>rfl) fun g w args vals L r hT ha hC hs=> ?_;unfold a1G at hC;split at hC
 .rename_i s c;cases hC;obtain⟨h1,h2,h3⟩:=hs _ aVw;obtain⟨va,_,rfl,ra,vb,_,rfl,rb,hv⟩:=ha;obtain rfl:=zK ra.1;obtain rfl:=wC rb.1;cases hv;obtain⟨u,rfl⟩: ∃u:Nat,c=((u:Nat):Int):=⟨Int.toNat c,(Int.toNat_of_nonneg h1).symm⟩;have h2:(u:Int)<=140737488355328:=h2;have h3:((List.length s:Nat):Int)*(u:Int)<=140737488355328:=h3;have h4:List.length s*u<=140737488355328:=by rw[<-Int.natCast_mul] at h3;exact Int.ofNat_le.1 h3
  have h:=Any.strings_Repeat Tryz.lays105 Tryz.Builder_Extra_105 ⟨List.toArray s⟩ u w pJ (by show (List.toArray s).size*u<=_;rw[aV3];exact h4);exact⟨rfl,rfl,h.mono fun e w' ⟨he,hb⟩=>⟨_,he,hb,HI _ _ _,trivial⟩⟩
 .cases hC
def WA (_c:Int):pG:=[]
@[go_sem] def a1H:List qI->List qH->Option qQ
 |[(.val (.int .u8) O,none)],[]=>some ⟨[False],[(.val .str (WA O),none)],[]⟩
 |_,_=>none
theorem aNj:AX Tryz.prog 165 a1H:=by
 refine NV (fun _ _=>rfl) fun g w args vals L r hT ha hC hs=> ?_;unfold a1H at hC;split at hC
 .cases hC;exact(hs _ aVw).elim
 .cases hC
end Go.Proofs.YtbbpilohihldiaaGreatDoor
namespace Go.Proofs.YtbbpilohihldiaaGreatDoor
open Vc
noncomputable section
@[go_sem] abbrev t7:Ty:=(.pair .str (.pair .str (.pair .str (.pair (.list .str) (.pair (.list .str) (.pair (.int .i64) (.pair (.list (.pair .str (.pair .str .unit))) .unit)))))))
@[go_sem] abbrev F9:Ty:=(.pair .str (.pair (.list .str) (.pair (.list (.pair .str (.pair .str .unit))) (.pair (.list t7) .unit))))
@[go_sem] abbrev CK:Ty:=(.pair .str (.pair (.list .str) (.pair .str .unit)))
@[go_sem] abbrev y7:Ty:=(.pair .mref (.pair (.list (.int .u8)) .unit))
@[go_sem] abbrev FA:Ty:=(.pair .str (.pair (.int .i64) .unit))
@[go_sem] abbrev NY:Ty:=(.pair (.int .i64) (.pair .str (.pair (.int .i64) (.pair (.int .i64) .unit))))
@[go_sem] abbrev sJ:Ty:=(.pair FA (.pair NY (.pair (.int .i64) (.pair (.int .i64) (.pair F9 (.pair .mp (.pair (.list (.int .i64)) (.pair (.int .i64) .unit))))))))
@[go_sem] abbrev yT8:Ty:=(.pair .str (.pair .str (.pair .str (.pair (.list .str) (.pair (.rl 9 .str) (.pair (.int .i64) (.pair (.list (.pair .str (.pair .str .unit))) .unit)))))))
@[go_sem] abbrev u7:Ty:=(.pair yT8 (.pair .bool (.pair .mp .unit)))
@[go_sem] abbrev aDs:Ty:=(.pair t7 (.pair .bool (.pair .mp .unit)))
abbrev r5:Type:=(pG×(pG×Unit))
abbrev rZ:Type:=(pG×(pG×(pG×(pH×(pH×(Int×((List r5)×Unit)))))))
abbrev JC:Type:=(pG×(pH×(pG×Unit)))
abbrev sP:Type:=(Int×(pG×(Int×(Int×Unit))))
abbrev sC:Type:=(pG×(pH×((List r5)×((List rZ)×Unit))))
abbrev HT:Type:=(pG×(Int×(Int×(Int×(sC×(pP×Unit))))))
@[go_sem] abbrev sM:Nat×TI:=(9,⟨.str,0,0,false,[]⟩)
theorem sO:tU Tryz.prog sM.1 sM.2:=⟨pX,(show Tryz.prog.underlying _=_ from by kernel_rfl)⟩
@[go_sem] abbrev wH:Nat×TI:=(23,⟨(.list .str),9,16,false,[]⟩)
theorem wX:tU Tryz.prog wH.1 wH.2:=⟨pX,(show _/\_/\_ from⟨pX,pX,pX⟩)⟩
@[go_sem] abbrev JD:Nat×TI:=(34,⟨CK,0,0,false,[(1,9,1)]⟩)
theorem NZ:tU Tryz.prog JD.1 JD.2:=⟨pX,(show ((_/\∃_,_/\_)\/_)/\_ from⟨.inl ⟨rfl,_,Tryz.underlying34,(show _/\_/\_/\_ from⟨rfl,pX,pX,(show _/\_/\_/\_ from⟨rfl,pX,pX,(show _/\_/\_/\_ from⟨rfl,pX,pX,trivial⟩)⟩)⟩)⟩,(fun h=>absurd h pK)⟩)⟩
@[go_sem] abbrev HU:Nat×TI:=(25,⟨(.list t7),55,128,false,[]⟩)
theorem LM:tU Tryz.prog HU.1 HU.2:=⟨pX,(show _/\_/\_ from⟨pX,pX,pX⟩)⟩
@[go_sem] abbrev DC:Nat×TI:=(27,⟨F9,0,0,false,[(1,9,1),(2,149,2),(3,55,7)]⟩)
theorem FB:tU Tryz.prog DC.1 DC.2:=⟨pX,(show ((_/\∃_,_/\_)\/_)/\_ from⟨.inl ⟨rfl,_,Tryz.underlying27,(show _/\_/\_/\_ from⟨rfl,pX,pX,(show _/\_/\_/\_ from⟨rfl,pX,pX,(show _/\_/\_/\_ from⟨rfl,pX,pX,(show _/\_/\_/\_ from⟨rfl,pX,pX,trivial⟩)⟩)⟩)⟩)⟩,(fun h=>absurd h pK)⟩)⟩
@[go_sem] abbrev B3:Nat×TI:=(55,⟨t7,0,0,false,[(3,9,1),(4,9,1),(6,149,2)]⟩)
theorem CL:tU Tryz.prog B3.1 B3.2:=⟨pX,(show ((_/\∃_,_/\_)\/_)/\_ from⟨.inl ⟨rfl,_,Tryz.underlying55,(show _/\_/\_/\_ from⟨rfl,pX,pX,(show _/\_/\_/\_ from⟨rfl,pX,pX,(show _/\_/\_/\_ from⟨rfl,pX,pX,(show _/\_/\_/\_ from⟨rfl,pX,pX,(show _/\_/\_/\_ from⟨rfl,pX,pX,(show _/\_/\_/\_ from⟨rfl,pX,pX,(show _/\_/\_/\_ from⟨rfl,pX,pX,trivial⟩)⟩)⟩)⟩)⟩)⟩)⟩)⟩,(fun h=>absurd h pK)⟩)⟩
@[go_sem] abbrev GD:Nat×TI:=(42,⟨(.list (.int .u8)),5,1,false,[]⟩)
theorem JE:tU Tryz.prog GD.1 GD.2:=⟨pX,(show _/\_/\_ from⟨pX,pX,pX⟩)⟩
@[go_sem] abbrev HV:Nat×TI:=(84,⟨y7,0,0,false,[(1,5,1)]⟩)
theorem LN:tU Tryz.prog HV.1 HV.2:=⟨pX,(show ((_/\∃_,_/\_)\/_)/\_ from⟨.inl ⟨rfl,_,Tryz.underlying84,(show _/\_/\_/\_ from⟨rfl,pX,pX,(show _/\_/\_/\_ from⟨rfl,pX,pX,trivial⟩)⟩)⟩,(fun h=>absurd h pK)⟩)⟩
@[go_sem] abbrev y8:Nat×TI:=(24,⟨(.list (.pair .str (.pair .str .unit))),149,32,false,[]⟩)
theorem yX:tU Tryz.prog y8.1 y8.2:=⟨pX,(show _/\_/\_ from⟨pX,pX,pX⟩)⟩
@[go_sem] abbrev DD:Nat×TI:=(149,⟨(.pair .str (.pair .str .unit)),0,1,false,[]⟩)
theorem FC:tU Tryz.prog DD.1 DD.2:=⟨pX,(show ((_/\∃_,_/\_)\/_)/\_ from⟨.inl ⟨rfl,_,Tryz.underlying149,(show _/\_/\_/\_ from⟨rfl,pX,pX,(show _/\_/\_/\_ from⟨rfl,pX,pX,trivial⟩)⟩)⟩,(fun _=>⟨pX,1,pK,(.struct rfl Tryz.underlying149 pX (.cons pK rfl pX pX (.str Tryz.underlying9) (.cons pK rfl pX pX (.str Tryz.underlying9) .nil)))⟩)⟩)⟩
@[go_sem] abbrev vP:Nat×TI:=(3,⟨(.int .i64),0,0,false,[]⟩)
theorem w8:tU Tryz.prog vP.1 vP.2:=⟨pX,(show Tryz.prog.underlying _=_ from by kernel_rfl)⟩
@[go_sem] abbrev GE:Nat×TI:=(4,⟨.bool,0,0,false,[]⟩)
theorem JF:tU Tryz.prog GE.1 GE.2:=⟨pX,(show Tryz.prog.underlying _=_ from by kernel_rfl)⟩
@[go_sem] abbrev JG:Nat×TI:=(66,⟨.mp,9,4,false,[]⟩)
theorem O0:tU Tryz.prog JG.1 JG.2:=⟨pX,(show Tryz.prog.underlying _=_ from by kernel_rfl)⟩
@[go_sem] abbrev EB:Nat×TI:=(5,⟨(.int .u8),0,0,false,[]⟩)
theorem GF:tU Tryz.prog EB.1 EB.2:=⟨pX,(show Tryz.prog.underlying _=_ from by kernel_rfl)⟩
@[go_sem] abbrev O1:Nat×TI:=(21,⟨(.int .i32),0,0,false,[]⟩)
theorem WB:tU Tryz.prog O1.1 O1.2:=⟨pX,(show Tryz.prog.underlying _=_ from by kernel_rfl)⟩
@[go_sem] abbrev WC:Nat×TI:=(60,⟨.ref,0,0,false,[]⟩)
theorem aDt:tU Tryz.prog WC.1 WC.2:=⟨pX,(show∃_,_ from⟨_,Tryz.underlying60⟩)⟩
@[go_sem] abbrev yY:Nat×TI:=(69,⟨sJ,0,0,false,[(9,9,1),(10,149,2),(11,55,7),(13,3,1)]⟩)
theorem AC:tU Tryz.prog yY.1 yY.2:=⟨pX,(show ((_/\∃_,_/\_)\/_)/\_ from⟨.inl ⟨rfl,_,Tryz.underlying69,(show _/\_/\_/\_ from⟨rfl,pX,pX,(show _/\_/\_/\_ from⟨rfl,pX,pX,(show _/\_/\_/\_ from⟨rfl,pX,pX,(show _/\_/\_/\_ from⟨rfl,pX,pX,(show _/\_/\_/\_ from⟨rfl,pX,pX,(show _/\_/\_/\_ from⟨rfl,pX,pX,(show _/\_/\_/\_ from⟨rfl,pX,pX,(show _/\_/\_/\_ from⟨rfl,pX,pX,trivial⟩)⟩)⟩)⟩)⟩)⟩)⟩)⟩)⟩,(fun h=>absurd h pK)⟩)⟩
@[go_sem] abbrev HW:Nat×TI:=(28,⟨(.int .i64),0,0,false,[]⟩)
theorem LO:tU Tryz.prog HW.1 HW.2:=⟨pX,(show Tryz.prog.underlying _=_ from by kernel_rfl)⟩
@[go_sem] abbrev WD:Nat×TI:=(24,⟨(.list (.pair .str (.pair .str .unit))),149,32,true,[]⟩)
theorem aDu:tU Tryz.prog WD.1 WD.2:=⟨pX,(show _/\_/\_ from⟨pX,pX,pX⟩)⟩
@[go_sem] abbrev B4:Nat×TI:=(65,⟨NY,0,1,false,[]⟩)
theorem CM:tU Tryz.prog B4.1 B4.2:=⟨pX,(show ((_/\∃_,_/\_)\/_)/\_ from⟨.inl ⟨rfl,_,Tryz.underlying65,(show _/\_/\_/\_ from⟨rfl,pX,pX,(show _/\_/\_/\_ from⟨rfl,pX,pX,(show _/\_/\_/\_ from⟨rfl,pX,pX,(show _/\_/\_/\_ from⟨rfl,pX,pX,trivial⟩)⟩)⟩)⟩)⟩,(fun _=>⟨pX,1,pK,(.struct rfl Tryz.underlying65 pX (.cons pK rfl pX pX (.int Tryz.underlying3) (.cons pK rfl pX pX (.str Tryz.underlying9) (.cons pK rfl pX pX (.int Tryz.underlying3) (.cons pK rfl pX pX (.int Tryz.underlying3) .nil)))))⟩)⟩)⟩
@[go_sem] abbrev DE:Nat×TI:=(204,⟨u7,0,0,false,[(3,9,1),(6,149,2)]⟩)
theorem FD:tU Tryz.prog DE.1 DE.2:=⟨pX,(show ((_/\∃_,_/\_)\/_)/\_ from⟨.inl ⟨rfl,_,Tryz.underlying204,(show _/\_/\_/\_ from⟨rfl,pX,pX,(show _/\_/\_/\_ from⟨rfl,pX,pX,(show _/\_/\_/\_ from⟨rfl,pX,pX,trivial⟩)⟩)⟩)⟩,(fun h=>absurd h pK)⟩)⟩
@[go_sem] abbrev WE:Nat×TI:=(205,⟨.fn,0,0,false,[]⟩)
theorem aDv:tU Tryz.prog WE.1 WE.2:=⟨pX,(show∃_ _ _,_ from⟨_,_,_,Tryz.underlying205⟩)⟩
@[go_sem] abbrev WF:Nat×TI:=(207,⟨.mp,9,205,false,[]⟩)
theorem aDw:tU Tryz.prog WF.1 WF.2:=⟨pX,(show Tryz.prog.underlying _=_ from by kernel_rfl)⟩
@[go_sem] abbrev a1I:Nat×TI:=(2,⟨(.int .i64),0,0,false,[]⟩)
theorem aNk:tU Tryz.prog a1I.1 a1I.2:=⟨pX,(show Tryz.prog.underlying _=_ from by kernel_rfl)⟩
@[go_sem] abbrev WG:Nat×TI:=(241,⟨(.int .u32),0,0,false,[]⟩)
theorem aDx:tU Tryz.prog WG.1 WG.2:=⟨pX,(show Tryz.prog.underlying _=_ from by kernel_rfl)⟩
@[go_sem] abbrev WH:Nat×TI:=(23,⟨(.list .str),9,16,true,[]⟩)
theorem aDy:tU Tryz.prog WH.1 WH.2:=⟨pX,(show _/\_/\_ from⟨pX,pX,pX⟩)⟩
@[go_sem] abbrev JH:Nat×TI:=(67,⟨(.list (.int .i64)),3,8,false,[]⟩)
theorem O2:tU Tryz.prog JH.1 JH.2:=⟨pX,(show _/\_/\_ from⟨pX,pX,pX⟩)⟩
@[go_sem] abbrev EC:Nat×TI:=(55,⟨yT8,0,0,false,[(3,9,1),(6,149,2)]⟩)
theorem GG:tU Tryz.prog EC.1 EC.2:=⟨pX,(show ((_/\∃_,_/\_)\/_)/\_ from⟨.inl ⟨rfl,_,Tryz.underlying55,(show _/\_/\_/\_ from⟨rfl,pX,pX,(show _/\_/\_/\_ from⟨rfl,pX,pX,(show _/\_/\_/\_ from⟨rfl,pX,pX,(show _/\_/\_/\_ from⟨rfl,pX,pX,(show _/\_/\_/\_ from⟨rfl,pX,pX,(show _/\_/\_/\_ from⟨rfl,pX,pX,(show _/\_/\_/\_ from⟨rfl,pX,pX,trivial⟩)⟩)⟩)⟩)⟩)⟩)⟩)⟩,(fun h=>absurd h pK)⟩)⟩
@[go_sem] abbrev O3:Nat×TI:=(202,⟨.ref,0,0,false,[]⟩)
theorem WI:tU Tryz.prog O3.1 O3.2:=⟨pX,(show∃_,_ from⟨_,Tryz.underlying202⟩)⟩
@[go_sem] abbrev RG:Nat×TI:=(63,⟨FA,0,1,false,[]⟩)
theorem a1J:tU Tryz.prog RG.1 RG.2:=⟨pX,(show ((_/\∃_,_/\_)\/_)/\_ from⟨.inl ⟨rfl,_,Tryz.underlying63,(show _/\_/\_/\_ from⟨rfl,pX,pX,(show _/\_/\_/\_ from⟨rfl,pX,pX,trivial⟩)⟩)⟩,(fun _=>⟨pX,1,pK,(.struct rfl Tryz.underlying63 pX (.cons pK rfl pX pX (.str Tryz.underlying9) (.cons pK rfl pX pX (.int Tryz.underlying3) .nil)))⟩)⟩)⟩
@[go_sem] abbrev a1K:Nat×TI:=(204,⟨aDs,0,0,false,[(3,9,1),(4,9,1),(6,149,2)]⟩)
theorem aNl:tU Tryz.prog a1K.1 a1K.2:=⟨pX,(show ((_/\∃_,_/\_)\/_)/\_ from⟨.inl ⟨rfl,_,Tryz.underlying204,(show _/\_/\_/\_ from⟨rfl,pX,pX,(show _/\_/\_/\_ from⟨rfl,pX,pX,(show _/\_/\_/\_ from⟨rfl,pX,pX,trivial⟩)⟩)⟩)⟩,(fun h=>absurd h pK)⟩)⟩
@[go_sem] abbrev WJ:Nat×TI:=(25,⟨(.list t7),55,128,true,[]⟩)
theorem aDz:tU Tryz.prog WJ.1 WJ.2:=⟨pX,(show _/\_/\_ from⟨pX,pX,pX⟩)⟩
theorem rM:Tryz.prog.follows .mixedOrders=true:=by kernel_rfl
@[go_sem] abbrev O4:Nat×rI:=(135,⟨[.v,.v],a1u,[],[],none⟩)
theorem RH:rP Tryz.prog O4:=⟨aMy,fun _ h=>by cases h⟩
@[go_sem] abbrev aDA:Nat×rI:=(243,⟨[.v],a1v,[],[],none⟩)
theorem aNm:rP Tryz.prog aDA:=⟨aMz,fun _ h=>by cases h⟩
@[go_sem] abbrev aDB:Nat×rI:=(173,⟨[.v,.v],a1w,[],[],none⟩)
theorem aNn:rP Tryz.prog aDB:=⟨aMC,fun _ h=>by cases h⟩
@[go_sem] abbrev WK:Nat×rI:=(93,⟨[.p y7 [1]],a1x,[],[],none⟩)
theorem a1L:rP Tryz.prog WK:=⟨aMF,fun _ h=>by cases h⟩
@[go_sem] abbrev RI:Nat×rI:=(54,⟨[.p y7 [1]],a1z,[],[],none⟩)
theorem WL:rP Tryz.prog RI:=⟨aMN,fun _ h=>by cases h⟩
@[go_sem] abbrev aDC:Nat×rI:=(240,⟨[.r,.v,.v],a1B,[],[],none⟩)
theorem aNo:rP Tryz.prog aDC:=⟨aMW,fun _ h=>by cases h⟩
@[go_sem] abbrev aDD:Nat×rI:=(245,⟨[.v,.v],a1F,[],[],none⟩)
theorem aNp:rP Tryz.prog aDD:=⟨aNh,fun _ h=>by cases h⟩
@[go_sem] abbrev aDE:Nat×rI:=(246,⟨[.v,.v],a1G,[],[],none⟩)
theorem aNq:rP Tryz.prog aDE:=⟨aNi,fun _ h=>by cases h⟩
@[go_sem] abbrev aDF:Nat×rI:=(165,⟨[.v],a1H,[],[],none⟩)
theorem aNr:rP Tryz.prog aDF:=⟨aNj,fun _ h=>by cases h⟩
@[go_sem] abbrev a1M:Nat×rI:=(147,⟨[.v],noC,[],[],some aC8⟩)
theorem aNs:rP Tryz.prog a1M:=aMB
end
def yZ {σ ρ:Type}(f:σ->Option (σ⊕ρ)) (x:σ):rE f x=(f x).bind fun w=>match w with
  | .inl y=>rE f y
  | .inr r=>some r:=by
 cases h:f x with
 |none=>
  cases h2:rE f x with
  |none=>rfl
  |some r=>
   obtain⟨n,hn⟩:=W6 h2;cases n with
   |zero=>cases hn
   |succ n=>unfold iter at hn;rw[h] at hn;cases hn
 |some w=>
  cases w with
  |inl y=>exact HR h
  |inr r=>exact wW h
def z6 {t:Ty}{l:List t.den}{i:Nat}(h:i<l.length):rC t l (i:Int)=l[i]:=by
 unfold rC;rw[aVN,aVy,aVj h];rfl
def zL {l:pG}{i:Nat}(h:i<l.length):r7 l (i:Int)=(l[i].toNat:Int):=by
 unfold r7;rw[aVN,aVy,aVj h];rfl
def vG {β:Type}(f:Nat->β) (b:β):pS->β
 |some k=>f k
 |none=>b
def a1N {α ρ:Type}{f:Int->Option (Int⊕(Unit⊕ρ))}{l:List α}(p:α->Bool) (g:Nat->ρ)
  (hf: ∀(i:Nat) (h:i<l.length),f i=if p l[i]=true then some (.inr (.inr (g i))) else some (.inl (i+1)))
  (he:f l.length=some (.inr (.inl ()))): ∀(n j:Nat),j+n=l.length->rE f j=some (vG (fun k=> .inr (g (j+k))) (.inl ()) ((l.drop j).findIdx? p))
 |0,j,hj=>by
  have:j=l.length:=by omega
  subst this;rw[aVR,yZ,he];rfl
 |n+1,j,hj=>by
  have hlt:j<l.length:=by omega
  rw[yZ,hf j hlt,aVA hlt,aWd];by_cases hp:p l[j]=true
  .rw[aU8 hp,aU8 hp];rfl
  .rw[aVa hp,aVa hp];show rE f ((j:Int)+1)=_;have:=a1N p g hf he n (j+1) pJ;rw[show ((j:Int)+1)=((j+1:Nat):Int) by omega,this];cases(l.drop (j+1)).findIdx? p with
   |none=>rfl
   |some k=>
    show some (Sum.inr (g (j+1+k)))=some (Sum.inr (g (j+(k+1))));rw[show j+1+k=j+(k+1) by omega]
def CN {α ρ:Type}{f:Int->Option (Int⊕(Unit⊕ρ))}{l:List α}(p:α->Bool) (g:Nat->ρ)
  (hf: ∀(i:Nat) (h:i<l.length),f i=if p l[i]=true then some (.inr (.inr (g i))) else some (.inl (i+1)))
  (he:f l.length=some (.inr (.inl ()))):rE f 0=some (vG (fun k=> .inr (g k)) (.inl ()) (l.findIdx? p)):=by
 have:=a1N p g hf he l.length 0 pJ;simpa using this
def aDG {s:pG}{i:Nat}(h:i<s.length) (ha:s[i].toNat<128):vE s i=(s[i].toNat:Int)/\AQ s i=i+1:=by
 have h1:=Lib.decodeL_drop ⟨s.toArray⟩ i;have h2:(⟨s.toArray⟩:ByteArray).data.toList.drop i=s[i]::s.drop (i+1):=by
  show s.drop i=_;rw[aVA h]
 rw[h2,Lib.decodeL_ascii _ _ ha] at h1;unfold vE AQ a0g;rw[<-h1,aU8 h];exact⟨rfl,rfl⟩
def aNt {n b0 b1 b2 b3:Nat}(h:128<=b0):128<=(Lib.decodeN n b0 b1 b2 b3).1:=by
 unfold Lib.decodeN
 repeat' split
 all_goals first|omega|(dsimp only;omega)
def aDH {s:pG}{i:Nat}(h:i<s.length) (ha:128<=s[i].toNat):128<=vE s i:=by
 unfold vE;rw[Lib.decode_at];have:(⟨s.toArray⟩:ByteArray).get! i=s[i]:=by
  show s.toArray[i]! =_;simp [h]
 rw[this];exact Int.ofNat_le.2 (aNt ha)
def aDI {ρ:Type}{f:Nat->Option (Nat⊕(Unit⊕ρ))}{s:pG}(p:Int->Bool) (g:Nat->ρ) (hb: ∀c,128<=c->p c=true)
  (hf: ∀(i:Nat) (h:i<s.length),f i=if p (vE s i)=true then some (.inr (.inr (g i))) else some (.inl (AQ s i)))
  (he:f s.length=some (.inr (.inl ()))): ∀(n j:Nat),j+n=s.length->rE f j=some (vG (fun k=> .inr (g (j+k))) (.inl ()) ((s.drop j).findIdx? (fun b=>p b.toNat)))
 |0,j,hj=>by
  have:j=s.length:=by omega
  subst this;rw[aVR,yZ,he];rfl
 |n+1,j,hj=>by
  have hlt:j<s.length:=by omega
  rw[yZ,hf j hlt,aVA hlt,aWd];by_cases ha:s[j].toNat<128
  .obtain⟨e1,e2⟩:=aDG hlt ha;rw[e1,e2];by_cases hp:p (s[j].toNat:Int)=true
   .rw[aU8 hp,aU8 hp];rfl
   .rw[aVa hp,aVa hp];show rE f (j+1)=_;rw[aDI p g hb hf he n (j+1) pJ];cases(s.drop (j+1)).findIdx? (fun b=>p b.toNat) with
    |none=>rfl
    |some k=>
     show some (Sum.inr (g (j+1+k)))=some (Sum.inr (g (j+(k+1))));rw[show j+1+k=j+(k+1) by omega]
  .rw[aU8 (hb _ (aDH hlt pJ)),aU8 (hb _ pJ)];rfl
def aDJ {ρ:Type}{f:Nat->Option (Nat⊕(Unit⊕ρ))}{s:pG}(p:Int->Bool) (g:Nat->ρ) (hb: ∀c,128<=c->p c=true)
  (hf: ∀(i:Nat) (h:i<s.length),f i=if p (vE s i)=true then some (.inr (.inr (g i))) else some (.inl (AQ s i)))
  (he:f s.length=some (.inr (.inl ()))):rE f 0=some (vG (fun k=> .inr (g k)) (.inl ()) (s.findIdx? (fun b=>p b.toNat))):=by
 have:=aDI p g hb hf he s.length 0 pJ;simpa using this
def r8 {α:Type}(l:List α):Prop:=l.length<=4000000000
noncomputable section
def RJ (O:sC) (Z:pG):Int→Option (Int⊕(Unit⊕(Int×Bool))):=fun aA=>if (decide (aA<(O.2.2.2.1.length:Int)))=true then if 0≤aA∧aA<(O.2.2.2.1.length:Int) then if (decide ((rC t7 O.2.2.2.1 aA).1=Z))=true then some (.inr (.inr ((aA,true)))) else if qJ (aA+(1:Int)) then some (.inl (aA+(1:Int))) else none else none else some (.inr (.inl ()))
def HX (O:sC) (Z:pG):Option (Int×Bool):=sZ (rE (RJ O Z) (0:Int)) fun _=>some (((0:Int),false))
section
variable (O:sC) (Z:pG)
abbrev a1O:List qI:=[(.val F9 O,none),(.val .str Z,none)]
abbrev a1P:List qH:=[]
@[go_sem] def a1Q:qQ:=⟨[((HX O Z)).isSome=true],[(.val (.int .i64) ((val (HX O Z)).1),none),(.val .bool ((val (HX O Z)).2),none)],[]⟩
def aDK:List qI→List qH→Option qQ:=rT (V:=(sC×pG)) (fun x=>a1O x.1 x.2) (fun x=>a1P) fun x=>a1Q x.1 x.2
@[go_sem] def aTf:aDK (no_index (a1O O Z)) (no_index a1P)=some (a1Q O Z):=rV (fun⟨a0,a1⟩ ⟨b0,b1⟩ h1 h2=>by cases h1;cases h2;rfl) (O,Z)
end
@[go_sem] abbrev a1R:Nat×rI:=(37,⟨[.v,.v],aDK,[],[],none⟩)
def JI:rL Tryz.prog [sM,HU,DC,B3] (rK []):=⟨⟨sO,⟨LM,⟨FB,⟨CL,trivial⟩⟩⟩⟩,rX,rM⟩
def aNu:rP Tryz.prog a1R:=by
 refine rW JI Tryz.func37 (c:=_) rfl (N:=23) pX (ts:=[(4,none),(5,none)]) rfl (fun _ _=>rfl) ?_;intro⟨O,Z⟩ hs hrow;dsimp only[a1O,a1P,a1Q,rQ,qW,rF,rO,rS,Nat.reduceAdd] at hs hrow|-;have hz:=hs;obtain⟨z0,e⟩:=aVb.1 hz
 try rw[s9 e]
 clear hz hs;unfold HX at e;refine qG JI ?_;refine qZ ?_;refine qG JI ?_;refine sA ?_;obtain⟨y1,hy1,e⟩:=wG e;refine uS 0 (fun s=> ∃v,y1= .inl v∧s=(fun _=>⟨[],[],0,23,0⟩) v) ?_ ?_
 .refine uR hy1 (fun x=>⟨[(1,(.val .str Z,none)),(2,(.val .ref (some (0,0)),none)),(6,(.val (.int .i64) x,none))],[(0,.cells F9 O [])],1,23,0⟩) ⟨[1,2,6],[(0,0)]⟩ pY ?_;intro aA w1 n1 d f;unfold RJ at d;dsimp only at d|-;refine qZ ?_;refine qG JI ?_;refine qY d (fun d hc1=> ?_) (fun d hc1=> ?_)
  .refine rJ (qS (qZ (sA ?_)));obtain⟨hg1,d⟩:=qP d;refine qG JI ?_ (hp:=by exact hg1);refine qY d (fun d hc2=> ?_) (fun d hc2=> ?_)
   .refine qG JI ?_;refine qR (sF (s0 (wF (wE (sF (s0 ?_))))));cases d;cases f;dsimp only at e;cases e;exact pI []
   .refine rJ (s5 (qS ?_));obtain⟨hg2,d⟩:=qP d;refine rY JI ?_ (hp:=by exact hg2);cases d;exact tI ⟨⟨[1,2,6],[(0,0)]⟩,_,by rfl,f⟩
  .refine uF (uK (uH ?_));cases d;cases f;exact uG ⟨⟨[],[]⟩,_,rfl,by rfl⟩
 .rintro _ ⟨v,rfl,rfl⟩;dsimp only at e|-;refine uQ (qS ?_);refine qG JI ?_;refine qR ?_;cases e;exact pI []
def aDL (O:JC):Unit:=()
section
variable (O:JC)
abbrev a1S:List qI:=[(.val CK O,none)]
abbrev a1T:List qH:=[]
@[go_sem] def a1U:qQ:=⟨[],[(.val .clo (some (92,[(0,0)])),none)],[.cells CK O []]⟩
def aDM:List qI→List qH→Option qQ:=rT (V:=JC) (a1S) (fun x=>a1T) fun x=>a1U x
@[go_sem] def aTg:aDM (no_index (a1S O)) (no_index a1T)=some (a1U O):=rV (fun a0 b0 h1 h2=>by cases h1;cases h2;rfl) O
end
@[go_sem] abbrev aDN:Nat×rI:=(50,⟨[.v],aDM,[],[],none⟩)
def a1V:rL Tryz.prog [JD] (rK []):=⟨⟨NZ,trivial⟩,rX,rM⟩
def aNv:rP Tryz.prog aDN:=by
 refine rW a1V Tryz.func50 (c:=_) rfl (N:=4) pX (ts:=[(2,none)]) rfl (fun _ _=>rfl) ?_;intro O hs hrow;dsimp only[a1S,a1T,a1U,rQ,qW,rF,rO,rS,Nat.reduceAdd] at hs hrow|-;obtain⟨z0,e⟩: ∃z,(aDL O)=z:=⟨_,rfl⟩
 try rw[e]
 unfold aDL at e;refine qG a1V ?_;refine qG a1V ?_;refine qR ?_;cases e;exact pI [(0,0)]
def ED (O:(pP×Unit)) (Z:pG):Option Unit:=if List.length O.1+Z.length≤140737488355328 then some (()) else none
section
variable (O:pG) (Z:(pP×Unit)) (aA:Nat)
abbrev a1W:List qI:=[(.val .ref (some (0,0)),none),(.val .str O,none)]
abbrev a1X:List qH:=[.cells y7 ((some (0,0)),Z) [(1,1)],.grow 5 1 aA]
@[go_sem] def a1Y:qQ:=⟨[aA=(Z.1.length),((ED Z O)).isSome=true],[(.val (.int .i64) (O.length:Int),none),(.any,none)],[.cells y7 ((some (0,0)),((Z.1++tV O),())) [(1,1)],.grow 5 1 ((Z.1++tV O).length)]⟩
def aDO:List qI→List qH→Option qQ:=rT (V:=(pG×(pP×Unit)×Nat)) (fun x=>a1W x.1) (fun x=>a1X x.2.1 x.2.2) fun x=>a1Y x.1 x.2.1 x.2.2
@[go_sem] def aTh:aDO (no_index (a1W O)) (no_index (a1X Z aA))=some (a1Y O Z aA):=rV (fun⟨a0,a1,a2⟩ ⟨b0,b1,b2⟩ h1 h2=>by cases h1;cases h2;rfl) (O,Z,aA)
end
@[go_sem] abbrev WM:Nat×rI:=(53,⟨[.p y7 [1],.v],aDO,[],[],none⟩)
def RK:rL Tryz.prog [sM,GD,HV] (rK [WK]):=⟨⟨sO,⟨JE,⟨LN,trivial⟩⟩⟩,qU a1L rX,rM⟩
def a1Z:rP Tryz.prog WM:=by
 refine rW RK Tryz.func53 (c:=_) rfl (N:=19) pX (ts:=[(4,none),(5,none)]) rfl (fun _ _=>rfl) ?_;intro⟨O,Z,aA⟩ hs hrow;dsimp only[a1W,a1X,a1Y,rQ,qW,rF,rO,rS,Nat.reduceAdd] at hs hrow|-;obtain⟨rfl,hz⟩:=hs;obtain⟨z0,e⟩:=aVb.1 hz
 try rw[s9 e]
 clear hz;unfold ED at e;refine qG RK ?_;refine qG RK ?_ (hp:=by first|rfl|trivial)
 obtain⟨hg1,e⟩:=qP e;refine qG RK ?_ (hp:=by exact⟨pW,hg1⟩)
 refine qG RK ?_;refine qR ?_;cases e;exact pI [(0,0),(1,1)]
def JJ (O:pH):(Int×Int)→Option ((Int×Int)⊕Int):=fun(Z,aA)=>if ((decide (aA<(O.length:Int)))&&(decide (Z<(1099511627776:Int))))=true then if 0≤aA∧aA<(O.length:Int) then if qJ (Z+((rC .str O aA).length:Int)) then if qJ (aA+(1:Int)) then some (.inl ((Z+((rC .str O aA).length:Int)),(aA+(1:Int)))) else none else none else none else some (.inr Z)
def JK (O:(List r5)):(Int×Int)→Option ((Int×Int)⊕Int):=fun(Z,aA)=>if ((decide (aA<(O.length:Int)))&&(decide (Z<(1099511627776:Int))))=true then if 0≤aA∧aA<(O.length:Int) then if qJ (Z+(((rC (.pair .str (.pair .str .unit)) O aA).1).length:Int)) then if 0≤aA∧aA<(O.length:Int) then if qJ ((Z+(((rC (.pair .str (.pair .str .unit)) O aA).1).length:Int))+(((rC (.pair .str (.pair .str .unit)) O aA).2.1).length:Int)) then if qJ (aA+(1:Int)) then some (.inl (((Z+(((rC (.pair .str (.pair .str .unit)) O aA).1).length:Int))+(((rC (.pair .str (.pair .str .unit)) O aA).2.1).length:Int)),(aA+(1:Int)))) else none else none else none else none else none else some (.inr Z)
def zM (O:pH) (Z:(List r5)):Option Int:=if qJ ((O.length:Int)+(Z.length:Int)) then sB (rE (JJ O) (((O.length:Int)+(Z.length:Int)),(0:Int))) fun aA=>sB (rE (JK Z) (aA,(0:Int))) fun aB=>some (aB) else none
section
variable (O:pH) (Z:(List r5))
abbrev a2a:List qI:=[(.val (.list .str) O,none),(.val (.list (.pair .str (.pair .str .unit))) Z,none)]
abbrev a2b:List qH:=[]
@[go_sem] def a2c:qQ:=⟨[((zM O Z)).isSome=true],[(.val (.int .i64) (val (zM O Z)),none)],[]⟩
def aDP:List qI→List qH→Option qQ:=rT (V:=(pH×(List r5))) (fun x=>a2a x.1 x.2) (fun x=>a2b) fun x=>a2c x.1 x.2
@[go_sem] def aTi:aDP (no_index (a2a O Z)) (no_index a2b)=some (a2c O Z):=rV (fun⟨a0,a1⟩ ⟨b0,b1⟩ h1 h2=>by cases h1;cases h2;rfl) (O,Z)
end
@[go_sem] abbrev aDQ:Nat×rI:=(57,⟨[.v,.v],aDP,[],[],none⟩)
def EE:rL Tryz.prog [sM,wH,y8,DD] (rK []):=⟨⟨sO,⟨wX,⟨yX,⟨FC,trivial⟩⟩⟩⟩,rX,rM⟩
def aNw:rP Tryz.prog aDQ:=by
 refine rW EE Tryz.func57 (c:=_) rfl (N:=56) pX (ts:=[(4,none)]) rfl (fun _ _=>rfl) ?_;intro⟨O,Z⟩ hs hrow;dsimp only[a2a,a2b,a2c,rQ,qW,rF,rO,rS,Nat.reduceAdd] at hs hrow|-;have hz:=hs;obtain⟨z0,e⟩:=aVb.1 hz
 try rw[s9 e]
 clear hz hs;unfold zM at e;refine qG EE ?_;obtain⟨hg1,e⟩:=qP e;refine qG EE ?_ (hp:=by exact hg1);refine qZ ?_;refine qG EE ?_;refine sA ?_;obtain⟨aA,hy1,e⟩:=qK e;refine uS 0 (fun s=>s=(fun x=>⟨[(1,(.val (.list (.pair .str (.pair .str .unit))) Z,none)),(5,(.val (.int .i64) x,none))],[],0,56,0⟩) aA) ?_ ?_
 .refine uR hy1 (fun x=>⟨[(0,(.val (.list .str) O,none)),(1,(.val (.list (.pair .str (.pair .str .unit))) Z,none)),(5,(.val (.int .i64) x.1,none)),(6,(.val (.int .i64) x.2,none))],[],0,56,0⟩) ⟨[0,1,5,6],[]⟩ pY ?_;intro x1 w1 n1 d f;obtain⟨aB,aC⟩:=x1;unfold JJ at d;dsimp only at d|-;refine qZ ?_;refine qG EE ?_ (hp:=by exact⟨id,sL⟩);refine qY d (fun d hc1=> ?_) (fun d hc1=> ?_)
  .refine rJ (qS (qZ (sA ?_)));obtain⟨hg2,d⟩:=qP d;obtain⟨hg3,d⟩:=qP d;refine rY EE ?_ (hp:=by exact⟨hg2,hg3⟩);refine s5 (qS ?_);obtain⟨hg4,d⟩:=qP d;refine rY EE ?_ (hp:=by exact hg4);cases d;exact tI ⟨⟨[0,1,5,6],[]⟩,_,by rfl,f⟩
  .refine uF (uK (uH ?_));cases d;cases f;exact uG ⟨⟨[1,5],[]⟩,by rfl⟩
 .rintro _ rfl;dsimp only at e|-;refine uQ (qS (qZ ?_));refine qG EE ?_;refine sA ?_;obtain⟨aD,hy1,e⟩:=qK e;refine uS 2 (fun s=>s=(fun x=>⟨[(5,(.val (.int .i64) x,none))],[],0,56,0⟩) aD) ?_ ?_
  .refine uR hy1 (fun x=>⟨[(1,(.val (.list (.pair .str (.pair .str .unit))) Z,none)),(5,(.val (.int .i64) x.1,none)),(7,(.val (.int .i64) x.2,none))],[],0,56,0⟩) ⟨[1,5,7],[]⟩ pY ?_;intro x1 w1 n1 d f;obtain⟨aE,aF⟩:=x1;unfold JK at d;dsimp only at d|-;refine qZ ?_;refine qG EE ?_ (hp:=by exact⟨id,sL⟩);refine qY d (fun d hc2=> ?_) (fun d hc2=> ?_)
   .refine rJ (qS (qZ (sA ?_)));obtain⟨hg5,d⟩:=qP d;obtain⟨hg6,d⟩:=qP d;obtain⟨hg7,d⟩:=qP d;obtain⟨hg8,d⟩:=qP d;refine GB EE ?_ (hp:=by exact⟨hg5,hg6,hg7,hg8⟩);refine s5 (qS ?_);obtain⟨hg9,d⟩:=qP d;refine rY EE ?_ (hp:=by exact hg9);cases d;exact tI ⟨⟨[1,5,7],[]⟩,_,by rfl,f⟩
   .refine uF (uK (uH ?_));cases d;cases f;exact uG ⟨⟨[5],[]⟩,by rfl⟩
  .rintro _ rfl;dsimp only at e|-;refine uQ (qS ?_);refine qG EE ?_;refine qR ?_;cases e;exact pI []
def WN (O:pH) (Z:pH):Int→Option (Int⊕(Unit⊕Bool)):=fun aA=>if (decide (aA<(O.length:Int)))=true then if 0≤aA∧aA<(O.length:Int) then if 0≤aA∧aA<(Z.length:Int) then if (!decide ((rC .str O aA)=(rC .str Z aA)))=true then some (.inr (.inr (false))) else if qJ (aA+(1:Int)) then some (.inl (aA+(1:Int))) else none else none else none else some (.inr (.inl ()))
def xH (O:pH) (Z:pH):Option Bool:=if (!decide ((O.length:Int)=(Z.length:Int)))=true then some (false) else sZ (rE (WN O Z) (0:Int)) fun _=>some (true)
section
variable (O:pH) (Z:pH)
abbrev a2d:List qI:=[(.val (.list .str) O,none),(.val (.list .str) Z,none)]
abbrev a2e:List qH:=[]
@[go_sem] def a2f:qQ:=⟨[((xH O Z)).isSome=true],[(.val .bool (val (xH O Z)),none)],[]⟩
def aDR:List qI→List qH→Option qQ:=rT (V:=(pH×pH)) (fun x=>a2d x.1 x.2) (fun x=>a2e) fun x=>a2f x.1 x.2
@[go_sem] def aTj:aDR (no_index (a2d O Z)) (no_index a2e)=some (a2f O Z):=rV (fun⟨a0,a1⟩ ⟨b0,b1⟩ h1 h2=>by cases h1;cases h2;rfl) (O,Z)
end
@[go_sem] abbrev a2g:Nat×rI:=(87,⟨[.v,.v],aDR,[],[],none⟩)
def GH:rL Tryz.prog [sM,wH] (rK []):=⟨⟨sO,⟨wX,trivial⟩⟩,rX,rM⟩
def aDS:rP Tryz.prog a2g:=by
 refine rW GH Tryz.func87 (c:=_) rfl (N:=26) pX (ts:=[(4,none)]) rfl (fun _ _=>rfl) ?_;intro⟨O,Z⟩ hs hrow;dsimp only[a2d,a2e,a2f,rQ,qW,rF,rO,rS,Nat.reduceAdd] at hs hrow|-;have hz:=hs;obtain⟨z0,e⟩:=aVb.1 hz
 try rw[s9 e]
 clear hz hs;unfold xH at e;refine qG GH ?_;refine qZ ?_;refine qG GH ?_;refine qY e (fun e hc1=> ?_) (fun e hc1=> ?_)
 .refine qG GH ?_;refine qR (s0 ?_);cases e;exact pI []
 .refine rJ (qS (qZ ?_));refine qG GH ?_;refine sA ?_;obtain⟨y1,hy1,e⟩:=wG e;refine uS 0 (fun s=> ∃v,y1= .inl v∧s=(fun _=>⟨[],[],0,26,0⟩) v) ?_ ?_
  .refine uR hy1 (fun x=>⟨[(0,(.val (.list .str) O,none)),(1,(.val (.list .str) Z,none)),(5,(.val (.int .i64) x,none))],[],0,26,0⟩) ⟨[0,1,5],[]⟩ pY ?_;intro aA w1 n1 d f;unfold WN at d;dsimp only at d|-;refine qZ ?_;refine qG GH ?_;refine qY d (fun d hc2=> ?_) (fun d hc2=> ?_)
   .refine rJ (qS (qZ (sA ?_)));obtain⟨hg1,d⟩:=qP d;obtain⟨hg2,d⟩:=qP d;refine xE GH ?_ (hp:=by exact⟨hg1,hg2⟩);refine qY d (fun d hc3=> ?_) (fun d hc3=> ?_)
    .refine qG GH ?_;refine qR (sF (s0 (wF (wE (sF (s0 ?_))))));cases d;cases f;dsimp only at e;cases e;exact pI []
    .refine rJ (s5 (qS ?_));obtain⟨hg3,d⟩:=qP d;refine rY GH ?_ (hp:=by exact hg3);cases d;exact tI ⟨⟨[0,1,5],[]⟩,_,by rfl,f⟩
   .refine uF (uK (uH ?_));cases d;cases f;exact uG ⟨⟨[],[]⟩,_,rfl,by rfl⟩
  .rintro _ ⟨v,rfl,rfl⟩;dsimp only at e|-;refine uQ (qS ?_);refine qG GH ?_;refine qR ?_;cases e;exact pI []
attribute [irreducible] HX ED zM xH
end
noncomputable section
def WO (O:(List r5)) (Z:(List r5)):Int→Option (Int⊕(Unit⊕Bool)):=fun aA=>if (decide (aA<(O.length:Int)))=true then if 0≤aA∧aA<(O.length:Int) then if 0≤aA∧aA<(Z.length:Int) then if (!((decide ((rC (.pair .str (.pair .str .unit)) O aA).1=(rC (.pair .str (.pair .str .unit)) Z aA).1))&&(decide ((rC (.pair .str (.pair .str .unit)) O aA).2.1=(rC (.pair .str (.pair .str .unit)) Z aA).2.1))))=true then some (.inr (.inr (false))) else if qJ (aA+(1:Int)) then some (.inl (aA+(1:Int))) else none else none else none else some (.inr (.inl ()))
def B5 (O:(List r5)) (Z:(List r5)):Option Bool:=if (!decide ((O.length:Int)=(Z.length:Int)))=true then some (false) else sZ (rE (WO O Z) (0:Int)) fun _=>some (true)
section
variable (O:(List r5)) (Z:(List r5))
abbrev a2h:List qI:=[(.val (.list (.pair .str (.pair .str .unit))) O,none),(.val (.list (.pair .str (.pair .str .unit))) Z,none)]
abbrev a2i:List qH:=[]
@[go_sem] def a2j:qQ:=⟨[((B5 O Z)).isSome=true],[(.val .bool (val (B5 O Z)),none)],[]⟩
def aDT:List qI→List qH→Option qQ:=rT (V:=((List r5)×(List r5))) (fun x=>a2h x.1 x.2) (fun x=>a2i) fun x=>a2j x.1 x.2
@[go_sem] def aTk:aDT (no_index (a2h O Z)) (no_index a2i)=some (a2j O Z):=rV (fun⟨a0,a1⟩ ⟨b0,b1⟩ h1 h2=>by cases h1;cases h2;rfl) (O,Z)
end
@[go_sem] abbrev a2k:Nat×rI:=(88,⟨[.v,.v],aDT,[],[],none⟩)
def GI:rL Tryz.prog [y8,DD] (rK []):=⟨⟨yX,⟨FC,trivial⟩⟩,rX,rM⟩
def aDU:rP Tryz.prog a2k:=by
 refine rW GI Tryz.func88 (c:=_) rfl (N:=26) pX (ts:=[(4,none)]) rfl (fun _ _=>rfl) ?_;intro⟨O,Z⟩ hs hrow;dsimp only[a2h,a2i,a2j,rQ,qW,rF,rO,rS,Nat.reduceAdd] at hs hrow|-;have hz:=hs;obtain⟨z0,e⟩:=aVb.1 hz
 try rw[s9 e]
 clear hz hs;unfold B5 at e;refine qG GI ?_;refine qZ ?_;refine qG GI ?_;refine qY e (fun e hc1=> ?_) (fun e hc1=> ?_)
 .refine qG GI ?_;refine qR (s0 ?_);cases e;exact pI []
 .refine rJ (qS (qZ ?_));refine qG GI ?_;refine sA ?_;obtain⟨y1,hy1,e⟩:=wG e;refine uS 0 (fun s=> ∃v,y1= .inl v∧s=(fun _=>⟨[],[],0,26,0⟩) v) ?_ ?_
  .refine uR hy1 (fun x=>⟨[(0,(.val (.list (.pair .str (.pair .str .unit))) O,none)),(1,(.val (.list (.pair .str (.pair .str .unit))) Z,none)),(5,(.val (.int .i64) x,none))],[],0,26,0⟩) ⟨[0,1,5],[]⟩ pY ?_;intro aA w1 n1 f g;unfold WO at f;dsimp only at f|-;refine qZ ?_;refine qG GI ?_;refine qY f (fun f hc2=> ?_) (fun f hc2=> ?_)
   .refine rJ (qS (qZ (sA ?_)));obtain⟨hg1,f⟩:=qP f;obtain⟨hg2,f⟩:=qP f;refine xE GI ?_ (hp:=by exact⟨hg1,hg2⟩);refine qY f (fun f hc3=> ?_) (fun f hc3=> ?_)
    .refine qG GI ?_;refine qR (sF (s0 (wF (wE (sF (s0 ?_))))));cases f;cases g;dsimp only at e;cases e;exact pI []
    .refine rJ (s5 (qS ?_));obtain⟨hg3,f⟩:=qP f;refine rY GI ?_ (hp:=by exact hg3);cases f;exact tI ⟨⟨[0,1,5],[]⟩,_,by rfl,g⟩
   .refine uF (uK (uH ?_));cases f;cases g;exact uG ⟨⟨[],[]⟩,_,rfl,by rfl⟩
  .rintro _ ⟨v,rfl,rfl⟩;dsimp only at e|-;refine uQ (qS ?_);refine qG GI ?_;refine qR ?_;cases e;exact pI []
def O5 (O:rZ) (Z:rZ):Option Unit:=if ((((((decide (O.1=Z.1))&&(decide (O.2.1=Z.2.1)))&&(decide (O.2.2.1=Z.2.2.1)))&&(decide (O.2.2.2.2.2.1=Z.2.2.2.2.2.1)))==true)=true→((xH O.2.2.2.1 Z.2.2.2.1)).isSome=true) then if (((((((decide (O.1=Z.1))&&(decide (O.2.1=Z.2.1)))&&(decide (O.2.2.1=Z.2.2.1)))&&(decide (O.2.2.2.2.2.1=Z.2.2.2.2.2.1)))&&(val (xH O.2.2.2.1 Z.2.2.2.1)))==true)=true→((xH O.2.2.2.2.1 Z.2.2.2.2.1)).isSome=true) then if ((((((((decide (O.1=Z.1))&&(decide (O.2.1=Z.2.1)))&&(decide (O.2.2.1=Z.2.2.1)))&&(decide (O.2.2.2.2.2.1=Z.2.2.2.2.2.1)))&&(val (xH O.2.2.2.1 Z.2.2.2.1)))&&(val (xH O.2.2.2.2.1 Z.2.2.2.2.1)))==true)=true→((B5 O.2.2.2.2.2.2.1 Z.2.2.2.2.2.2.1)).isSome=true) then some (()) else none else none else none
section
variable (O:rZ) (Z:rZ)
abbrev a2l:List qI:=[(.val t7 O,none),(.val t7 Z,none)]
abbrev a2m:List qH:=[]
@[go_sem] def a2n:qQ:=⟨[((O5 O Z)).isSome=true],[(.val .bool (((((((decide (O.1=Z.1))&&(decide (O.2.1=Z.2.1)))&&(decide (O.2.2.1=Z.2.2.1)))&&(decide (O.2.2.2.2.2.1=Z.2.2.2.2.2.1)))&&(val (xH O.2.2.2.1 Z.2.2.2.1)))&&(val (xH O.2.2.2.2.1 Z.2.2.2.2.1)))&&(val (B5 O.2.2.2.2.2.2.1 Z.2.2.2.2.2.2.1))),none)],[]⟩
def aDV:List qI→List qH→Option qQ:=rT (V:=(rZ×rZ)) (fun x=>a2l x.1 x.2) (fun x=>a2m) fun x=>a2n x.1 x.2
@[go_sem] def aTl:aDV (no_index (a2l O Z)) (no_index a2m)=some (a2n O Z):=rV (fun⟨a0,a1⟩ ⟨b0,b1⟩ h1 h2=>by cases h1;cases h2;rfl) (O,Z)
end
@[go_sem] abbrev aDW:Nat×rI:=(89,⟨[.v,.v],aDV,[],[],none⟩)
def a2o:rL Tryz.prog [vP,sM,wH,y8,B3] (rK [a2g,a2k]):=⟨⟨w8,⟨sO,⟨wX,⟨yX,⟨CL,trivial⟩⟩⟩⟩⟩,qU aDS (qU aDU rX),rM⟩
def aNx:rP Tryz.prog aDW:=by
 refine rW a2o Tryz.func89 (c:=_) rfl (N:=52) pX (ts:=[(4,none)]) rfl (fun _ _=>rfl) ?_;intro⟨O,Z⟩ hs hrow;dsimp only[a2l,a2m,a2n,rQ,qW,rF,rO,rS,Nat.reduceAdd] at hs hrow|-;have hz:=hs;obtain⟨z0,e⟩:=aVb.1 hz
 try rw[s9 e]
 clear hz hs;unfold O5 at e;refine qG a2o ?_;obtain⟨hg1,e⟩:=qP e;obtain⟨hg2,e⟩:=qP e;obtain⟨hg3,e⟩:=qP e;refine qG a2o ?_ (hp:=by exact⟨id,id,id,id,sL,id,id,id,id,sL,id,id,id,id,sL,id,id,id,id,hg1,sL,id,id,id,id,hg2,sL,id,id,id,id,hg3,sL⟩);refine qR ?_;cases e;exact pI []
def aDX:Unit:=()
section
abbrev a2p:List qI:=[]
abbrev a2q:List qH:=[]
@[go_sem] def a2r:qQ:=⟨[],[(.val (.list .str) ([([110,101,119]:pG),([102,117,122,122,121]:pG),([116,114,97,110,115,108,97,116,101,100]:pG),([114,101,118,105,101,119,101,100]:pG),([111,98,115,111,108,101,116,101]:pG)]:pH),some 0)],[.grow 9 1 (([([110,101,119]:pG),([102,117,122,122,121]:pG),([116,114,97,110,115,108,97,116,101,100]:pG),([114,101,118,105,101,119,101,100]:pG),([111,98,115,111,108,101,116,101]:pG)]:pH).length)]⟩
def aDY:List qI→List qH→Option qQ:=rT (V:=Unit) (fun x=>a2p) (fun x=>a2q) fun x=>a2r
@[go_sem] def aTm:aDY (no_index a2p) (no_index a2q)=some a2r:=rV (fun _ _ h1 h2=>by cases h1;cases h2;rfl) ()
end
@[go_sem] abbrev RL:Nat×rI:=(111,⟨[],aDY,[],[],none⟩)
def a2s:rL Tryz.prog [wH] (rK []):=⟨⟨wX,trivial⟩,rX,rM⟩
def a2t:rP Tryz.prog RL:=by
 refine rW a2s Tryz.func111 (c:=_) rfl (N:=2) pX (ts:=[(0,none)]) rfl (fun _ _=>rfl) ?_;intro⟨⟩ hs hrow;dsimp only[a2p,a2q,a2r,rQ,qW,rF,rO,rS,Nat.reduceAdd] at hs hrow|-;obtain⟨z0,e⟩: ∃z,aDX=z:=⟨_,rfl⟩
 try rw[e]
 unfold aDX at e;refine qG a2s ?_;refine qG a2s ?_;refine qR ?_;cases e;exact pI [(0,32)]
def a2u (O:Int):Option Unit:=if 0≤O∧O<(([([110,101,119]:pG),([102,117,122,122,121]:pG),([116,114,97,110,115,108,97,116,101,100]:pG),([114,101,118,105,101,119,101,100]:pG),([111,98,115,111,108,101,116,101]:pG)]:pH).length:Int) then some (()) else none
attribute [irreducible] B5 O5 a2u
end
noncomputable section
def RM (O:pG):Nat→Option (Nat⊕(Unit⊕Bool)):=fun Z=>if (decide (Z<O.length))=true then if (decide (Z<O.length))=true then if (((((decide ((vE O Z)<(97:Int)))||(decide ((122:Int)<(vE O Z))))&&((decide ((vE O Z)<(65:Int)))||(decide ((90:Int)<(vE O Z)))))&&((decide ((vE O Z)<(48:Int)))||(decide ((57:Int)<(vE O Z)))))&&(!decide ((vE O Z)=(45:Int))))=true then some (.inr (.inr (false))) else some (.inl (AQ O Z)) else none else some (.inr (.inl ()))
def HY (O:pG):Option Bool:=sZ (rE (RM O) 0) fun _=>some (((decide ((1:Int)≤(O.length:Int)))&&(decide ((O.length:Int)≤(40:Int)))))
section
variable (O:pG)
abbrev a2v:List qI:=[(.val .str O,none)]
abbrev a2w:List qH:=[]
@[go_sem] def a2x:qQ:=⟨[((HY O)).isSome=true],[(.val .bool (val (HY O)),none)],[]⟩
def aDZ:List qI→List qH→Option qQ:=rT (V:=pG) (a2v) (fun x=>a2w) fun x=>a2x x
@[go_sem] def aTn:aDZ (no_index (a2v O)) (no_index a2w)=some (a2x O):=rV (fun a0 b0 h1 h2=>by cases h1;cases h2;rfl) O
end
@[go_sem] abbrev a2y:Nat×rI:=(106,⟨[.v],aDZ,[],[],none⟩)
def JL:rL Tryz.prog [sM] (rK []):=⟨⟨sO,trivial⟩,rX,rM⟩
def aD0:rP Tryz.prog a2y:=by
 refine rW JL Tryz.func106 (c:=_) rfl (N:=44) pX (ts:=[(2,none)]) rfl (fun _ _=>rfl) ?_;intro O hs hrow;dsimp only[a2v,a2w,a2x,rQ,qW,rF,rO,rS,Nat.reduceAdd] at hs hrow|-;have hz:=hs;obtain⟨z0,e⟩:=aVb.1 hz
 try rw[s9 e]
 clear hz hs;unfold HY at e;refine qG JL ?_;refine qZ ?_;refine qG JL ?_;refine sA ?_;obtain⟨y1,hy1,e⟩:=wG e;refine uS 0 (fun s=> ∃v,y1= .inl v∧s=(fun _=>⟨[(0,(.val .str O,none))],[],0,44,0⟩) v) ?_ ?_
 .refine uR hy1 (fun x=>⟨[(0,(.val .str O,none)),(6,(.val .ref (some (0,0)),none))],[(0,.iter O x)],1,44,0⟩) ⟨[0,6],[(0,64)]⟩ pY ?_;intro Z w1 n1 f g;unfold RM at f;dsimp only at f|-;refine qG JL ?_;refine qZ ?_;refine qY f (fun f hc1=> ?_) (fun f hc1=> ?_)
  .refine rJ (qS (sA ?_));obtain⟨hg1,f⟩:=qP f;refine qG JL ?_ (hp:=by exact hg1);refine qG JL ?_ (hp:=by exact⟨id,u6,id,id,id,id,fun hG d=>HS hG d,sL,id,id,id,id,fun hG d=>HS hG d,sL,id,sL⟩);refine qY f (fun f hc2=> ?_) (fun f hc2=> ?_)
   .refine qG JL ?_;refine qR (sF (wF (wE (sF (s0 ?_)))));cases f;cases g;dsimp only at e;cases e;exact pI []
   .refine rJ (s5 ?_);cases f;exact tI ⟨⟨[0,6],[(0,0)]⟩,_,by rfl,g⟩
  .refine uF (uK (uH ?_));cases f;cases g;exact uG ⟨⟨[0],[]⟩,_,rfl,by rfl⟩
 .rintro _ ⟨v,rfl,rfl⟩;dsimp only at e|-;refine uQ (qS ?_);refine qG JL ?_ (hp:=by exact⟨id,id,sL⟩);refine qR ?_;cases e;exact pI []
attribute [irreducible] HY
def aD1 (O:Int):Unit:=()
section
variable (O:Int)
abbrev a2z:List qI:=[(.val (.int .u8) O,none)]
abbrev a2A:List qH:=[]
@[go_sem] def a2B:qQ:=⟨[],[(.val .bool (((decide ((97:Int)≤O))&&(decide (O≤(122:Int))))||((decide ((65:Int)≤O))&&(decide (O≤(90:Int))))),none)],[]⟩
def aD2:List qI→List qH→Option qQ:=rT (V:=Int) (a2z) (fun x=>a2A) fun x=>a2B x
@[go_sem] def aTo:aD2 (no_index (a2z O)) (no_index a2A)=some (a2B O):=rV (fun a0 b0 h1 h2=>by cases h1;cases h2;rfl) O
end
@[go_sem] abbrev a2C:Nat×rI:=(120,⟨[.v],aD2,[],[],none⟩)
def a2D:rL Tryz.prog [] (rK []):=⟨trivial,rX,rM⟩
def aD3:rP Tryz.prog a2C:=by
 refine rW a2D Tryz.func120 (c:=_) rfl (N:=17) pX (ts:=[(2,none)]) rfl (fun _ _=>rfl) ?_;intro O hs hrow;dsimp only[a2z,a2A,a2B,rQ,qW,rF,rO,rS,Nat.reduceAdd] at hs hrow|-;obtain⟨z0,e⟩: ∃z,(aD1 O)=z:=⟨_,rfl⟩
 try rw[e]
 unfold aD1 at e;refine qG a2D ?_;refine qG a2D ?_ (hp:=by exact⟨id,sL,id,id,id,id,fun hG d=>GA hG d,u6⟩);refine qR ?_;cases e;exact pI []
def aD4 (O:Int):Unit:=()
section
variable (O:Int)
abbrev a2E:List qI:=[(.val (.int .i32) O,none)]
abbrev a2F:List qH:=[]
@[go_sem] def a2G:qQ:=⟨[],[(.val .bool ((decide ((127:Int)<O))||(((((!(((decide ((97:Int)≤(IntKind.wrap .u8 O)))&&(decide ((IntKind.wrap .u8 O)≤(122:Int))))||((decide ((65:Int)≤(IntKind.wrap .u8 O)))&&(decide ((IntKind.wrap .u8 O)≤(90:Int))))))&&((decide (O<(48:Int)))||(decide ((57:Int)<O))))&&(!decide (O=(45:Int))))&&(!decide (O=(95:Int))))&&(!decide (O=(46:Int))))),none)],[]⟩
def aD5:List qI→List qH→Option qQ:=rT (V:=Int) (a2E) (fun x=>a2F) fun x=>a2G x
@[go_sem] def aTp:aD5 (no_index (a2E O)) (no_index a2F)=some (a2G O):=rV (fun a0 b0 h1 h2=>by cases h1;cases h2;rfl) O
end
@[go_sem] abbrev aD6:Nat×rI:=(122,⟨[.v],aD5,[],[],none⟩)
def a2H:rL Tryz.prog [EB,O1] (rK [a2C]):=⟨⟨GF,⟨WB,trivial⟩⟩,qU aD3 rX,rM⟩
def aNy:rP Tryz.prog aD6:=by
 refine rW a2H Tryz.func122 (c:=_) rfl (N:=31) pX (ts:=[(2,none)]) rfl (fun _ _=>rfl) ?_;intro O hs hrow;dsimp only[a2E,a2F,a2G,rQ,qW,rF,rO,rS,Nat.reduceAdd] at hs hrow|-;obtain⟨z0,e⟩: ∃z,(aD4 O)=z:=⟨_,rfl⟩
 try rw[e]
 unfold aD4 at e;refine qG a2H ?_;refine qG a2H ?_ (hp:=by exact⟨id,id,id,id,id,id,id,id,fun hG d=>HS hG d,id,fun hG d=>GA hG d,id,id,id,fun hG d=>GA hG d,id,id,id,fun hG d=>GA hG d,id,id,id,fun hG d=>GA hG d,u6⟩);refine qR ?_;cases e;exact pI []
def aD7 (O:pG):Unit:=()
section
variable (O:pG)
abbrev a2I:List qI:=[(.val .str O,none)]
abbrev a2J:List qH:=[]
@[go_sem] def a2K:qQ:=⟨[],[(.val .bool false,none)],[]⟩
def aD8:List qI→List qH→Option qQ:=rT (V:=pG) (a2I) (fun x=>a2J) fun x=>a2K
@[go_sem] def aTq:aD8 (no_index (a2I O)) (no_index a2J)=some a2K:=rV (fun a0 b0 h1 h2=>by cases h1;cases h2;rfl) O
end
@[go_sem] abbrev WP:Nat×rI:=(125,⟨[.v],aD8,[],[],none⟩)
def a2L:rL Tryz.prog [] (rK []):=⟨trivial,rX,rM⟩
def a2M:rP Tryz.prog WP:=by
 refine rW a2L Tryz.func125 (c:=_) rfl (N:=3) pX (ts:=[(2,none)]) rfl (fun _ _=>rfl) ?_;intro O hs hrow;dsimp only[a2I,a2J,a2K,rQ,qW,rF,rO,rS,Nat.reduceAdd] at hs hrow|-;obtain⟨z0,e⟩: ∃z,(aD7 O)=z:=⟨_,rfl⟩
 try rw[e]
 unfold aD7 at e;refine qG a2L ?_;refine qG a2L ?_;refine qR ?_;cases e;exact pI []
def aD9 (O:pG):Unit:=()
section
variable (O:pG)
abbrev a2N:List qI:=[(.val .str O,none)]
abbrev a2O:List qH:=[]
@[go_sem] def a2P:qQ:=⟨[],[(.val .bool ((!decide (O=([]:pG)))&&(decide ((O.length:Int)≤(200:Int)))),none)],[]⟩
def aEa:List qI→List qH→Option qQ:=rT (V:=pG) (a2N) (fun x=>a2O) fun x=>a2P x
@[go_sem] def aTr:aEa (no_index (a2N O)) (no_index a2O)=some (a2P O):=rV (fun a0 b0 h1 h2=>by cases h1;cases h2;rfl) O
end
@[go_sem] abbrev aEb:Nat×rI:=(127,⟨[.v],aEa,[],[],none⟩)
def a2Q:rL Tryz.prog [sM] (rK []):=⟨⟨sO,trivial⟩,rX,rM⟩
def aNz:rP Tryz.prog aEb:=by
 refine rW a2Q Tryz.func127 (c:=_) rfl (N:=10) pX (ts:=[(2,none)]) rfl (fun _ _=>rfl) ?_;intro O hs hrow;dsimp only[a2N,a2O,a2P,rQ,qW,rF,rO,rS,Nat.reduceAdd] at hs hrow|-;obtain⟨z0,e⟩: ∃z,(aD9 O)=z:=⟨_,rfl⟩
 try rw[e]
 unfold aD9 at e;refine qG a2Q ?_;refine qG a2Q ?_ (hp:=by exact⟨id,id,sL⟩);refine qR ?_;cases e;exact pI []
def aEc (O:pG) (Z:(pG×(Int×Unit))) (aA:sP) (aB:Int) (aC:Int) (aD:sC) (aE:(pP×(Int×Unit))) (aF:pN):Unit:=()
section
variable (O:pG) (Z:(pG×(Int×Unit))) (aA:sP) (aB:Int) (aC:Int) (aD:sC) (aE:(pP×(Int×Unit))) (aF:Nat) (aG:Nat) (aH:pN)
abbrev a2R:List qI:=[(.val .str O,none),(.val .ref (some (0,0)),none)]
abbrev a2S:List qH:=[.cells .ref (some (1,0)) [],.cells sJ (Z,(aA,(aB,(aC,(aD,((some 4),aE)))))) [(11,2),(13,3)],.grow 55 7 aF,.grow 3 1 aG,.map .str .bool aH]
@[go_sem] def a2T:qQ:=⟨[aF=(aD.2.2.2.1.length),aG=(aE.1.length)],[(.val .bool (sR .str .bool aH O),none)],[.cells .ref (some (1,0)) [],.cells sJ ((Z.1,(Z.2.1,())),((aA.1,(aA.2.1,(aA.2.2.1,(aA.2.2.2.1,())))),(aB,(aC,((aD.1,(aD.2.1,(aD.2.2.1,(aD.2.2.2.1,())))),((some 4),(aE.1,(aE.2.1,())))))))) [(11,2),(13,3)],.grow 55 7 (aD.2.2.2.1.length),.grow 3 1 (aE.1.length),.map .str .bool aH]⟩
def aEd:List qI→List qH→Option qQ:=rT (V:=(pG×(pG×(Int×Unit))×sP×Int×Int×sC×(pP×(Int×Unit))×Nat×Nat×pN)) (fun x=>a2R x.1) (fun x=>a2S x.2.1 x.2.2.1 x.2.2.2.1 x.2.2.2.2.1 x.2.2.2.2.2.1 x.2.2.2.2.2.2.1 x.2.2.2.2.2.2.2.1 x.2.2.2.2.2.2.2.2.1 x.2.2.2.2.2.2.2.2.2) fun x=>a2T x.1 x.2.1 x.2.2.1 x.2.2.2.1 x.2.2.2.2.1 x.2.2.2.2.2.1 x.2.2.2.2.2.2.1 x.2.2.2.2.2.2.2.1 x.2.2.2.2.2.2.2.2.1 x.2.2.2.2.2.2.2.2.2
@[go_sem] def aTs:aEd (no_index (a2R O)) (no_index (a2S Z aA aB aC aD aE aF aG aH))=some (a2T O Z aA aB aC aD aE aF aG aH):=rV (fun⟨a0,a1,a2,a3,a4,a5,a6,a7,a8,a9⟩ ⟨b0,b1,b2,b3,b4,b5,b6,b7,b8,b9⟩ h1 h2=>by cases h1;cases h2;rfl) (O,Z,aA,aB,aC,aD,aE,aF,aG,aH)
end
@[go_sem] abbrev aEe:Nat×rI:=(128,⟨[.v,.p .ref []],aEd,[(0,0,.p sJ [11,13]),(1,12,.m)],[0,1,2,3,4],none⟩)
def a2U:rL Tryz.prog [GE,sM,WC,JG,yY] (rK []):=⟨⟨JF,⟨sO,⟨aDt,⟨O0,⟨AC,trivial⟩⟩⟩⟩⟩,rX,rM⟩
def aNA:rP Tryz.prog aEe:=by
 refine rW a2U Tryz.func128 (c:=_) rfl (N:=10) pX (ts:=[(3,none)]) rfl (fun _ _=>rfl) ?_;intro⟨O,Z,aA,aB,aC,aD,aE,aF,aG,aH⟩ hs hrow;dsimp only[a2R,a2S,a2T,rQ,qW,rF,rO,rS,Nat.reduceAdd] at hs hrow|-;obtain⟨rfl,rfl⟩:=hs;obtain⟨z0,e⟩: ∃z,(aEc O Z aA aB aC aD aE aH)=z:=⟨_,rfl⟩
 try rw[e]
 unfold aEc at e;refine qG a2U ?_;refine qG a2U ?_;refine qR ?_;cases e;exact pI [(0,0),(1,1),(2,2),(3,3),(4,4)]
def z7 (O:HT) (Z:sP) (aA:Int):(Int×Int):=if (decide (O.2.2.2.1=(0:Int)))=true then (Z.2.2.1,aA) else (O.2.2.1,O.2.2.2.1)
def aEf (O:Int):Unit:=()
section
variable (O:Int)
abbrev a2V:List qI:=[(.val (.int .i64) O,none)]
abbrev a2W:List qH:=[]
@[go_sem] def a2X:qQ:=⟨[],[(.val .bool ((decide ((1:Int)≤O))&&(decide (O≤(4:Int)))),none)],[]⟩
def aEg:List qI→List qH→Option qQ:=rT (V:=Int) (a2V) (fun x=>a2W) fun x=>a2X x
@[go_sem] def aTt:aEg (no_index (a2V O)) (no_index a2W)=some (a2X O):=rV (fun a0 b0 h1 h2=>by cases h1;cases h2;rfl) O
end
@[go_sem] abbrev WQ:Nat×rI:=(164,⟨[.v],aEg,[],[],none⟩)
def a2Y:rL Tryz.prog [] (rK []):=⟨trivial,rX,rM⟩
def a2Z:rP Tryz.prog WQ:=by
 refine rW a2Y Tryz.func164 (c:=_) rfl (N:=9) pX (ts:=[(2,none)]) rfl (fun _ _=>rfl) ?_;intro O hs hrow;dsimp only[a2V,a2W,a2X,rQ,qW,rF,rO,rS,Nat.reduceAdd] at hs hrow|-;obtain⟨z0,e⟩: ∃z,(aEf O)=z:=⟨_,rfl⟩
 try rw[e]
 unfold aEf at e;refine qG a2Y ?_;refine qG a2Y ?_ (hp:=by exact⟨id,sL⟩);refine qR ?_;cases e;exact pI []
end
noncomputable section
def O6 (O:pG) (Z:Int) (aA:pG):Option Unit:=if qJ ((O.length:Int)-Z) then if (((decide ((aA.length:Int)≤((O.length:Int)-Z)))==true)=true→qJ (Z+(aA.length:Int))) then if (((decide ((aA.length:Int)≤((O.length:Int)-Z)))==true)=true→0≤Z∧Z≤(Z+(aA.length:Int))∧(Z+(aA.length:Int))≤(O.length:Int)) then some (()) else none else none else none
def WR (O:pG):Int→Option (Int⊕(Unit⊕Int)):=fun Z=>if (decide (Z≤(4:Int)))=true then (a2u Z).bind fun aA=>if (decide ((rC .str ([([110,101,119]:pG),([102,117,122,122,121]:pG),([116,114,97,110,115,108,97,116,101,100]:pG),([114,101,118,105,101,119,101,100]:pG),([111,98,115,111,108,101,116,101]:pG)]:pH) Z)=O))=true then some (.inr (.inr (Z))) else if qJ (Z+(1:Int)) then some (.inl (Z+(1:Int))) else none else some (.inr (.inl ()))
def O7 (O:pG):Option Int:=sZ (rE (WR O) (0:Int)) fun _=>some ((-1:Int))
attribute [irreducible] O6 O7
end
noncomputable section
def WS (O:(List r5)) (Z:pG):Int→Option (Int⊕(Unit⊕(pG×Bool))):=fun aA=>if (decide (aA<(O.length:Int)))=true then if 0≤aA∧aA<(O.length:Int) then if (decide ((rC (.pair .str (.pair .str .unit)) O aA).1=Z))=true then if 0≤aA∧aA<(O.length:Int) then some (.inr (.inr (((rC (.pair .str (.pair .str .unit)) O aA).2.1,true)))) else none else if qJ (aA+(1:Int)) then some (.inl (aA+(1:Int))) else none else none else some (.inr (.inl ()))
def WT (O:(List r5)) (Z:pG):Option (pG×Bool):=sZ (rE (WS O Z) (0:Int)) fun _=>some ((([]:pG),false))
def WU (O:(List r5)) (Z:pG) (aA:pG):Int→Option (Int⊕(Unit⊕(List r5))):=fun aB=>if (decide (aB<((((([]:List r5)++O).length):Nat):Int)))=true then if 0≤aB∧aB<((((([]:List r5)++O).length):Nat):Int) then if (decide ((rC (.pair .str (.pair .str .unit)) (([]:List r5)++O) aB).1=Z))=true then if 0≤aB∧aB<((((([]:List r5)++O).length):Nat):Int) then some (.inr (.inr ((List.set (([]:List r5)++O) (Int.toNat aB) ((rC (.pair .str (.pair .str .unit)) (([]:List r5)++O) aB).1,(aA,(rC (.pair .str (.pair .str .unit)) (([]:List r5)++O) aB).2.2)))))) else none else if qJ (aB+(1:Int)) then some (.inl (aB+(1:Int))) else none else none else some (.inr (.inl ()))
def O8 (O:(List r5)) (Z:pG):Int→Option (Int⊕Int):=fun aA=>if (((decide (aA<(O.length:Int)))==true)=true→0≤aA∧aA<(O.length:Int)) then if ((decide (aA<(O.length:Int)))&&(Op.bytesLess (rC (.pair .str (.pair .str .unit)) O aA).1 Z||decide ((rC (.pair .str (.pair .str .unit)) O aA).1=Z)))=true then if qJ (aA+(1:Int)) then some (.inl (aA+(1:Int))) else none else some (.inr aA) else none
def WV (O:(List r5)) (Z:pG) (aA:pG):Option (List r5):=if (0+O.length)*32≤140737488355328 then sZ (rE (WU O Z aA) (0:Int)) fun _=>sB (rE (O8 O Z) (0:Int)) fun aB=>if 0≤(0:Int)∧(0:Int)≤aB∧aB≤(O.length:Int) then if (0+(qV O (0:Int) aB).length)*32≤140737488355328 then if (((([]:List r5)++(qV O (0:Int) aB)).length)+([(Z,(aA,()))]:List r5).length)*32≤140737488355328 then if 0≤aB∧aB≤(O.length:Int)∧(O.length:Int)≤(O.length:Int) then if ((((([]:List r5)++(qV O (0:Int) aB))++([(Z,(aA,()))]:List r5)).length)+(qV O aB (O.length:Int)).length)*32≤140737488355328 then some ((((([]:List r5)++(qV O (0:Int) aB))++([(Z,(aA,()))]:List r5))++(qV O aB (O.length:Int)))) else none else none else none else none else none else none
def O9 (O:pG):Nat→Option (Nat⊕(Unit⊕Bool)):=fun Z=>if (decide (Z<O.length))=true then if (decide (Z<O.length))=true then if (decide (Z<O.length))=true then if ((decide ((97:Int)≤(vE O Z)))&&(decide ((vE O Z)≤(122:Int))))=true then some (.inl (AQ O Z)) else if ((decide ((0:Int)<((Z:Nat):Int)))&&(((((decide ((48:Int)≤(vE O Z)))&&(decide ((vE O Z)≤(57:Int))))||(decide ((vE O Z)=(45:Int))))||(decide ((vE O Z)=(95:Int))))||(decide ((vE O Z)=(46:Int)))))=true then some (.inl (AQ O Z)) else some (.inr (.inr (false))) else none else none else some (.inr (.inl ()))
def EF (O:pG):Option Bool:=sZ (rE (O9 O) 0) fun _=>some (((decide ((1:Int)≤(O.length:Int)))&&(decide ((O.length:Int)≤(40:Int)))))
section
variable (O:pG)
abbrev a23:List qI:=[(.val .str O,none)]
abbrev a24:List qH:=[]
@[go_sem] def a25:qQ:=⟨[((EF O)).isSome=true],[(.val .bool (val (EF O)),none)],[]⟩
def aEh:List qI→List qH→Option qQ:=rT (V:=pG) (a23) (fun x=>a24) fun x=>a25 x
@[go_sem] def aTu:aEh (no_index (a23 O)) (no_index a24)=some (a25 O):=rV (fun a0 b0 h1 h2=>by cases h1;cases h2;rfl) O
end
@[go_sem] abbrev LP:Nat×rI:=(162,⟨[.v],aEh,[],[],none⟩)
def GJ:rL Tryz.prog [sM] (rK []):=⟨⟨sO,trivial⟩,rX,rM⟩
def WW:rP Tryz.prog LP:=by
 refine rW GJ Tryz.func162 (c:=_) rfl (N:=51) pX (ts:=[(2,none)]) rfl (fun _ _=>rfl) ?_;intro O hs hrow;dsimp only[a23,a24,a25,rQ,qW,rF,rO,rS,Nat.reduceAdd] at hs hrow|-;have hz:=hs;obtain⟨z0,f⟩:=aVb.1 hz
 try rw[s9 f]
 clear hz hs;unfold EF at f;refine qG GJ ?_;refine qZ ?_;refine qG GJ ?_;refine sA ?_;obtain⟨y1,hy1,f⟩:=wG f;refine uS 0 (fun s=> ∃v,y1= .inl v∧s=(fun _=>⟨[(0,(.val .str O,none))],[],0,51,0⟩) v) ?_ ?_
 .refine uR hy1 (fun x=>⟨[(0,(.val .str O,none)),(7,(.val .ref (some (0,0)),none))],[(0,.iter O x)],1,51,0⟩) ⟨[0,7],[(0,64)]⟩ pY ?_;intro Z w1 n1 e g;unfold O9 at e;dsimp only at e|-;refine qG GJ ?_;refine qZ ?_;refine qY e (fun e hc1=> ?_) (fun e hc1=> ?_)
  .refine rJ (qS (sA ?_));obtain⟨hg1,e⟩:=qP e;obtain⟨hg2,e⟩:=qP e;refine qG GJ ?_ (hp:=by exact⟨hg1,hg2⟩);refine qG GJ ?_ (hp:=by exact⟨id,sL⟩);refine sA ?_;refine qG GJ ?_;refine qY e (fun e hc2=> ?_) (fun e hc2=> ?_)
   .refine rJ (s5 (s5 ?_));cases e;exact tI ⟨⟨[0,7],[(0,0)]⟩,_,by rfl,g⟩
   .refine qG GJ ?_ (hp:=by exact⟨id,id,id,id,fun hG d=>GA hG d,id,id,id,fun hG d=>HS hG d,id,id,id,fun hG d=>HS hG d,id,id,id,fun hG d=>HS hG d,sL⟩);refine qY e (fun e hc3=> ?_) (fun e hc3=> ?_)
    .refine rJ (s5 (s5 ?_));cases e;exact tI ⟨⟨[0,7],[(0,0)]⟩,_,by rfl,g⟩
    .refine qG GJ ?_;refine qR (sF (sF (wF (wE (sF (s0 ?_))))));cases e;cases g;dsimp only at f;cases f;exact pI []
  .refine uF (uK (uH ?_));cases e;cases g;exact uG ⟨⟨[0],[]⟩,_,rfl,by rfl⟩
 .rintro _ ⟨v,rfl,rfl⟩;dsimp only at f|-;refine uQ (qS ?_);refine qG GJ ?_ (hp:=by exact⟨id,id,sL⟩);refine qR ?_;cases f;exact pI []
def RN (O:pH):Int→Option (Int⊕(Unit⊕Bool)):=fun Z=>if (decide (Z<(O.length:Int)))=true then if 0≤Z∧Z<(O.length:Int) then (EF (rC .str O Z)).bind fun aA=>if ((((!aA)==false)&&((decide ((0:Int)<Z))==true))=true→qJ (Z- (1:Int))) then if ((((!aA)==false)&&((decide ((0:Int)<Z))==true))=true→0≤(Z- (1:Int))∧(Z- (1:Int))<(O.length:Int)) then if ((!aA)||((decide ((0:Int)<Z))&&(!Op.bytesLess (rC .str O (Z- (1:Int))) (rC .str O Z))))=true then some (.inr (.inr (false))) else if qJ (Z+(1:Int)) then some (.inl (Z+(1:Int))) else none else none else none else none else some (.inr (.inl ()))
def HZ (O:pH):Option Bool:=sZ (rE (RN O) (0:Int)) fun _=>some ((decide ((O.length:Int)≤(20:Int))))
section
variable (O:pH)
abbrev a26:List qI:=[(.val (.list .str) O,none)]
abbrev a27:List qH:=[]
@[go_sem] def a28:qQ:=⟨[((HZ O)).isSome=true],[(.val .bool (val (HZ O)),none)],[]⟩
def aEi:List qI→List qH→Option qQ:=rT (V:=pH) (a26) (fun x=>a27) fun x=>a28 x
@[go_sem] def aTv:aEi (no_index (a26 O)) (no_index a27)=some (a28 O):=rV (fun a0 b0 h1 h2=>by cases h1;cases h2;rfl) O
end
@[go_sem] abbrev aEj:Nat×rI:=(163,⟨[.v],aEi,[],[],none⟩)
def I0:rL Tryz.prog [sM,wH] (rK [LP]):=⟨⟨sO,⟨wX,trivial⟩⟩,qU WW rX,rM⟩
def aNB:rP Tryz.prog aEj:=by
 refine rW I0 Tryz.func163 (c:=_) rfl (N:=32) pX (ts:=[(2,none)]) rfl (fun _ _=>rfl) ?_;intro O hs hrow;dsimp only[a26,a27,a28,rQ,qW,rF,rO,rS,Nat.reduceAdd] at hs hrow|-;have hz:=hs;obtain⟨z0,f⟩:=aVb.1 hz
 try rw[s9 f]
 clear hz hs;unfold HZ at f;refine qG I0 ?_;refine qZ ?_;refine qG I0 ?_;refine sA ?_;obtain⟨y1,hy1,f⟩:=wG f;refine uS 0 (fun s=> ∃v,y1= .inl v∧s=(fun _=>⟨[(0,(.val (.list .str) O,none))],[],0,32,0⟩) v) ?_ ?_
 .refine uR hy1 (fun x=>⟨[(0,(.val (.list .str) O,none)),(5,(.val (.list .str) O,none)),(6,(.val (.int .i64) (O.length:Int),none)),(7,(.val (.int .i64) x,none))],[],0,32,0⟩) ⟨[0,5,6,7],[]⟩ pY ?_;intro Z w1 n1 e g;unfold RN at e;dsimp only at e|-;refine qG I0 ?_;refine qZ ?_;refine qY e (fun e hc1=> ?_) (fun e hc1=> ?_)
  .refine rJ (qS (qZ (sA ?_)));obtain⟨hg1,e⟩:=qP e;refine qG I0 ?_ (hp:=by exact hg1);obtain⟨aA,hv2,hw2,e⟩:=rH e
   try simp only[go_sem] at hw2
   obtain⟨hg3,e⟩:=qP e;obtain⟨hg4,e⟩:=qP e;refine qG I0 ?_ (hp:=by exact⟨rG hv2,id,id,id,hg3,id,id,hg4,id,id,id,id,fun hG d=>GA hG d,u6⟩) (h:=by simp only[go_sem,hw2];rfl);refine qY e (fun e hc2=> ?_) (fun e hc2=> ?_)
   .refine qG I0 ?_;refine qR (sF (s0 (wF (wE (sF (s0 ?_))))));cases e;cases g;dsimp only at f;cases f;exact pI []
   .refine rJ (s5 (qS ?_));obtain⟨hg5,e⟩:=qP e;refine rY I0 ?_ (hp:=by exact hg5);cases e;exact tI ⟨⟨[0,5,6,7],[]⟩,_,by rfl,g⟩
  .refine uF (uK (uH ?_));cases e;cases g;exact uG ⟨⟨[0],[]⟩,_,rfl,by rfl⟩
 .rintro _ ⟨v,rfl,rfl⟩;dsimp only at f|-;refine uQ (qS ?_);refine qG I0 ?_;refine qR ?_;cases f;exact pI []
def aEk (O:Int):Unit:=()
section
variable (O:Int)
abbrev a29:List qI:=[(.val (.int .u8) O,none)]
abbrev a3a:List qH:=[]
@[go_sem] def a3b:qQ:=⟨[],[(.val .bool ((decide ((97:Int)≤O))&&(decide (O≤(122:Int)))),none)],[]⟩
def aEl:List qI→List qH→Option qQ:=rT (V:=Int) (a29) (fun x=>a3a) fun x=>a3b x
@[go_sem] def aTw:aEl (no_index (a29 O)) (no_index a3a)=some (a3b O):=rV (fun a0 b0 h1 h2=>by cases h1;cases h2;rfl) O
end
@[go_sem] abbrev aEm:Nat×rI:=(169,⟨[.v],aEl,[],[],none⟩)
def a3c:rL Tryz.prog [] (rK []):=⟨trivial,rX,rM⟩
def aNC:rP Tryz.prog aEm:=by
 refine rW a3c Tryz.func169 (c:=_) rfl (N:=9) pX (ts:=[(2,none)]) rfl (fun _ _=>rfl) ?_;intro O hs hrow;dsimp only[a29,a3a,a3b,rQ,qW,rF,rO,rS,Nat.reduceAdd] at hs hrow|-;obtain⟨z0,f⟩: ∃z,(aEk O)=z:=⟨_,rfl⟩
 try rw[f]
 unfold aEk at f;refine qG a3c ?_;refine qG a3c ?_ (hp:=by exact⟨id,sL⟩);refine qR ?_;cases f;exact pI []
attribute [irreducible] WT WV EF HZ
end
noncomputable section
def aEn (O:Int):Unit:=()
section
variable (O:Int)
abbrev a3d:List qI:=[(.val (.int .u8) O,none)]
abbrev a3e:List qH:=[]
@[go_sem] def a3f:qQ:=⟨[],[(.val .bool ((decide ((48:Int)≤O))&&(decide (O≤(57:Int)))),none)],[]⟩
def aEo:List qI→List qH→Option qQ:=rT (V:=Int) (a3d) (fun x=>a3e) fun x=>a3f x
@[go_sem] def aTx:aEo (no_index (a3d O)) (no_index a3e)=some (a3f O):=rV (fun a0 b0 h1 h2=>by cases h1;cases h2;rfl) O
end
@[go_sem] abbrev aEp:Nat×rI:=(170,⟨[.v],aEo,[],[],none⟩)
def a3g:rL Tryz.prog [] (rK []):=⟨trivial,rX,rM⟩
def aND:rP Tryz.prog aEp:=by
 refine rW a3g Tryz.func170 (c:=_) rfl (N:=9) pX (ts:=[(2,none)]) rfl (fun _ _=>rfl) ?_;intro O hs hrow;dsimp only[a3d,a3e,a3f,rQ,qW,rF,rO,rS,Nat.reduceAdd] at hs hrow|-;obtain⟨z0,e⟩: ∃z,(aEn O)=z:=⟨_,rfl⟩
 try rw[e]
 unfold aEn at e;refine qG a3g ?_;refine qG a3g ?_ (hp:=by exact⟨id,sL⟩);refine qR ?_;cases e;exact pI []
def aEq (O:(pG×(Int×Unit))) (Z:sP) (aA:Int) (aB:Int) (aC:sC) (aD:(pP×(Int×Unit))) (aE:Int) (aF:pG) (aG:pN):Unit:=()
section
variable (O:Int) (Z:pG) (aA:(pG×(Int×Unit))) (aB:sP) (aC:Int) (aD:Int) (aE:sC) (aF:(pP×(Int×Unit))) (aG:Nat) (aH:Nat) (aI:pN)
abbrev a3h:List qI:=[(.val .ref (some (0,0)),none),(.val (.int .i64) O,none),(.val .str Z,none)]
abbrev a3i:List qH:=[.cells sJ (aA,(aB,(aC,(aD,(aE,((some 3),aF)))))) [(11,1),(13,2)],.grow 55 7 aG,.grow 3 1 aH,.map .str .bool aI]
@[go_sem] def a3j:qQ:=⟨[aG=(aE.2.2.2.1.length),aH=(aF.1.length)],[(.val .bool (((decide (aD=(0:Int)))&&(decide (aB.1=O)))&&(decide (aB.2.1=Z))),none)],[.cells sJ ((aA.1,(aA.2.1,())),((aB.1,(aB.2.1,(aB.2.2.1,(aB.2.2.2.1,())))),(aC,(aD,((aE.1,(aE.2.1,(aE.2.2.1,(aE.2.2.2.1,())))),((some 3),(aF.1,(aF.2.1,())))))))) [(11,1),(13,2)],.grow 55 7 (aE.2.2.2.1.length),.grow 3 1 (aF.1.length),.map .str .bool aI]⟩
def aEr:List qI→List qH→Option qQ:=rT (V:=(Int×pG×(pG×(Int×Unit))×sP×Int×Int×sC×(pP×(Int×Unit))×Nat×Nat×pN)) (fun x=>a3h x.1 x.2.1) (fun x=>a3i x.2.2.1 x.2.2.2.1 x.2.2.2.2.1 x.2.2.2.2.2.1 x.2.2.2.2.2.2.1 x.2.2.2.2.2.2.2.1 x.2.2.2.2.2.2.2.2.1 x.2.2.2.2.2.2.2.2.2.1 x.2.2.2.2.2.2.2.2.2.2) fun x=>a3j x.1 x.2.1 x.2.2.1 x.2.2.2.1 x.2.2.2.2.1 x.2.2.2.2.2.1 x.2.2.2.2.2.2.1 x.2.2.2.2.2.2.2.1 x.2.2.2.2.2.2.2.2.1 x.2.2.2.2.2.2.2.2.2.1 x.2.2.2.2.2.2.2.2.2.2
@[go_sem] def aTy:aEr (no_index (a3h O Z)) (no_index (a3i aA aB aC aD aE aF aG aH aI))=some (a3j O Z aA aB aC aD aE aF aG aH aI):=rV (fun⟨a0,a1,a2,a3,a4,a5,a6,a7,a8,a9,a10⟩ ⟨b0,b1,b2,b3,b4,b5,b6,b7,b8,b9,b10⟩ h1 h2=>by cases h1;cases h2;rfl) (O,Z,aA,aB,aC,aD,aE,aF,aG,aH,aI)
end
@[go_sem] abbrev aEs:Nat×rI:=(176,⟨[.p sJ [11,13],.v,.v],aEr,[(0,12,.m)],[0,1,2,3],none⟩)
def a3k:rL Tryz.prog [vP,sM,HW,B4,yY] (rK []):=⟨⟨w8,⟨sO,⟨LO,⟨CM,⟨AC,trivial⟩⟩⟩⟩⟩,rX,rM⟩
def aNE:rP Tryz.prog aEs:=by
 refine rW a3k Tryz.func176 (c:=_) rfl (N:=30) pX (ts:=[(6,none)]) rfl (fun _ _=>rfl) ?_;intro⟨O,Z,aA,aB,aC,aD,aE,aF,aG,aH,aI⟩ hs hrow;dsimp only[a3h,a3i,a3j,rQ,qW,rF,rO,rS,Nat.reduceAdd] at hs hrow|-;obtain⟨rfl,rfl⟩:=hs;obtain⟨z0,e⟩: ∃z,(aEq aA aB aC aD aE aF O Z aI)=z:=⟨_,rfl⟩
 try rw[e]
 unfold aEq at e;refine qG a3k ?_;refine qG a3k ?_ (hp:=by exact⟨id,id,id,id,id,id,sL,id,id,id,id,id,id,sL⟩);refine qR ?_;cases e;exact pI [(0,0),(1,1),(2,2),(3,3)]
def vH (O:(pG×(Int×Unit))) (Z:sP) (aA:Int) (aB:Int) (aC:sC) (aD:(pP×(Int×Unit))) (aE:Int) (aF:pN):(Int×Int):=if (decide (aB=(0:Int)))=true then (Z.2.2.1,aE) else (aA,aB)
section
variable (O:Int) (Z:(pG×(Int×Unit))) (aA:sP) (aB:Int) (aC:Int) (aD:sC) (aE:(pP×(Int×Unit))) (aF:Nat) (aG:Nat) (aH:pN)
abbrev a3l:List qI:=[(.val .ref (some (0,0)),none),(.val (.int .i64) O,none)]
abbrev a3m:List qH:=[.cells sJ (Z,(aA,(aB,(aC,(aD,((some 3),aE)))))) [(11,1),(13,2)],.grow 55 7 aF,.grow 3 1 aG,.map .str .bool aH]
@[go_sem] def a3n:qQ:=⟨[aF=(aD.2.2.2.1.length),aG=(aE.1.length)],[],[.cells sJ ((Z.1,(Z.2.1,())),((aA.1,(aA.2.1,(aA.2.2.1,(aA.2.2.2.1,())))),((vH Z aA aB aC aD aE O aH).1,((vH Z aA aB aC aD aE O aH).2,((aD.1,(aD.2.1,(aD.2.2.1,(aD.2.2.2.1,())))),((some 3),(aE.1,(aE.2.1,())))))))) [(11,1),(13,2)],.grow 55 7 (aD.2.2.2.1.length),.grow 3 1 (aE.1.length),.map .str .bool aH]⟩
def aEt:List qI→List qH→Option qQ:=rT (V:=(Int×(pG×(Int×Unit))×sP×Int×Int×sC×(pP×(Int×Unit))×Nat×Nat×pN)) (fun x=>a3l x.1) (fun x=>a3m x.2.1 x.2.2.1 x.2.2.2.1 x.2.2.2.2.1 x.2.2.2.2.2.1 x.2.2.2.2.2.2.1 x.2.2.2.2.2.2.2.1 x.2.2.2.2.2.2.2.2.1 x.2.2.2.2.2.2.2.2.2) fun x=>a3n x.1 x.2.1 x.2.2.1 x.2.2.2.1 x.2.2.2.2.1 x.2.2.2.2.2.1 x.2.2.2.2.2.2.1 x.2.2.2.2.2.2.2.1 x.2.2.2.2.2.2.2.2.1 x.2.2.2.2.2.2.2.2.2
@[go_sem] def aTz:aEt (no_index (a3l O)) (no_index (a3m Z aA aB aC aD aE aF aG aH))=some (a3n O Z aA aB aC aD aE aF aG aH):=rV (fun⟨a0,a1,a2,a3,a4,a5,a6,a7,a8,a9⟩ ⟨b0,b1,b2,b3,b4,b5,b6,b7,b8,b9⟩ h1 h2=>by cases h1;cases h2;rfl) (O,Z,aA,aB,aC,aD,aE,aF,aG,aH)
end
@[go_sem] abbrev B6:Nat×rI:=(177,⟨[.p sJ [11,13],.v],aEt,[(0,12,.m)],[1,2,3],none⟩)
def a3o:rL Tryz.prog [vP,HW,B4,yY] (rK []):=⟨⟨w8,⟨LO,⟨CM,⟨AC,trivial⟩⟩⟩⟩,rX,rM⟩
def GK:rP Tryz.prog B6:=by
 refine rW a3o Tryz.func177 (c:=_) rfl (N:=21) pX (ts:=[]) rfl (fun _ _=>rfl) ?_;intro⟨O,Z,aA,aB,aC,aD,aE,aF,aG,aH⟩ hs hrow;dsimp only[a3l,a3m,a3n,rQ,qW,rF,rO,rS,Nat.reduceAdd] at hs hrow|-;obtain⟨rfl,rfl⟩:=hs;obtain⟨z0,e⟩: ∃z,(vH Z aA aB aC aD aE O aH)=z:=⟨_,rfl⟩
 try rw[e]
 unfold vH at e;refine qG a3o ?_;refine qY e (fun e hc1=> ?_) (fun e hc1=> ?_)
 .refine rY a3o ?_;cases e;exact pI [(0,0),(1,1),(2,2),(3,3)]
 .refine rJ ?_;cases e;exact pI [(0,0),(1,1),(2,2),(3,3)]
def y9 (O:pG) (Z:pG) (aA:pG) (aB:pH) (aC:(Int×((List r5)×Unit))) (aD:Bool) (aE:pH) (aF:pN):(List (pG×pS)):=if aD=true then (tY .str .fn ([102,108,97,103]:pG) (some 218) (tY .str .fn ([115,116,97,116,101]:pG) (some 217) (tY .str .fn ([116,97,114,103,101,116]:pG) (some 216) (tY .str .fn ([115,111,117,114,99,101]:pG) (some 215) (tY .str .fn ([102,105,101,108,100]:pG) (some 214) (tY .str .fn ([99,111,109,109,101,110,116]:pG) (some 213) ([]:List (pG×pS)))))))) else (tY .str .fn ([102,105,101,108,100]:pG) (some 214) (tY .str .fn ([99,111,109,109,101,110,116]:pG) (some 213) ([]:List (pG×pS))))
section
variable (O:pG) (Z:pG) (aA:pG) (aB:pH) (aC:Nat) (aD:(Int×((List r5)×Unit))) (aE:Bool) (aF:Nat) (aG:Nat) (aH:pH) (aI:Nat) (aJ:pN)
abbrev a3p:List qI:=[(.val .ref (some (0,0)),none)]
abbrev a3q:List qH:=[.cells u7 ((O,(Z,(aA,(aB,((some (3,aC)),aD))))),(aE,((some 4),()))) [(3,1),(6,2)],.grow 9 1 aF,.grow 149 2 aG,.row 9 .str aH aI,.map .str .bool aJ]
@[go_sem] def a3r:qQ:=⟨[aF=(aB.length),aG=(aD.2.1.length),aC=aI],[(.val .mp (some 5),none)],[.cells u7 ((O,(Z,(aA,(aB,((some (3,(aH.length))),(aD.1,(aD.2.1,()))))))),(aE,((some 4),()))) [(3,1),(6,2)],.grow 9 1 (aB.length),.grow 149 2 (aD.2.1.length),.row 9 .str aH (aH.length),.map .str .bool aJ,.map .str .fn (y9 O Z aA aB aD aE aH aJ)]⟩
def aEu:List qI→List qH→Option qQ:=rT (V:=(pG×pG×pG×pH×Nat×(Int×((List r5)×Unit))×Bool×Nat×Nat×pH×Nat×pN)) (fun x=>a3p) (fun x=>a3q x.1 x.2.1 x.2.2.1 x.2.2.2.1 x.2.2.2.2.1 x.2.2.2.2.2.1 x.2.2.2.2.2.2.1 x.2.2.2.2.2.2.2.1 x.2.2.2.2.2.2.2.2.1 x.2.2.2.2.2.2.2.2.2.1 x.2.2.2.2.2.2.2.2.2.2.1 x.2.2.2.2.2.2.2.2.2.2.2) fun x=>a3r x.1 x.2.1 x.2.2.1 x.2.2.2.1 x.2.2.2.2.1 x.2.2.2.2.2.1 x.2.2.2.2.2.2.1 x.2.2.2.2.2.2.2.1 x.2.2.2.2.2.2.2.2.1 x.2.2.2.2.2.2.2.2.2.1 x.2.2.2.2.2.2.2.2.2.2.1 x.2.2.2.2.2.2.2.2.2.2.2
@[go_sem] def aTA:aEu (no_index a3p) (no_index (a3q O Z aA aB aC aD aE aF aG aH aI aJ))=some (a3r O Z aA aB aC aD aE aF aG aH aI aJ):=rV (fun⟨a0,a1,a2,a3,a4,a5,a6,a7,a8,a9,a10,a11⟩ ⟨b0,b1,b2,b3,b4,b5,b6,b7,b8,b9,b10,b11⟩ h1 h2=>by cases h1;cases h2;rfl) (O,Z,aA,aB,aC,aD,aE,aF,aG,aH,aI,aJ)
end
@[go_sem] abbrev a3s:Nat×rI:=(179,⟨[.p u7 [3,6]],aEu,[(0,4,.r),(0,8,.m)],[0,1,2,3,4],none⟩)
def aEv:rL Tryz.prog [] (rK []):=⟨trivial,rX,rM⟩
def OA:rL Tryz.prog [GE,sM,DE,WE,WF] (rK []):=⟨⟨JF,⟨sO,⟨FD,⟨aDv,⟨aDw,trivial⟩⟩⟩⟩⟩,aEv.Γ,rM⟩
def aNF:rP Tryz.prog a3s:=by
 refine rW aEv Tryz.func179 (c:=_) rfl (N:=15) pX (ts:=[(2,none)]) rfl (fun _ _=>rfl) ?_;intro⟨O,Z,aA,aB,aC,aD,aE,aF,aG,aH,aI,aJ⟩ hs hrow;dsimp only[a3p,a3q,a3r,rQ,qW,rF,rO,rS,Nat.reduceAdd] at hs hrow|-;obtain⟨rfl,rfl,rfl⟩:=hs;obtain⟨rfl,_⟩:=hrow;obtain⟨z0,e⟩: ∃z,(y9 O Z aA aB aD aE aH aJ)=z:=⟨_,rfl⟩
 try rw[e]
 unfold y9 at e;refine qG OA ?_;refine qG OA ?_;refine qZ ?_;refine qG OA ?_;refine qY e (fun e hc1=> ?_) (fun e hc1=> ?_)
 .refine rY OA ?_;refine qS ?_;refine qG OA ?_;refine qR ?_;cases e;exact pI [(0,0),(1,1),(2,2),(3,3),(4,4),(5,37)]
 .refine rJ (qS ?_);refine qG OA ?_;refine qR ?_;cases e;exact pI [(0,0),(1,1),(2,2),(3,3),(4,4),(5,37)]
def OB (O:pG) (Z:pG):Option Unit:=if (((decide ((Z.length:Int)≤(O.length:Int)))==true)=true→0≤(0:Int)∧(0:Int)≤(Z.length:Int)∧(Z.length:Int)≤(O.length:Int)) then some (()) else none
section
variable (O:pG) (Z:pG)
abbrev a3t:List qI:=[(.val .str O,none),(.val .str Z,none)]
abbrev a3u:List qH:=[]
@[go_sem] def a3v:qQ:=⟨[((OB O Z)).isSome=true],[(.val .bool ((decide ((Z.length:Int)≤(O.length:Int)))&&(decide ((qV O (0:Int) (Z.length:Int))=Z))),none)],[]⟩
def aEw:List qI→List qH→Option qQ:=rT (V:=(pG×pG)) (fun x=>a3t x.1 x.2) (fun x=>a3u) fun x=>a3v x.1 x.2
@[go_sem] def aTB:aEw (no_index (a3t O Z)) (no_index a3u)=some (a3v O Z):=rV (fun⟨a0,a1⟩ ⟨b0,b1⟩ h1 h2=>by cases h1;cases h2;rfl) (O,Z)
end
@[go_sem] abbrev a3w:Nat×rI:=(183,⟨[.v,.v],aEw,[],[],none⟩)
def a3x:rL Tryz.prog [sM] (rK []):=⟨⟨sO,trivial⟩,rX,rM⟩
def aEx:rP Tryz.prog a3w:=by
 refine rW a3x Tryz.func183 (c:=_) rfl (N:=18) pX (ts:=[(4,none)]) rfl (fun _ _=>rfl) ?_;intro⟨O,Z⟩ hs hrow;dsimp only[a3t,a3u,a3v,rQ,qW,rF,rO,rS,Nat.reduceAdd] at hs hrow|-;have hz:=hs;obtain⟨z0,e⟩:=aVb.1 hz
 try rw[s9 e]
 clear hz hs;unfold OB at e;refine qG a3x ?_;obtain⟨hg1,e⟩:=qP e;refine qG a3x ?_ (hp:=by exact⟨id,id,id,hg1,id,id,sL⟩);refine qR ?_;cases e;exact pI []
def OC (O:pG) (Z:pG):Option (pG×Bool):=(OB O Z).bind fun aA=>if (!((decide ((Z.length:Int)≤(O.length:Int)))&&(decide ((qV O (0:Int) (Z.length:Int))=Z))))=true then some ((O,false)) else if 0≤(Z.length:Int)∧(Z.length:Int)≤(O.length:Int)∧(O.length:Int)≤(O.length:Int) then some (((qV O (Z.length:Int) (O.length:Int)),true)) else none
section
variable (O:pG) (Z:pG)
abbrev a3y:List qI:=[(.val .str O,none),(.val .str Z,none)]
abbrev a3z:List qH:=[]
@[go_sem] def a3A:qQ:=⟨[((OC O Z)).isSome=true],[(.val .str ((val (OC O Z)).1),none),(.val .bool ((val (OC O Z)).2),none)],[]⟩
def aEy:List qI→List qH→Option qQ:=rT (V:=(pG×pG)) (fun x=>a3y x.1 x.2) (fun x=>a3z) fun x=>a3A x.1 x.2
@[go_sem] def aTC:aEy (no_index (a3y O Z)) (no_index a3z)=some (a3A O Z):=rV (fun⟨a0,a1⟩ ⟨b0,b1⟩ h1 h2=>by cases h1;cases h2;rfl) (O,Z)
end
@[go_sem] abbrev aEz:Nat×rI:=(184,⟨[.v,.v],aEy,[],[],none⟩)
def RO:rL Tryz.prog [sM] (rK [a3w]):=⟨⟨sO,trivial⟩,qU aEx rX,rM⟩
def aNG:rP Tryz.prog aEz:=by
 refine rW RO Tryz.func184 (c:=_) rfl (N:=15) pX (ts:=[(4,none),(5,none)]) rfl (fun _ _=>rfl) ?_;intro⟨O,Z⟩ hs hrow;dsimp only[a3y,a3z,a3A,rQ,qW,rF,rO,rS,Nat.reduceAdd] at hs hrow|-;have hz:=hs;obtain⟨z0,e⟩:=aVb.1 hz
 try rw[s9 e]
 clear hz hs;unfold OC at e;refine qG RO ?_;refine qZ ?_;obtain⟨aA,hv1,hw1,e⟩:=rH e
 try simp only[go_sem] at hw1
 refine qG RO ?_ (hp:=by exact(rG hv1)) (h:=by simp only[go_sem,hw1];rfl);refine qY e (fun e hc1=> ?_) (fun e hc1=> ?_)
 .refine qG RO ?_;refine qR (s0 ?_);cases e;exact pI []
 .refine rJ (qS ?_);obtain⟨hg2,e⟩:=qP e;refine qG RO ?_ (hp:=by exact hg2);refine qR ?_;cases e;exact pI []
attribute [irreducible] OB OC
end
noncomputable section
def RP (O:pH) (Z:pG):Int→Option (Int⊕(Unit⊕Int)):=fun aA=>if (decide (aA<(O.length:Int)))=true then if 0≤aA∧aA<(O.length:Int) then if (decide (Z=(rC .str O aA)))=true then some (.inr (.inr (aA))) else if qJ (aA+(1:Int)) then some (.inl (aA+(1:Int))) else none else none else some (.inr (.inl ()))
def DF (O:pH) (Z:pG):Option Int:=sZ (rE (RP O Z) (0:Int)) fun _=>some ((-1:Int))
section
variable (O:pH) (Z:pG)
abbrev a3B:List qI:=[(.val (.list .str) O,none),(.val .str Z,none)]
abbrev a3C:List qH:=[]
@[go_sem] def a3D:qQ:=⟨[((DF O Z)).isSome=true],[(.val (.int .i64) (val (DF O Z)),none)],[]⟩
def aEA:List qI→List qH→Option qQ:=rT (V:=(pH×pG)) (fun x=>a3B x.1 x.2) (fun x=>a3C) fun x=>a3D x.1 x.2
@[go_sem] def aTD:aEA (no_index (a3B O Z)) (no_index a3C)=some (a3D O Z):=rV (fun⟨a0,a1⟩ ⟨b0,b1⟩ h1 h2=>by cases h1;cases h2;rfl) (O,Z)
end
@[go_sem] abbrev WX:Nat×rI:=(193,⟨[.v,.v],aEA,[],[],none⟩)
def I1:rL Tryz.prog [sM,wH] (rK []):=⟨⟨sO,⟨wX,trivial⟩⟩,rX,rM⟩
def aEB:rP Tryz.prog WX:=by
 refine rW I1 Tryz.func193 (c:=_) rfl (N:=19) pX (ts:=[(4,none)]) rfl (fun _ _=>rfl) ?_;intro⟨O,Z⟩ hs hrow;dsimp only[a3B,a3C,a3D,rQ,qW,rF,rO,rS,Nat.reduceAdd] at hs hrow|-;have hz:=hs;obtain⟨z0,d⟩:=aVb.1 hz
 try rw[s9 d]
 clear hz hs;unfold DF at d;refine qG I1 ?_;refine qZ ?_;refine qG I1 ?_;refine sA ?_;obtain⟨y1,hy1,d⟩:=wG d;refine uS 0 (fun s=> ∃v,y1= .inl v∧s=(fun _=>⟨[],[],0,19,0⟩) v) ?_ ?_
 .refine uR hy1 (fun x=>⟨[(0,(.val (.list .str) O,none)),(1,(.val .str Z,none)),(7,(.val (.int .i64) (O.length:Int),none)),(8,(.val (.int .i64) x,none))],[],0,19,0⟩) ⟨[0,1,7,8],[]⟩ pY ?_;intro aA w1 n1 e f;unfold RP at e;dsimp only at e|-;refine qG I1 ?_;refine qZ ?_;refine qY e (fun e hc1=> ?_) (fun e hc1=> ?_)
  .refine rJ (qS (qZ (sA ?_)));refine qG I1 ?_;obtain⟨hg1,e⟩:=qP e;refine qG I1 ?_ (hp:=by exact hg1);refine qY e (fun e hc2=> ?_) (fun e hc2=> ?_)
   .refine qG I1 ?_;refine qR (sF (s0 (wF (wE (sF (s0 ?_))))));cases e;cases f;dsimp only at d;cases d;exact pI []
   .refine rJ (s5 (qS ?_));obtain⟨hg2,e⟩:=qP e;refine rY I1 ?_ (hp:=by exact hg2);cases e;exact tI ⟨⟨[0,1,7,8],[]⟩,_,by rfl,f⟩
  .refine uF (uK (uH ?_));cases e;cases f;exact uG ⟨⟨[],[]⟩,_,rfl,by rfl⟩
 .rintro _ ⟨v,rfl,rfl⟩;dsimp only at d|-;refine uQ (qS ?_);refine qG I1 ?_;refine qR ?_;cases d;exact pI []
def OD (O:Int) (Z:pG) (aA:Int):Int→Option (Int⊕(Unit⊕Int)):=fun aB=>if (decide (aB<(Z.length:Int)))=true then if 0≤aB∧aB<(Z.length:Int) then if (decide ((r7 Z aB)=aA))=true then some (.inr (.inr (aB))) else if (((!decide (O=(4:Int)))==true)=true→0≤aB∧aB<(Z.length:Int)) then if ((!decide (O=(4:Int)))&&(decide ((r7 Z aB)=(92:Int))))=true then if qJ (aB+(1:Int)) then if qJ ((aB+(1:Int))+(1:Int)) then some (.inl ((aB+(1:Int))+(1:Int))) else none else none else if qJ (aB+(1:Int)) then some (.inl (aB+(1:Int))) else none else none else none else some (.inr (.inl ()))
def OE (O:Int) (Z:pG) (aA:Int):Option Int:=if (!((decide ((1:Int)≤O))&&(decide (O≤(4:Int)))))=true then some ((-1:Int)) else sZ (rE (OD O Z aA) (0:Int)) fun _=>some ((-1:Int))
def RQ (O:pG):Option Unit:=if List.length O≤9223372036854775807 then some (()) else none
section
variable (O:pG)
abbrev a3E:List qI:=[(.val .str O,none)]
abbrev a3F:List qH:=[]
@[go_sem] def a3G:qQ:=⟨[((RQ O)).isSome=true],[(.val .bool (Lib.validD O),none)],[]⟩
def aEC:List qI→List qH→Option qQ:=rT (V:=pG) (a3E) (fun x=>a3F) fun x=>a3G x
@[go_sem] def aTE:aEC (no_index (a3E O)) (no_index a3F)=some (a3G O):=rV (fun a0 b0 h1 h2=>by cases h1;cases h2;rfl) O
end
@[go_sem] abbrev aED:Nat×rI:=(198,⟨[.v],aEC,[],[],none⟩)
def a3H:rL Tryz.prog [] (rK [aDA]):=⟨trivial,qU aNm rX,rM⟩
def aNH:rP Tryz.prog aED:=by
 refine rW a3H Tryz.func198 (c:=_) rfl (N:=5) pX (ts:=[(2,none)]) rfl (fun _ _=>rfl) ?_;intro O hs hrow;dsimp only[a3E,a3F,a3G,rQ,qW,rF,rO,rS,Nat.reduceAdd] at hs hrow|-;have hz:=hs;obtain⟨z0,d⟩:=aVb.1 hz
 try rw[s9 d]
 clear hz hs;unfold RQ at d;refine qG a3H ?_;obtain⟨hg1,d⟩:=qP d;refine qG a3H ?_ (hp:=by exact hg1);refine qR ?_;cases d;exact pI []
def aEE (O:Int):Unit:=()
section
variable (O:Int)
abbrev a3I:List qI:=[(.val (.int .u8) O,none)]
abbrev a3J:List qH:=[]
@[go_sem] def a3K:qQ:=⟨[],[(.val .bool ((decide (O<(32:Int)))||(decide (O=(127:Int)))),none)],[]⟩
def aEF:List qI→List qH→Option qQ:=rT (V:=Int) (a3I) (fun x=>a3J) fun x=>a3K x
@[go_sem] def aTF:aEF (no_index (a3I O)) (no_index a3J)=some (a3K O):=rV (fun a0 b0 h1 h2=>by cases h1;cases h2;rfl) O
end
@[go_sem] abbrev aEG:Nat×rI:=(199,⟨[.v],aEF,[],[],none⟩)
def a3L:rL Tryz.prog [] (rK []):=⟨trivial,rX,rM⟩
def aNI:rP Tryz.prog aEG:=by
 refine rW a3L Tryz.func199 (c:=_) rfl (N:=9) pX (ts:=[(2,none)]) rfl (fun _ _=>rfl) ?_;intro O hs hrow;dsimp only[a3I,a3J,a3K,rQ,qW,rF,rO,rS,Nat.reduceAdd] at hs hrow|-;obtain⟨z0,d⟩: ∃z,(aEE O)=z:=⟨_,rfl⟩
 try rw[d]
 unfold aEE at d;refine qG a3L ?_;refine qG a3L ?_ (hp:=by exact⟨id,u6⟩);refine qR ?_;cases d;exact pI []
def RR (O:Int) (Z:Int):Option Unit:=if 0≤(IntKind.wrap .i64 O)∧(IntKind.wrap .i64 O)<256∧a1E (16:Int) then if qJ (Z- ((xG (IntKind.wrap .i64 O) (16:Int)).length:Int)) then if 0≤(Z- ((xG (IntKind.wrap .i64 O) (16:Int)).length:Int))∧(Z- ((xG (IntKind.wrap .i64 O) (16:Int)).length:Int))≤140737488355328∧(([48]:pG).length:Int)*(Z- ((xG (IntKind.wrap .i64 O) (16:Int)).length:Int))≤140737488355328 then if (((LL ([48]:pG) (Z- ((xG (IntKind.wrap .i64 O) (16:Int)).length:Int)))++(xG (IntKind.wrap .i64 O) (16:Int))).length:Int)≤9223372036854775807 then some (()) else none else none else none else none
section
variable (O:Int) (Z:Int)
abbrev a3M:List qI:=[(.val (.int .u8) O,none),(.val (.int .i64) Z,none)]
abbrev a3N:List qH:=[]
@[go_sem] def a3O:qQ:=⟨[((RR O Z)).isSome=true],[(.val .str ((LL ([48]:pG) (Z- ((xG (IntKind.wrap .i64 O) (16:Int)).length:Int)))++(xG (IntKind.wrap .i64 O) (16:Int))),none)],[]⟩
def aEH:List qI→List qH→Option qQ:=rT (V:=(Int×Int)) (fun x=>a3M x.1 x.2) (fun x=>a3N) fun x=>a3O x.1 x.2
@[go_sem] def aTG:aEH (no_index (a3M O Z)) (no_index a3N)=some (a3O O Z):=rV (fun⟨a0,a1⟩ ⟨b0,b1⟩ h1 h2=>by cases h1;cases h2;rfl) (O,Z)
end
@[go_sem] abbrev aEI:Nat×rI:=(201,⟨[.v,.v],aEH,[],[],none⟩)
def WY:rL Tryz.prog [a1I,EB,sM] (rK [aDD,aDE]):=⟨⟨aNk,⟨GF,⟨sO,trivial⟩⟩⟩,qU aNp (qU aNq rX),rM⟩
def aNJ:rP Tryz.prog aEI:=by
 refine rW WY Tryz.func201 (c:=_) rfl (N:=16) pX (ts:=[(4,none)]) rfl (fun _ _=>rfl) ?_;intro⟨O,Z⟩ hs hrow;dsimp only[a3M,a3N,a3O,rQ,qW,rF,rO,rS,Nat.reduceAdd] at hs hrow|-;have hz:=hs;obtain⟨z0,d⟩:=aVb.1 hz
 try rw[s9 d]
 clear hz hs;unfold RR at d;refine qG WY ?_;obtain⟨hg1,d⟩:=qP d;refine qG WY ?_ (hp:=by exact hg1);obtain⟨hg2,d⟩:=qP d;obtain⟨hg3,d⟩:=qP d;obtain⟨hg4,d⟩:=qP d;refine qG WY ?_ (hp:=by exact⟨hg2,hg3,hg4⟩);refine qR ?_;cases d;exact pI []
def WZ (O:Int) (Z:pG):Int→Option (Int⊕(Unit⊕Bool)):=fun aA=>if (decide (aA<(Z.length:Int)))=true then if 0≤aA∧aA<(Z.length:Int) then if (decide ((r7 Z aA)=O))=true then some (.inr (.inr (true))) else if qJ (aA+(1:Int)) then some (.inl (aA+(1:Int))) else none else none else some (.inr (.inl ()))
def FE (O:Int) (Z:pG):Option Bool:=sZ (rE (WZ O Z) (0:Int)) fun _=>some (false)
def a3P (O:Int):Option Unit:=if 0≤(IntKind.wrap .i64 (Int.tdiv O (16:Int)))∧(IntKind.wrap .i64 (Int.tdiv O (16:Int)))<(([48,49,50,51,52,53,54,55,56,57,97,98,99,100,101,102]:pG).length:Int) then if 0≤(Int.tmod O (16:Int))∧(Int.tmod O (16:Int))<(([48,49,50,51,52,53,54,55,56,57,97,98,99,100,101,102]:pG).length:Int) then some (()) else none else none
attribute [irreducible] DF OE RQ RR FE a3P
end
noncomputable section
def aEJ (O:Int):Unit:=()
section
variable (O:Int)
abbrev a3Q:List qI:=[(.val (.int .i64) O,none)]
abbrev a3R:List qH:=[]
@[go_sem] def a3S:qQ:=⟨[],[(.val .bool (((decide ((0:Int)≤O))&&(decide (O≤(1114111:Int))))&&((decide (O<(55296:Int)))||(decide ((57343:Int)<O)))),none)],[]⟩
def aEK:List qI→List qH→Option qQ:=rT (V:=Int) (a3Q) (fun x=>a3R) fun x=>a3S x
@[go_sem] def aTH:aEK (no_index (a3Q O)) (no_index a3R)=some (a3S O):=rV (fun a0 b0 h1 h2=>by cases h1;cases h2;rfl) O
end
@[go_sem] abbrev a3T:Nat×rI:=(205,⟨[.v],aEK,[],[],none⟩)
def a3U:rL Tryz.prog [] (rK []):=⟨trivial,rX,rM⟩
def aEL:rP Tryz.prog a3T:=by
 refine rW a3U Tryz.func205 (c:=_) rfl (N:=17) pX (ts:=[(2,none)]) rfl (fun _ _=>rfl) ?_;intro O hs hrow;dsimp only[a3Q,a3R,a3S,rQ,qW,rF,rO,rS,Nat.reduceAdd] at hs hrow|-;obtain⟨z0,d⟩: ∃z,(aEJ O)=z:=⟨_,rfl⟩
 try rw[d]
 unfold aEJ at d;refine qG a3U ?_;refine qG a3U ?_ (hp:=by exact⟨id,sL,id,id,id,id,fun hG e=>HS hG e,sL⟩);refine qR ?_;cases d;exact pI []
def CO (O:Int):Option pG:=if (decide (O<(128:Int)))=true then some ((tE ([(IntKind.wrap .u8 O)]:pP))) else if (decide (O<(2048:Int)))=true then if qJ ((192:Int)+(IntKind.wrap .i64 (Int.tdiv O (64:Int)))) then if qJ ((128:Int)+(Int.tmod O (64:Int))) then some ((tE ([(IntKind.wrap .u8 ((192:Int)+(IntKind.wrap .i64 (Int.tdiv O (64:Int))))),(IntKind.wrap .u8 ((128:Int)+(Int.tmod O (64:Int))))]:pP))) else none else none else if (decide (O<(65536:Int)))=true then if qJ ((224:Int)+(IntKind.wrap .i64 (Int.tdiv O (4096:Int)))) then if qJ ((128:Int)+(Int.tmod (IntKind.wrap .i64 (Int.tdiv O (64:Int))) (64:Int))) then if qJ ((128:Int)+(Int.tmod O (64:Int))) then some ((tE ([(IntKind.wrap .u8 ((224:Int)+(IntKind.wrap .i64 (Int.tdiv O (4096:Int))))),(IntKind.wrap .u8 ((128:Int)+(Int.tmod (IntKind.wrap .i64 (Int.tdiv O (64:Int))) (64:Int)))),(IntKind.wrap .u8 ((128:Int)+(Int.tmod O (64:Int))))]:pP))) else none else none else none else if qJ ((240:Int)+(IntKind.wrap .i64 (Int.tdiv O (262144:Int)))) then if qJ ((128:Int)+(Int.tmod (IntKind.wrap .i64 (Int.tdiv O (4096:Int))) (64:Int))) then if qJ ((128:Int)+(Int.tmod (IntKind.wrap .i64 (Int.tdiv O (64:Int))) (64:Int))) then if qJ ((128:Int)+(Int.tmod O (64:Int))) then some ((tE ([(IntKind.wrap .u8 ((240:Int)+(IntKind.wrap .i64 (Int.tdiv O (262144:Int))))),(IntKind.wrap .u8 ((128:Int)+(Int.tmod (IntKind.wrap .i64 (Int.tdiv O (4096:Int))) (64:Int)))),(IntKind.wrap .u8 ((128:Int)+(Int.tmod (IntKind.wrap .i64 (Int.tdiv O (64:Int))) (64:Int)))),(IntKind.wrap .u8 ((128:Int)+(Int.tmod O (64:Int))))]:pP))) else none else none else none else none
section
variable (O:Int)
abbrev a3V:List qI:=[(.val (.int .i64) O,none)]
abbrev a3W:List qH:=[]
@[go_sem] def a3X:qQ:=⟨[((CO O)).isSome=true],[(.val .str (val (CO O)),none)],[]⟩
def aEM:List qI→List qH→Option qQ:=rT (V:=Int) (a3V) (fun x=>a3W) fun x=>a3X x
@[go_sem] def aTI:aEM (no_index (a3V O)) (no_index a3W)=some (a3X O):=rV (fun a0 b0 h1 h2=>by cases h1;cases h2;rfl) O
end
@[go_sem] abbrev a3Y:Nat×rI:=(206,⟨[.v],aEM,[],[],none⟩)
def I2:rL Tryz.prog [vP,EB,sM,GD] (rK []):=⟨⟨w8,⟨GF,⟨sO,⟨JE,trivial⟩⟩⟩⟩,rX,rM⟩
def aEN:rP Tryz.prog a3Y:=by
 refine rW I2 Tryz.func206 (c:=_) rfl (N:=61) pX (ts:=[(2,none)]) rfl (fun _ _=>rfl) ?_;intro O hs hrow;dsimp only[a3V,a3W,a3X,rQ,qW,rF,rO,rS,Nat.reduceAdd] at hs hrow|-;have hz:=hs;obtain⟨z0,d⟩:=aVb.1 hz
 try rw[s9 d]
 clear hz hs;unfold CO at d;refine qG I2 ?_;refine qZ (sA ?_);refine qG I2 ?_;refine qY d (fun d hc1=> ?_) (fun d hc1=> ?_)
 .refine qG I2 ?_;refine qR (sF (s0 ?_));cases d;exact pI []
 .refine qG I2 ?_;refine qY d (fun d hc2=> ?_) (fun d hc2=> ?_)
  .obtain⟨hg1,d⟩:=qP d;obtain⟨hg2,d⟩:=qP d;refine qG I2 ?_ (hp:=by exact⟨show (64:Int)≠0 from by decide,hg1,show (64:Int)≠0 from by decide,hg2⟩);refine qR (sF (s0 ?_));cases d;exact pI []
  .refine qG I2 ?_;refine qY d (fun d hc3=> ?_) (fun d hc3=> ?_)
   .obtain⟨hg3,d⟩:=qP d;obtain⟨hg4,d⟩:=qP d;obtain⟨hg5,d⟩:=qP d;refine qG I2 ?_ (hp:=by exact⟨show (4096:Int)≠0 from by decide,hg3,show (64:Int)≠0 from by decide,show (64:Int)≠0 from by decide,hg4,show (64:Int)≠0 from by decide,hg5⟩);refine qR (sF (s0 ?_));cases d;exact pI []
   .refine rJ (s5 (qS ?_));obtain⟨hg6,d⟩:=qP d;obtain⟨hg7,d⟩:=qP d;obtain⟨hg8,d⟩:=qP d;obtain⟨hg9,d⟩:=qP d;refine qG I2 ?_ (hp:=by exact⟨show (262144:Int)≠0 from by decide,hg6,show (4096:Int)≠0 from by decide,show (64:Int)≠0 from by decide,hg7,show (64:Int)≠0 from by decide,show (64:Int)≠0 from by decide,hg8,show (64:Int)≠0 from by decide,hg9⟩);refine qR ?_;cases d;exact pI []
def FF (O:pG) (Z:Int):(Int×Int)→Option ((Int×Int)⊕(Int⊕(Int×Int))):=fun(aA,aB)=>if (decide (aB<Z))=true then if 0≤aB∧aB<(O.length:Int) then if (((decide ((r7 O aB)<(128:Int)))==false)=true→0≤aB∧aB<(O.length:Int)) then if ((decide ((r7 O aB)<(128:Int)))||(decide ((191:Int)<(r7 O aB))))=true then some (.inr (.inr (((65533:Int),(1:Int))))) else if qJ ((64:Int)*aA) then if 0≤aB∧aB<(O.length:Int) then if qJ (((64:Int)*aA)+(IntKind.wrap .i64 (r7 O aB))) then if qJ ((((64:Int)*aA)+(IntKind.wrap .i64 (r7 O aB)))- (128:Int)) then if qJ (aB+(1:Int)) then some (.inl (((((64:Int)*aA)+(IntKind.wrap .i64 (r7 O aB)))- (128:Int)),(aB+(1:Int)))) else none else none else none else none else none else none else none else some (.inr (.inl aA))
def JM (O:pG):Option (Int×Int):=if 0≤(0:Int)∧(0:Int)<(O.length:Int) then sZ (σ:=(Int×Int)) (if (decide ((IntKind.wrap .i64 (r7 O (0:Int)))<(128:Int)))=true then some (.inr (((IntKind.wrap .i64 (r7 O (0:Int))),(1:Int)))) else if ((decide ((192:Int)≤(IntKind.wrap .i64 (r7 O (0:Int)))))&&(decide ((IntKind.wrap .i64 (r7 O (0:Int)))<(224:Int))))=true then if qJ ((IntKind.wrap .i64 (r7 O (0:Int)))- (192:Int)) then some (.inl (((IntKind.wrap .i64 (r7 O (0:Int)))- (192:Int)),(2:Int))) else none else if ((decide ((224:Int)≤(IntKind.wrap .i64 (r7 O (0:Int)))))&&(decide ((IntKind.wrap .i64 (r7 O (0:Int)))<(240:Int))))=true then if qJ ((IntKind.wrap .i64 (r7 O (0:Int)))- (224:Int)) then some (.inl (((IntKind.wrap .i64 (r7 O (0:Int)))- (224:Int)),(3:Int))) else none else if ((decide ((240:Int)≤(IntKind.wrap .i64 (r7 O (0:Int)))))&&(decide ((IntKind.wrap .i64 (r7 O (0:Int)))<(248:Int))))=true then if qJ ((IntKind.wrap .i64 (r7 O (0:Int)))- (240:Int)) then some (.inl (((IntKind.wrap .i64 (r7 O (0:Int)))- (240:Int)),(4:Int))) else none else some (.inr (((65533:Int),(1:Int)))) ) fun(Z,aA)=>if (decide ((O.length:Int)<aA))=true then some (((65533:Int),(1:Int))) else sZ (rE (FF O aA) (Z,(1:Int))) fun aB=>if (((!(((decide ((0:Int)≤aB))&&(decide (aB≤(1114111:Int))))&&((decide (aB<(55296:Int)))||(decide ((57343:Int)<aB)))))==false)=true→((CO aB)).isSome=true) then if (((!(((decide ((0:Int)≤aB))&&(decide (aB≤(1114111:Int))))&&((decide (aB<(55296:Int)))||(decide ((57343:Int)<aB)))))==false)=true→0≤(0:Int)∧(0:Int)≤aA∧aA≤(O.length:Int)) then if ((!(((decide ((0:Int)≤aB))&&(decide (aB≤(1114111:Int))))&&((decide (aB<(55296:Int)))||(decide ((57343:Int)<aB)))))||(!decide ((val (CO aB))=(qV O (0:Int) aA))))=true then some (((65533:Int),(1:Int))) else some ((aB,aA)) else none else none else none
section
variable (O:pG)
abbrev a3Z:List qI:=[(.val .str O,none)]
abbrev a30:List qH:=[]
@[go_sem] def a32:qQ:=⟨[((JM O)).isSome=true],[(.val (.int .i64) ((val (JM O)).1),none),(.val (.int .i64) ((val (JM O)).2),none)],[]⟩
def aEO:List qI→List qH→Option qQ:=rT (V:=pG) (a3Z) (fun x=>a30) fun x=>a32 x
@[go_sem] def aTJ:aEO (no_index (a3Z O)) (no_index a30)=some (a32 O):=rV (fun a0 b0 h1 h2=>by cases h1;cases h2;rfl) O
end
@[go_sem] abbrev aEP:Nat×rI:=(207,⟨[.v],aEO,[],[],none⟩)
def xI:rL Tryz.prog [vP,EB,sM] (rK [a3T,a3Y]):=⟨⟨w8,⟨GF,⟨sO,trivial⟩⟩⟩,qU aEL (qU aEN rX),rM⟩
def aNK:rP Tryz.prog aEP:=by
 refine rW xI Tryz.func207 (c:=_) rfl (N:=81) pX (ts:=[(2,none),(3,none)]) rfl (fun _ _=>rfl) ?_;intro O hs hrow;dsimp only[a3Z,a30,a32,rQ,qW,rF,rO,rS,Nat.reduceAdd] at hs hrow|-;have hz:=hs;obtain⟨z0,d⟩:=aVb.1 hz
 try rw[s9 d]
 clear hz hs;unfold JM at d;refine qG xI ?_;obtain⟨hg1,d⟩:=qP d;refine qG xI ?_ (hp:=by exact hg1);refine qZ ?_;obtain⟨y1,f,d⟩:=wG d;refine DA (fun s=> ∃v,y1= .inl v∧s=(fun x=>⟨[(0,(.val .str O,none)),(4,(.val (.int .i64) x.1,none)),(5,(.val (.int .i64) x.2,none))],[],0,81,0⟩) v) ?_ ?_
 .refine sA ?_;refine qG xI ?_;refine qY f (fun f hc1=> ?_) (fun f hc1=> ?_)
  .refine qG xI ?_;refine qR (sF (aCY (s0 ?_)));cases f;dsimp only at d;cases d;exact pI []
  .refine qG xI ?_ (hp:=by exact⟨id,sL⟩);refine qY f (fun f hc2=> ?_) (fun f hc2=> ?_)
   .obtain⟨hg2,f⟩:=qP f;refine rY xI ?_ (hp:=by exact hg2);refine s5 ?_;cases f;exact vO ⟨⟨[0,4,5],[]⟩,_,rfl,by rfl⟩
   .refine qG xI ?_ (hp:=by exact⟨id,sL⟩);refine qY f (fun f hc3=> ?_) (fun f hc3=> ?_)
    .obtain⟨hg3,f⟩:=qP f;refine rY xI ?_ (hp:=by exact hg3);refine s5 ?_;cases f;exact vO ⟨⟨[0,4,5],[]⟩,_,rfl,by rfl⟩
    .refine qG xI ?_ (hp:=by exact⟨id,sL⟩);refine qY f (fun f hc4=> ?_) (fun f hc4=> ?_)
     .obtain⟨hg4,f⟩:=qP f;refine rY xI ?_ (hp:=by exact hg4);refine s5 ?_;cases f;exact vO ⟨⟨[0,4,5],[]⟩,_,rfl,by rfl⟩
     .refine qG xI ?_;refine qR (sF (aCY (s0 ?_)));cases f;dsimp only at d;cases d;exact pI []
 .rintro _ ⟨v,rfl,rfl⟩;obtain⟨Z,aA⟩:=v;dsimp only at d|-;refine qS (qZ ?_);refine qG xI ?_;refine qY d (fun d hc5=> ?_) (fun d hc5=> ?_)
  .refine qG xI ?_;refine qR (s0 ?_);cases d;exact pI []
  .refine rJ (qS (qZ ?_));refine qG xI ?_;refine sA ?_;obtain⟨y1,hy1,d⟩:=wG d;refine uS 1 (fun s=> ∃v,y1= .inl v∧s=(fun x=>⟨[(0,(.val .str O,none)),(4,(.val (.int .i64) x,none)),(5,(.val (.int .i64) aA,none))],[],0,81,0⟩) v) ?_ ?_
   .refine uR hy1 (fun x=>⟨[(0,(.val .str O,none)),(4,(.val (.int .i64) x.1,none)),(5,(.val (.int .i64) aA,none)),(6,(.val (.int .i64) x.2,none))],[],0,81,0⟩) ⟨[0,4,5,6],[]⟩ pY ?_;intro x1 w1 n1 f g;obtain⟨aB,aC⟩:=x1;unfold FF at f;dsimp only at f|-;refine qZ ?_;refine qG xI ?_;refine qY f (fun f hc6=> ?_) (fun f hc6=> ?_)
    .refine rJ (qS (qZ (sA (qZ ?_))));obtain⟨hg5,f⟩:=qP f;obtain⟨hg6,f⟩:=qP f;refine qG xI ?_ (hp:=by exact⟨hg5,id,id,hg6,id,u6⟩);refine qY f (fun f hc7=> ?_) (fun f hc7=> ?_)
     .refine qG xI ?_;refine qR (s0 (sF (s0 (wF (wE (sF (s0 ?_)))))));cases f;cases g;dsimp only at d;cases d;exact pI []
     .refine rJ (qS ?_);obtain⟨hg7,f⟩:=qP f;obtain⟨hg8,f⟩:=qP f;obtain⟨hg9,f⟩:=qP f;obtain⟨hg10,f⟩:=qP f;refine rY xI ?_ (hp:=by exact⟨hg7,hg8,hg9,hg10⟩);refine s5 (qS ?_);obtain⟨hg11,f⟩:=qP f;refine rY xI ?_ (hp:=by exact hg11);cases f;exact tI ⟨⟨[0,4,5,6],[]⟩,_,by rfl,g⟩
    .refine uF (uK (uH ?_));cases f;cases g;exact uG ⟨⟨[0,4,5],[]⟩,_,rfl,by rfl⟩
   .rintro _ ⟨aD,rfl,rfl⟩;dsimp only at d|-;refine uQ (qS (qZ ?_));obtain⟨hg12,d⟩:=qP d;obtain⟨hg13,d⟩:=qP d;refine xE xI ?_ (hp:=by exact⟨id,hg12,id,id,hg13,id,id,u6⟩);refine qY d (fun d hc8=> ?_) (fun d hc8=> ?_)
    .refine qG xI ?_;refine qR (s0 ?_);cases d;exact pI []
    .refine rJ (qS ?_);refine qG xI ?_;refine qR ?_;cases d;exact pI []
def LQ (O:Int) (Z:Int):Bool:=if (decide (O=(1:Int)))=true then (decide (Z=(10:Int))) else sH (σ:=Bool) (if (decide (O=(2:Int)))=true then (decide (O=(2:Int))) else (decide (O=(3:Int))) ) fun aA=>if aA=true then ((decide (Z=(10:Int)))||(decide (Z=(34:Int)))) else ((decide (Z=(60:Int)))||(decide (Z=(34:Int))))
section
variable (O:Int) (Z:Int)
abbrev a33:List qI:=[(.val (.int .i64) O,none),(.val (.int .u8) Z,none)]
abbrev a34:List qH:=[]
@[go_sem] def a35:qQ:=⟨[],[(.val .bool (LQ O Z),none)],[]⟩
def aEQ:List qI→List qH→Option qQ:=rT (V:=(Int×Int)) (fun x=>a33 x.1 x.2) (fun x=>a34) fun x=>a35 x.1 x.2
@[go_sem] def aTK:aEQ (no_index (a33 O Z)) (no_index a34)=some (a35 O Z):=rV (fun⟨a0,a1⟩ ⟨b0,b1⟩ h1 h2=>by cases h1;cases h2;rfl) (O,Z)
end
@[go_sem] abbrev aER:Nat×rI:=(211,⟨[.v,.v],aEQ,[],[],none⟩)
def I3:rL Tryz.prog [] (rK []):=⟨trivial,rX,rM⟩
def aNL:rP Tryz.prog aER:=by
 refine rW I3 Tryz.func211 (c:=_) rfl (N:=25) pX (ts:=[(4,none)]) rfl (fun _ _=>rfl) ?_;intro⟨O,Z⟩ hs hrow;dsimp only[a33,a34,a35,rQ,qW,rF,rO,rS,Nat.reduceAdd] at hs hrow|-;obtain⟨z0,d⟩: ∃z,(LQ O Z)=z:=⟨_,rfl⟩
 try rw[d]
 unfold LQ at d;refine qG I3 ?_;refine qZ ?_;refine qG I3 ?_;refine sA ?_;refine qG I3 ?_;refine qY d (fun d hc1=> ?_) (fun d hc1=> ?_)
 .refine qG I3 ?_;refine qR (sF (s0 ?_));cases d;exact pI []
 .refine qZ ?_;refine qG I3 ?_;obtain⟨aA,f,d⟩:=xD d;refine DA (fun s=>s=(fun x=>⟨[(1,(.val (.int .u8) Z,none)),(10,(.val .bool x,none))],[],0,25,0⟩) aA) ?_ ?_
  .refine qY f (fun f hc2=> ?_) (fun f hc2=> ?_)
   .refine rJ ?_;cases f;exact vO ⟨⟨[1,10],[]⟩,by rfl⟩
   .refine rY I3 ?_;cases f;exact vO ⟨⟨[1,10],[]⟩,by rfl⟩
  .rintro _ rfl;dsimp only at d|-;refine qS ?_;refine qY d (fun d hc3=> ?_) (fun d hc3=> ?_)
   .refine qG I3 ?_ (hp:=by exact⟨id,u6⟩);refine qR (sF (s0 ?_));cases d;exact pI []
   .refine rJ (s5 (qS ?_));refine qG I3 ?_ (hp:=by exact⟨id,u6⟩);refine qR ?_;cases d;exact pI []
def LR (O:(pP×Unit)) (Z:Int):Option Unit:=if (O.1.length+([Z]:pP).length)*1≤140737488355328 then some (()) else none
section
variable (O:Int) (Z:(pP×Unit)) (aA:Nat)
abbrev a36:List qI:=[(.val .ref (some (0,0)),none),(.val (.int .u8) O,none)]
abbrev a38:List qH:=[.cells y7 ((some (0,0)),Z) [(1,1)],.grow 5 1 aA]
@[go_sem] def a39:qQ:=⟨[aA=(Z.1.length),((LR Z O)).isSome=true],[(.any,none)],[.cells y7 ((some (0,0)),((Z.1++([O]:pP)),())) [(1,1)],.grow 5 1 ((Z.1++([O]:pP)).length)]⟩
def aES:List qI→List qH→Option qQ:=rT (V:=(Int×(pP×Unit)×Nat)) (fun x=>a36 x.1) (fun x=>a38 x.2.1 x.2.2) fun x=>a39 x.1 x.2.1 x.2.2
@[go_sem] def aTL:aES (no_index (a36 O)) (no_index (a38 Z aA))=some (a39 O Z aA):=rV (fun⟨a0,a1,a2⟩ ⟨b0,b1,b2⟩ h1 h2=>by cases h1;cases h2;rfl) (O,Z,aA)
end
@[go_sem] abbrev aET:Nat×rI:=(212,⟨[.p y7 [1],.v],aES,[],[],none⟩)
def RS:rL Tryz.prog [GD,HV] (rK [WK]):=⟨⟨JE,⟨LN,trivial⟩⟩,qU a1L rX,rM⟩
def aNM:rP Tryz.prog aET:=by
 refine rW RS Tryz.func212 (c:=_) rfl (N:=17) pX (ts:=[(4,none)]) rfl (fun _ _=>rfl) ?_;intro⟨O,Z,aA⟩ hs hrow;dsimp only[a36,a38,a39,rQ,qW,rF,rO,rS,Nat.reduceAdd] at hs hrow|-;obtain⟨rfl,hz⟩:=hs;obtain⟨z0,d⟩:=aVb.1 hz
 try rw[s9 d]
 clear hz;unfold LR at d;refine qG RS ?_;refine qG RS ?_ (hp:=by first|rfl|trivial)
 obtain⟨hg1,d⟩:=qP d;refine qG RS ?_ (hp:=by exact⟨pW,hg1⟩)
 refine qG RS ?_;refine qR ?_;cases d;exact pI [(0,0),(1,1)]
attribute [irreducible] CO JM LR
end
noncomputable section
def aEU (O:r5) (Z:pG):Unit:=()
section
variable (O:r5) (Z:pG)
abbrev a4a:List qI:=[(.val (.pair .str (.pair .str .unit)) O,none),(.val .ref (some (0,0)),none)]
abbrev a4b:List qH:=[.cells .str Z []]
@[go_sem] def a4c:qQ:=⟨[],[(.val .bool (!(Op.bytesLess O.1 Z||decide (O.1=Z))),none)],[.cells .str Z []]⟩
def aEV:List qI→List qH→Option qQ:=rT (V:=(r5×pG)) (fun x=>a4a x.1) (fun x=>a4b x.2) fun x=>a4c x.1 x.2
@[go_sem] def aTM:aEV (no_index (a4a O)) (no_index (a4b Z))=some (a4c O Z):=rV (fun⟨a0,a1⟩ ⟨b0,b1⟩ h1 h2=>by cases h1;cases h2;rfl) (O,Z)
end
@[go_sem] abbrev aEW:Nat×rI:=(239,⟨[.v,.p .str []],aEV,[],[0],none⟩)
def a4d:rL Tryz.prog [sM,DD] (rK []):=⟨⟨sO,⟨FC,trivial⟩⟩,rX,rM⟩
def aNN:rP Tryz.prog aEW:=by
 refine rW a4d Tryz.func239 (c:=_) rfl (N:=8) pX (ts:=[(3,none)]) rfl (fun _ _=>rfl) ?_;intro⟨O,Z⟩ hs hrow;dsimp only[a4a,a4b,a4c,rQ,qW,rF,rO,rS,Nat.reduceAdd] at hs hrow|-;obtain⟨z0,d⟩: ∃z,(aEU O Z)=z:=⟨_,rfl⟩
 try rw[d]
 unfold aEU at d;refine qG a4d ?_;refine qG a4d ?_;refine qR ?_;cases d;exact pI [(0,0)]
def OF (O:pG) (Z:Int):(Int×Int)→Option ((Int×Int)⊕(Int⊕(Int×Bool))):=fun(aA,aB)=>if (decide (aB<(O.length:Int)))=true then if 0≤aB∧aB<(O.length:Int) then if 0≤aB∧aB<(O.length:Int) then if (((decide ((65:Int)≤(r7 O aB)))==true)=true→0≤aB∧aB<(O.length:Int)) then sB (σ:=Int) (if ((decide ((65:Int)≤(r7 O aB)))&&(decide ((r7 O aB)≤(70:Int))))=true then if 0≤aB∧aB<(O.length:Int) then if qJ ((IntKind.wrap .i64 (IntKind.wrap .u8 ((r7 O aB)- (65:Int))))+(10:Int)) then some (((IntKind.wrap .i64 (IntKind.wrap .u8 ((r7 O aB)- (65:Int))))+(10:Int))) else none else none else some ((uY ([48,49,50,51,52,53,54,55,56,57,97,98,99,100,101,102]:pG) (r7 O aB))) ) fun aC=>if ((decide (aC<(0:Int)))||(decide (Z≤aC)))=true then some (.inr (.inr (((0:Int),false)))) else if qJ (aA*Z) then if qJ ((aA*Z)+aC) then if qJ (aB+(1:Int)) then some (.inl (((aA*Z)+aC),(aB+(1:Int)))) else none else none else none else none else none else none else some (.inr (.inl aA))
def GL (O:pG) (Z:Int):Option (Int×Bool):=sZ (rE (OF O Z) ((0:Int),(0:Int))) fun aA=>some ((aA,(!decide (O=([]:pG)))))
section
variable (O:pG) (Z:Int)
abbrev a4e:List qI:=[(.val .str O,none),(.val (.int .i64) Z,none)]
abbrev a4f:List qH:=[]
@[go_sem] def a4g:qQ:=⟨[((GL O Z)).isSome=true],[(.val (.int .i64) ((val (GL O Z)).1),none),(.val .bool ((val (GL O Z)).2),none)],[]⟩
def aEX:List qI→List qH→Option qQ:=rT (V:=(pG×Int)) (fun x=>a4e x.1 x.2) (fun x=>a4f) fun x=>a4g x.1 x.2
@[go_sem] def aTN:aEX (no_index (a4e O Z)) (no_index a4f)=some (a4g O Z):=rV (fun⟨a0,a1⟩ ⟨b0,b1⟩ h1 h2=>by cases h1;cases h2;rfl) (O,Z)
end
@[go_sem] abbrev a4h:Nat×rI:=(251,⟨[.v,.v],aEX,[],[],none⟩)
def CP:rL Tryz.prog [vP,EB,sM] (rK [O4]):=⟨⟨w8,⟨GF,⟨sO,trivial⟩⟩⟩,qU RH rX,rM⟩
def aEY:rP Tryz.prog a4h:=by
 refine rW CP Tryz.func251 (c:=_) rfl (N:=50) pX (ts:=[(4,none),(5,none)]) rfl (fun _ _=>rfl) ?_;intro⟨O,Z⟩ hs hrow;dsimp only[a4e,a4f,a4g,rQ,qW,rF,rO,rS,Nat.reduceAdd] at hs hrow|-;have hz:=hs;obtain⟨z0,d⟩:=aVb.1 hz
 try rw[s9 d]
 clear hz hs;unfold GL at d;refine qG CP ?_;refine qG CP ?_;refine qZ ?_;refine qG CP ?_;refine sA ?_;obtain⟨y1,hy1,d⟩:=wG d;refine uS 0 (fun s=> ∃v,y1= .inl v∧s=(fun x=>⟨[(0,(.val .str O,none)),(6,(.val (.int .i64) x,none))],[],0,50,0⟩) v) ?_ ?_
 .refine uR hy1 (fun x=>⟨[(0,(.val .str O,none)),(1,(.val (.int .i64) Z,none)),(6,(.val (.int .i64) x.1,none)),(10,(.val (.int .i64) (O.length:Int),none)),(11,(.val (.int .i64) x.2,none))],[],0,50,0⟩) ⟨[0,1,6,10,11],[]⟩ pY ?_;intro x1 w1 n1 f i;obtain⟨aA,aB⟩:=x1;unfold OF at f;dsimp only at f|-;refine qG CP ?_;refine qZ ?_;refine qY f (fun f hc1=> ?_) (fun f hc1=> ?_)
  .refine rJ (qS (qZ (sA ?_)));refine qG CP ?_;obtain⟨hg1,f⟩:=qP f;refine qG CP ?_ (hp:=by exact hg1);refine qZ ?_;obtain⟨hg2,f⟩:=qP f;obtain⟨hg3,f⟩:=qP f;refine qG CP ?_ (hp:=by exact⟨hg2,id,id,hg3,id,sL⟩);obtain⟨aC,g,f⟩:=qK f;refine DA (fun s=>s=(fun x=>⟨[(0,(.val .str O,none)),(1,(.val (.int .i64) Z,none)),(6,(.val (.int .i64) aA,none)),(8,(.val (.int .i64) x,none)),(10,(.val (.int .i64) (O.length:Int),none)),(11,(.val (.int .i64) aB,none))],[],0,50,0⟩) aC) ?_ ?_
   .refine qY g (fun g hc2=> ?_) (fun g hc2=> ?_)
    .obtain⟨hg4,g⟩:=qP g;obtain⟨hg5,g⟩:=qP g;refine rY CP ?_ (hp:=by exact⟨hg4,hg5⟩);cases g;exact vO ⟨⟨[0,1,6,8,10,11],[]⟩,by rfl⟩
    .refine rJ ?_;cases g;exact vO ⟨⟨[0,1,6,8,10,11],[]⟩,by rfl⟩
   .rintro _ rfl;dsimp only at f|-;refine qS (qZ ?_);refine qG CP ?_ (hp:=by exact⟨id,id,u6⟩);refine qY f (fun f hc3=> ?_) (fun f hc3=> ?_)
    .refine qG CP ?_;refine qR (s0 (sF (s0 (wF (wE (sF (s0 ?_)))))));cases f;cases i;dsimp only at d;cases d;exact pI []
    .refine rJ (qS ?_);obtain⟨hg6,f⟩:=qP f;obtain⟨hg7,f⟩:=qP f;refine rY CP ?_ (hp:=by exact⟨hg6,hg7⟩);refine s5 (qS ?_);obtain⟨hg8,f⟩:=qP f;refine rY CP ?_ (hp:=by exact hg8);cases f;exact tI ⟨⟨[0,1,6,10,11],[]⟩,_,by rfl,i⟩
  .refine uF (uK (uH ?_));cases f;cases i;exact uG ⟨⟨[0,6],[]⟩,_,rfl,by rfl⟩
 .rintro _ ⟨aD,rfl,rfl⟩;dsimp only at d|-;refine uQ (qS ?_);refine qG CP ?_;refine qR ?_;cases d;exact pI []
def X0 (O:pH) (Z:pG):Int→Option (Int⊕(Unit⊕Bool)):=fun aA=>if (decide (aA<(O.length:Int)))=true then if 0≤aA∧aA<(O.length:Int) then if (decide ((rC .str O aA)=Z))=true then some (.inr (.inr (true))) else if qJ (aA+(1:Int)) then some (.inl (aA+(1:Int))) else none else none else some (.inr (.inl ()))
def X1 (O:pH) (Z:pG):Option Bool:=sZ (rE (X0 O Z) (0:Int)) fun _=>some (false)
def aEZ (O:r5) (Z:pG):Unit:=()
section
variable (O:r5) (Z:pG)
abbrev a4i:List qI:=[(.val (.pair .str (.pair .str .unit)) O,none),(.val .ref (some (0,0)),none)]
abbrev a4j:List qH:=[.cells .str Z []]
@[go_sem] def a4k:qQ:=⟨[],[(.val .bool (decide (O.1=Z)),none)],[.cells .str Z []]⟩
def aE0:List qI→List qH→Option qQ:=rT (V:=(r5×pG)) (fun x=>a4i x.1) (fun x=>a4j x.2) fun x=>a4k x.1 x.2
@[go_sem] def aTO:aE0 (no_index (a4i O)) (no_index (a4j Z))=some (a4k O Z):=rV (fun⟨a0,a1⟩ ⟨b0,b1⟩ h1 h2=>by cases h1;cases h2;rfl) (O,Z)
end
@[go_sem] abbrev aE1:Nat×rI:=(267,⟨[.v,.p .str []],aE0,[],[0],none⟩)
def a4l:rL Tryz.prog [sM,DD] (rK []):=⟨⟨sO,⟨FC,trivial⟩⟩,rX,rM⟩
def aNO:rP Tryz.prog aE1:=by
 refine rW a4l Tryz.func267 (c:=_) rfl (N:=8) pX (ts:=[(3,none)]) rfl (fun _ _=>rfl) ?_;intro⟨O,Z⟩ hs hrow;dsimp only[a4i,a4j,a4k,rQ,qW,rF,rO,rS,Nat.reduceAdd] at hs hrow|-;obtain⟨z0,d⟩: ∃z,(aEZ O Z)=z:=⟨_,rfl⟩
 try rw[d]
 unfold aEZ at d;refine qG a4l ?_;refine qG a4l ?_;refine qR ?_;cases d;exact pI [(0,0)]
def aE2 (O:pG):Unit:=()
section
variable (O:pG)
abbrev a4m:List qI:=[(.val .str O,none)]
abbrev a4n:List qH:=[]
@[go_sem] def a4o:qQ:=⟨[],[(.val .bool true,none)],[]⟩
def aE3:List qI→List qH→Option qQ:=rT (V:=pG) (a4m) (fun x=>a4n) fun x=>a4o
@[go_sem] def aTP:aE3 (no_index (a4m O)) (no_index a4n)=some a4o:=rV (fun a0 b0 h1 h2=>by cases h1;cases h2;rfl) O
end
@[go_sem] abbrev aE4:Nat×rI:=(278,⟨[.v],aE3,[],[],none⟩)
def a4p:rL Tryz.prog [] (rK []):=⟨trivial,rX,rM⟩
def aNP:rP Tryz.prog aE4:=by
 refine rW a4p Tryz.func278 (c:=_) rfl (N:=3) pX (ts:=[(2,none)]) rfl (fun _ _=>rfl) ?_;intro O hs hrow;dsimp only[a4m,a4n,a4o,rQ,qW,rF,rO,rS,Nat.reduceAdd] at hs hrow|-;obtain⟨z0,d⟩: ∃z,(aE2 O)=z:=⟨_,rfl⟩
 try rw[d]
 unfold aE2 at d;refine qG a4p ?_;refine qG a4p ?_;refine qR ?_;cases d;exact pI []
def X2 (O:Int) (Z:Int):Option Int:=sB (σ:=Int) (if ((decide ((48:Int)≤O))&&(decide (O≤(57:Int))))=true then some ((IntKind.wrap .i64 (IntKind.wrap .u8 (O- (48:Int))))) else if ((decide ((97:Int)≤O))&&(decide (O≤(102:Int))))=true then if qJ ((IntKind.wrap .i64 (IntKind.wrap .u8 (O- (97:Int))))+(10:Int)) then some (((IntKind.wrap .i64 (IntKind.wrap .u8 (O- (97:Int))))+(10:Int))) else none else if ((decide ((65:Int)≤O))&&(decide (O≤(70:Int))))=true then if qJ ((IntKind.wrap .i64 (IntKind.wrap .u8 (O- (65:Int))))+(10:Int)) then some (((IntKind.wrap .i64 (IntKind.wrap .u8 (O- (65:Int))))+(10:Int))) else none else some ((-1:Int)) ) fun aA=>if (decide (Z≤aA))=true then some ((-1:Int)) else some (aA)
def aE5 (O:Int):Unit:=()
section
variable (O:Int)
abbrev a4q:List qI:=[(.val (.int .i64) O,none)]
abbrev a4r:List qH:=[]
@[go_sem] def a4s:qQ:=⟨[],[(.val .bool (((decide ((0:Int)≤O))&&(decide (O≤(1114111:Int))))&&((decide (O<(55296:Int)))||(decide ((57343:Int)<O)))),none)],[]⟩
def aE6:List qI→List qH→Option qQ:=rT (V:=Int) (a4q) (fun x=>a4r) fun x=>a4s x
@[go_sem] def aTQ:aE6 (no_index (a4q O)) (no_index a4r)=some (a4s O):=rV (fun a0 b0 h1 h2=>by cases h1;cases h2;rfl) O
end
@[go_sem] abbrev aE7:Nat×rI:=(289,⟨[.v],aE6,[],[],none⟩)
def a4t:rL Tryz.prog [] (rK []):=⟨trivial,rX,rM⟩
def aNQ:rP Tryz.prog aE7:=by
 refine rW a4t Tryz.func289 (c:=_) rfl (N:=17) pX (ts:=[(2,none)]) rfl (fun _ _=>rfl) ?_;intro O hs hrow;dsimp only[a4q,a4r,a4s,rQ,qW,rF,rO,rS,Nat.reduceAdd] at hs hrow|-;obtain⟨z0,d⟩: ∃z,(aE5 O)=z:=⟨_,rfl⟩
 try rw[d]
 unfold aE5 at d;refine qG a4t ?_;refine qG a4t ?_ (hp:=by exact⟨id,sL,id,id,id,id,fun hG e=>HS hG e,sL⟩);refine qR ?_;cases d;exact pI []
def JN (O:(List r5)):Option (List r5):=if (0+O.length)*32≤140737488355328 then some ((([]:List r5)++O)) else none
section
variable (O:(List r5))
abbrev a4u:List qI:=[(.val (.list (.pair .str (.pair .str .unit))) O,none)]
abbrev a4v:List qH:=[]
@[go_sem] def a4w:qQ:=⟨[((JN O)).isSome=true],[(.own 0 ((val (JN O)).length),none)],[.row 149 (.pair .str (.pair .str .unit)) (val (JN O)) ((val (JN O)).length)]⟩
def aE8:List qI→List qH→Option qQ:=rT (V:=(List r5)) (a4u) (fun x=>a4v) fun x=>a4w x
@[go_sem] def aTR:aE8 (no_index (a4u O)) (no_index a4v)=some (a4w O):=rV (fun a0 b0 h1 h2=>by cases h1;cases h2;rfl) O
end
@[go_sem] abbrev aE9:Nat×rI:=(236,⟨[.v],aE8,[],[],none⟩)
def RT:rL Tryz.prog [WD] (rK []):=⟨⟨aDu,trivial⟩,rX,rM⟩
def aNR:rP Tryz.prog aE9:=by
 refine rW RT Tryz.func236 (c:=_) rfl (N:=8) pX (ts:=[(2,none)]) rfl (fun _ _=>rfl) ?_;intro O hs hrow;dsimp only[a4u,a4v,a4w,rQ,qW,rF,rO,rS,Nat.reduceAdd] at hs hrow|-;have hz:=hs;obtain⟨z0,d⟩:=aVb.1 hz
 try rw[s9 d]
 clear hz hs;unfold JN at d;refine qG RT ?_;refine qZ ?_;refine qG RT ?_;refine aMi (by simp only[go_sem];rfl) (fun hnil=> ?_) (fun hnil=> ?_)
 .subst hnil;obtain⟨_,d⟩:=qP d;refine qG RT ?_;refine qR (s0 ?_);cases d;exact pI [(0,96)]
 .refine rJ (qS ?_);obtain⟨hg1,d⟩:=qP d;refine qG RT ?_ (hp:=by exact⟨pW,hg1⟩)
  refine qR ?_;cases d;exact pI [(0,96)]
attribute [irreducible] GL X1 X2 JN
end
noncomputable section
def LS (O:pP) (Z:Int):Option pP:=if (decide ((IntKind.wrap .u32 Z)≤(2047:Int)))=true then if (O.length+([(bits .or .u8 (192:Int) (IntKind.wrap .u8 (yC .i32 Z (6:Int)))),(bits .or .u8 (128:Int) (bits .and .u8 (IntKind.wrap .u8 Z) (63:Int)))]:pP).length)*1≤140737488355328 then some ((O++([(bits .or .u8 (192:Int) (IntKind.wrap .u8 (yC .i32 Z (6:Int)))),(bits .or .u8 (128:Int) (bits .and .u8 (IntKind.wrap .u8 Z) (63:Int)))]:pP))) else none else sB (σ:=Bool) (if (decide ((IntKind.wrap .u32 Z)<(55296:Int)))=true then some ((decide ((IntKind.wrap .u32 Z)<(55296:Int)))) else some (((decide ((57343:Int)<(IntKind.wrap .u32 Z)))&&(decide ((IntKind.wrap .u32 Z)≤(65535:Int))))) ) fun aA=>if aA=true then if (O.length+([(bits .or .u8 (224:Int) (IntKind.wrap .u8 (yC .i32 Z (12:Int)))),(bits .or .u8 (128:Int) (bits .and .u8 (IntKind.wrap .u8 (yC .i32 Z (6:Int))) (63:Int))),(bits .or .u8 (128:Int) (bits .and .u8 (IntKind.wrap .u8 Z) (63:Int)))]:pP).length)*1≤140737488355328 then some ((O++([(bits .or .u8 (224:Int) (IntKind.wrap .u8 (yC .i32 Z (12:Int)))),(bits .or .u8 (128:Int) (bits .and .u8 (IntKind.wrap .u8 (yC .i32 Z (6:Int))) (63:Int))),(bits .or .u8 (128:Int) (bits .and .u8 (IntKind.wrap .u8 Z) (63:Int)))]:pP))) else none else if ((decide ((65535:Int)<(IntKind.wrap .u32 Z)))&&(decide ((IntKind.wrap .u32 Z)≤(1114111:Int))))=true then if (O.length+([(bits .or .u8 (240:Int) (IntKind.wrap .u8 (yC .i32 Z (18:Int)))),(bits .or .u8 (128:Int) (bits .and .u8 (IntKind.wrap .u8 (yC .i32 Z (12:Int))) (63:Int))),(bits .or .u8 (128:Int) (bits .and .u8 (IntKind.wrap .u8 (yC .i32 Z (6:Int))) (63:Int))),(bits .or .u8 (128:Int) (bits .and .u8 (IntKind.wrap .u8 Z) (63:Int)))]:pP).length)*1≤140737488355328 then some ((O++([(bits .or .u8 (240:Int) (IntKind.wrap .u8 (yC .i32 Z (18:Int)))),(bits .or .u8 (128:Int) (bits .and .u8 (IntKind.wrap .u8 (yC .i32 Z (12:Int))) (63:Int))),(bits .or .u8 (128:Int) (bits .and .u8 (IntKind.wrap .u8 (yC .i32 Z (6:Int))) (63:Int))),(bits .or .u8 (128:Int) (bits .and .u8 (IntKind.wrap .u8 Z) (63:Int)))]:pP))) else none else if (O.length+([(239:Int),(191:Int),(189:Int)]:pP).length)*1≤140737488355328 then some ((O++([(239:Int),(191:Int),(189:Int)]:pP))) else none
section
variable (O:pP) (Z:Int) (aA:Nat)
abbrev a4x:List qI:=[(.val (.list (.int .u8)) O,some 0),(.val (.int .i32) Z,none)]
abbrev a4y:List qH:=[.grow 5 1 aA]
@[go_sem] def a4z:qQ:=⟨[aA=(O.length),((LS O Z)).isSome=true],[(.val (.list (.int .u8)) (val (LS O Z)),some 0)],[.grow 5 1 ((val (LS O Z)).length)]⟩
def aFa:List qI→List qH→Option qQ:=rT (V:=(pP×Int×Nat)) (fun x=>a4x x.1 x.2.1) (fun x=>a4y x.2.2) fun x=>a4z x.1 x.2.1 x.2.2
@[go_sem] def aTS:aFa (no_index (a4x O Z)) (no_index (a4y aA))=some (a4z O Z aA):=rV (fun⟨a0,a1,a2⟩ ⟨b0,b1,b2⟩ h1 h2=>by cases h1;cases h2;rfl) (O,Z,aA)
end
@[go_sem] abbrev aFb:Nat×rI:=(300,⟨[.own,.v],aFa,[],[],none⟩)
def FG:rL Tryz.prog [EB,O1,GD,WG] (rK []):=⟨⟨GF,⟨WB,⟨JE,⟨aDx,trivial⟩⟩⟩⟩,rX,rM⟩
def aNS:rP Tryz.prog aFb:=by
 refine rW FG Tryz.func300 (c:=_) rfl (N:=78) pX (ts:=[(4,none)]) rfl (fun _ _=>rfl) ?_;intro⟨O,Z,aA⟩ hs hrow;dsimp only[a4x,a4y,a4z,rQ,qW,rF,rO,rS,Nat.reduceAdd] at hs hrow|-;obtain⟨rfl,hz⟩:=hs;obtain⟨z0,d⟩:=aVb.1 hz
 try rw[s9 d]
 clear hz;unfold LS at d;refine qG FG ?_;refine qG FG ?_;refine sA ?_;refine qG FG ?_;refine qY d (fun d hc1=> ?_) (fun d hc1=> ?_)
 .obtain⟨hg1,d⟩:=qP d;refine qG FG ?_ (hp:=by exact⟨show (0:Int)≤(6:Int) from by decide,pW,hg1⟩)
  refine qR (sF ?_);cases d;exact pI [(0,0)]
 .refine qZ ?_;refine qG FG ?_;obtain⟨aB,e,d⟩:=qK d;refine DA (fun s=>s=(fun x=>⟨[(0,(.val (.list (.int .u8)) O,some 0)),(1,(.val (.int .i32) Z,none)),(5,(.val (.int .u32) (IntKind.wrap .u32 Z),none)),(25,(.val .bool x,none))],[(0,.grow 5 1 (O.length))],1,78,1⟩) aB) ?_ ?_
  .refine qY e (fun e hc2=> ?_) (fun e hc2=> ?_)
   .refine rJ ?_;cases e;exact vO ⟨⟨[0,1,5,25],[(0,0)]⟩,by rfl⟩
   .refine rY FG ?_ (hp:=by exact⟨id,sL⟩);cases e;exact vO ⟨⟨[0,1,5,25],[(0,0)]⟩,by rfl⟩
  .rintro _ rfl;dsimp only at d|-;refine qS ?_;refine qY d (fun d hc3=> ?_) (fun d hc3=> ?_)
   .obtain⟨hg2,d⟩:=qP d;refine qG FG ?_ (hp:=by exact⟨show (0:Int)≤(12:Int) from by decide,show (0:Int)≤(6:Int) from by decide,pW,hg2⟩)
    refine qR (sF ?_);cases d;exact pI [(0,0)]
   .refine qG FG ?_ (hp:=by exact⟨id,sL⟩);refine qY d (fun d hc4=> ?_) (fun d hc4=> ?_)
    .obtain⟨hg3,d⟩:=qP d;refine qG FG ?_ (hp:=by exact⟨show (0:Int)≤(18:Int) from by decide,show (0:Int)≤(12:Int) from by decide,show (0:Int)≤(6:Int) from by decide,pW,hg3⟩)
     refine qR (sF ?_);cases d;exact pI [(0,0)]
    .obtain⟨hg4,d⟩:=qP d;refine qG FG ?_ (hp:=by exact⟨pW,hg4⟩)
     refine qR (sF ?_);cases d;exact pI [(0,0)]
def RU (O:(List r5)) (Z:pG):Int→Option (Int⊕(Unit⊕Int)):=fun aA=>if (decide (aA<(O.length:Int)))=true then if 0≤aA∧aA<(O.length:Int) then if (decide (((rC (.pair .str (.pair .str .unit)) O aA).1)=Z))=true then some (.inr (.inr (aA))) else if qJ (aA+(1:Int)) then some (.inl (aA+(1:Int))) else none else none else some (.inr (.inl ()))
def OG (O:(List r5)) (Z:pG):Option Int:=sZ (rE (RU O Z) (0:Int)) fun _=>some ((-1:Int))
section
variable (O:(List r5)) (Z:pG)
abbrev a4A:List qI:=[(.val (.list (.pair .str (.pair .str .unit))) O,none),(.val .clo (some (267,[(0,0)])),none)]
abbrev a4B:List qH:=[.cells .str Z []]
@[go_sem] def a4C:qQ:=⟨[((OG O Z)).isSome=true],[(.val (.int .i64) (val (OG O Z)),none)],[.cells .str Z []]⟩
def aFc:List qI→List qH→Option qQ:=rT (V:=((List r5)×pG)) (fun x=>a4A x.1) (fun x=>a4B x.2) fun x=>a4C x.1 x.2
@[go_sem] def aTT:aFc (no_index (a4A O)) (no_index (a4B Z))=some (a4C O Z):=rV (fun⟨a0,a1⟩ ⟨b0,b1⟩ h1 h2=>by cases h1;cases h2;rfl) (O,Z)
end
@[go_sem] abbrev aFd:Nat×rI:=(238,⟨[.v,.f [(.str,[])]],aFc,[],[0],none⟩)
def I4:rL Tryz.prog [y8,DD] (rK [aE1]):=⟨⟨yX,⟨FC,trivial⟩⟩,qU aNO rX,rM⟩
def aNT:rP Tryz.prog aFd:=by
 refine rW I4 Tryz.func238 (c:=_) rfl (N:=19) pX (ts:=[(4,none)]) rfl (fun _ _=>rfl) ?_;intro⟨O,Z⟩ hs hrow;dsimp only[a4A,a4B,a4C,rQ,qW,rF,rO,rS,Nat.reduceAdd] at hs hrow|-;have hz:=hs;obtain⟨z0,d⟩:=aVb.1 hz
 try rw[s9 d]
 clear hz hs;unfold OG at d;refine qG I4 ?_;refine qZ ?_;refine qG I4 ?_;refine sA ?_;obtain⟨y1,hy1,d⟩:=wG d;refine uS 0 (fun s=> ∃v,y1= .inl v∧s=(fun _=>⟨[],[(0,.cells .str Z [])],1,19,1⟩) v) ?_ ?_
 .refine uR hy1 (fun x=>⟨[(0,(.val (.list (.pair .str (.pair .str .unit))) O,none)),(1,(.val .clo (some (267,[(0,0)])),none)),(7,(.val (.int .i64) (O.length:Int),none)),(8,(.val (.int .i64) x,none))],[(0,.cells .str Z [])],1,19,1⟩) ⟨[0,1,7,8],[(0,0)]⟩ pY ?_;intro aA w1 n1 e g;unfold RU at e;dsimp only at e|-;refine qG I4 ?_;refine qZ ?_;refine qY e (fun e hc1=> ?_) (fun e hc1=> ?_)
  .refine rJ (qS (qZ (sA ?_)));refine qG I4 ?_;obtain⟨hg1,e⟩:=qP e;refine qG I4 ?_ (hp:=by exact⟨hg1,pW⟩)
   refine qY e (fun e hc2=> ?_) (fun e hc2=> ?_)
   .refine qG I4 ?_;refine qR (sF (s0 (wF (wE (sF (s0 ?_))))));cases e;cases g;dsimp only at d;cases d;exact pI [(0,0)]
   .refine rJ (s5 (qS ?_));obtain⟨hg2,e⟩:=qP e;refine rY I4 ?_ (hp:=by exact hg2);cases e;exact tI ⟨⟨[0,1,7,8],[(0,0)]⟩,_,by rfl,g⟩
  .refine uF (uK (uH ?_));cases e;cases g;exact uG ⟨⟨[],[(0,0)]⟩,_,rfl,by rfl⟩
 .rintro _ ⟨v,rfl,rfl⟩;dsimp only at d|-;refine uQ (qS ?_);refine qG I4 ?_;refine qR ?_;cases d;exact pI [(0,0)]
def RV (O:(List r5)) (Z:pG):Int→Option (Int⊕(Unit⊕Int)):=fun aA=>if (decide (aA<(O.length:Int)))=true then if 0≤aA∧aA<(O.length:Int) then if (!(Op.bytesLess ((rC (.pair .str (.pair .str .unit)) O aA).1) Z||decide (((rC (.pair .str (.pair .str .unit)) O aA).1)=Z)))=true then some (.inr (.inr (aA))) else if qJ (aA+(1:Int)) then some (.inl (aA+(1:Int))) else none else none else some (.inr (.inl ()))
def OH (O:(List r5)) (Z:pG):Option Int:=sZ (rE (RV O Z) (0:Int)) fun _=>some ((-1:Int))
section
variable (O:(List r5)) (Z:pG)
abbrev a4D:List qI:=[(.val (.list (.pair .str (.pair .str .unit))) O,none),(.val .clo (some (239,[(0,0)])),none)]
abbrev a4E:List qH:=[.cells .str Z []]
@[go_sem] def a4F:qQ:=⟨[((OH O Z)).isSome=true],[(.val (.int .i64) (val (OH O Z)),none)],[.cells .str Z []]⟩
def aFe:List qI→List qH→Option qQ:=rT (V:=((List r5)×pG)) (fun x=>a4D x.1) (fun x=>a4E x.2) fun x=>a4F x.1 x.2
@[go_sem] def aTU:aFe (no_index (a4D O)) (no_index (a4E Z))=some (a4F O Z):=rV (fun⟨a0,a1⟩ ⟨b0,b1⟩ h1 h2=>by cases h1;cases h2;rfl) (O,Z)
end
@[go_sem] abbrev aFf:Nat×rI:=(238,⟨[.v,.f [(.str,[])]],aFe,[],[0],none⟩)
def I5:rL Tryz.prog [y8,DD] (rK [aEW]):=⟨⟨yX,⟨FC,trivial⟩⟩,qU aNN rX,rM⟩
def aNU:rP Tryz.prog aFf:=by
 refine rW I5 Tryz.func238 (c:=_) rfl (N:=19) pX (ts:=[(4,none)]) rfl (fun _ _=>rfl) ?_;intro⟨O,Z⟩ hs hrow;dsimp only[a4D,a4E,a4F,rQ,qW,rF,rO,rS,Nat.reduceAdd] at hs hrow|-;have hz:=hs;obtain⟨z0,d⟩:=aVb.1 hz
 try rw[s9 d]
 clear hz hs;unfold OH at d;refine qG I5 ?_;refine qZ ?_;refine qG I5 ?_;refine sA ?_;obtain⟨y1,hy1,d⟩:=wG d;refine uS 0 (fun s=> ∃v,y1= .inl v∧s=(fun _=>⟨[],[(0,.cells .str Z [])],1,19,1⟩) v) ?_ ?_
 .refine uR hy1 (fun x=>⟨[(0,(.val (.list (.pair .str (.pair .str .unit))) O,none)),(1,(.val .clo (some (239,[(0,0)])),none)),(7,(.val (.int .i64) (O.length:Int),none)),(8,(.val (.int .i64) x,none))],[(0,.cells .str Z [])],1,19,1⟩) ⟨[0,1,7,8],[(0,0)]⟩ pY ?_;intro aA w1 n1 e g;unfold RV at e;dsimp only at e|-;refine qG I5 ?_;refine qZ ?_;refine qY e (fun e hc1=> ?_) (fun e hc1=> ?_)
  .refine rJ (qS (qZ (sA ?_)));refine qG I5 ?_;obtain⟨hg1,e⟩:=qP e;refine qG I5 ?_ (hp:=by exact⟨hg1,pW⟩)
   refine qY e (fun e hc2=> ?_) (fun e hc2=> ?_)
   .refine qG I5 ?_;refine qR (sF (s0 (wF (wE (sF (s0 ?_))))));cases e;cases g;dsimp only at d;cases d;exact pI [(0,0)]
   .refine rJ (s5 (qS ?_));obtain⟨hg2,e⟩:=qP e;refine rY I5 ?_ (hp:=by exact hg2);cases e;exact tI ⟨⟨[0,1,7,8],[(0,0)]⟩,_,by rfl,g⟩
  .refine uF (uK (uH ?_));cases e;cases g;exact uG ⟨⟨[],[(0,0)]⟩,_,rfl,by rfl⟩
 .rintro _ ⟨v,rfl,rfl⟩;dsimp only at d|-;refine uQ (qS ?_);refine qG I5 ?_;refine qR ?_;cases d;exact pI [(0,0)]
def RW (O:pG) (Z:Bool):Nat→Option (Nat⊕(Unit⊕Int)):=fun aA=>if (decide (aA<O.length))=true then if (decide (aA<O.length))=true then if (decide (aA<O.length))=true then if (((decide ((127:Int)<(vE O aA)))||(((((!(((decide ((97:Int)≤(IntKind.wrap .u8 (vE O aA))))&&(decide ((IntKind.wrap .u8 (vE O aA))≤(122:Int))))||((decide ((65:Int)≤(IntKind.wrap .u8 (vE O aA))))&&(decide ((IntKind.wrap .u8 (vE O aA))≤(90:Int))))))&&((decide ((vE O aA)<(48:Int)))||(decide ((57:Int)<(vE O aA)))))&&(!decide ((vE O aA)=(45:Int))))&&(!decide ((vE O aA)=(95:Int))))&&(!decide ((vE O aA)=(46:Int)))))==Z)=true then some (.inr (.inr (((aA:Nat):Int)))) else some (.inl (AQ O aA)) else none else none else some (.inr (.inl ()))
def OI (O:pG) (Z:Bool):Option Int:=sZ (rE (RW O Z) 0) fun _=>some ((-1:Int))
section
variable (O:pG) (Z:Bool)
abbrev a4G:List qI:=[(.val .str O,none),(.val .clo (some (122,[])),none),(.val .bool Z,none)]
abbrev a4H:List qH:=[]
@[go_sem] def a4I:qQ:=⟨[((OI O Z)).isSome=true],[(.val (.int .i64) (val (OI O Z)),none)],[]⟩
def aFg:List qI→List qH→Option qQ:=rT (V:=(pG×Bool)) (fun x=>a4G x.1 x.2) (fun x=>a4H) fun x=>a4I x.1 x.2
@[go_sem] def aTV:aFg (no_index (a4G O Z)) (no_index a4H)=some (a4I O Z):=rV (fun⟨a0,a1⟩ ⟨b0,b1⟩ h1 h2=>by cases h1;cases h2;rfl) (O,Z)
end
@[go_sem] abbrev aFh:Nat×rI:=(175,⟨[.v,.v,.v],aFg,[],[],none⟩)
def JO:rL Tryz.prog [GE,sM] (rK [aD6]):=⟨⟨JF,⟨sO,trivial⟩⟩,qU aNy rX,rM⟩
def aNV:rP Tryz.prog aFh:=by
 refine rW JO Tryz.func175 (c:=_) rfl (N:=21) pX (ts:=[(6,none)]) rfl (fun _ _=>rfl) ?_;intro⟨O,Z⟩ hs hrow;dsimp only[a4G,a4H,a4I,rQ,qW,rF,rO,rS,Nat.reduceAdd] at hs hrow|-;have hz:=hs;obtain⟨z0,d⟩:=aVb.1 hz
 try rw[s9 d]
 clear hz hs;unfold OI at d;refine qG JO ?_;refine qZ ?_;refine qG JO ?_;refine sA ?_;obtain⟨y1,hy1,d⟩:=wG d;refine uS 0 (fun s=> ∃v,y1= .inl v∧s=(fun _=>⟨[],[],0,21,0⟩) v) ?_ ?_
 .refine uR hy1 (fun x=>⟨[(1,(.val .clo (some (122,[])),none)),(2,(.val .bool Z,none)),(10,(.val .ref (some (0,0)),none))],[(0,.iter O x)],1,21,0⟩) ⟨[1,2,10],[(0,64)]⟩ pY ?_;intro aA w1 n1 e g;unfold RW at e;dsimp only at e|-;refine qG JO ?_;refine qZ ?_;refine qY e (fun e hc1=> ?_) (fun e hc1=> ?_)
  .refine rJ (qS (sA ?_));obtain⟨hg1,e⟩:=qP e;obtain⟨hg2,e⟩:=qP e;refine qG JO ?_ (hp:=by exact⟨hg1,hg2⟩);refine qG JO ?_;refine qY e (fun e hc2=> ?_) (fun e hc2=> ?_)
   .refine qG JO ?_;refine qR (sF (wF (wE (sF (s0 ?_)))));cases e;cases g;dsimp only at d;cases d;exact pI []
   .refine rJ (s5 ?_);cases e;exact tI ⟨⟨[1,2,10],[(0,0)]⟩,_,by rfl,g⟩
  .refine uF (uK (uH ?_));cases e;cases g;exact uG ⟨⟨[],[]⟩,_,rfl,by rfl⟩
 .rintro _ ⟨v,rfl,rfl⟩;dsimp only at d|-;refine uQ (qS ?_);refine qG JO ?_;refine qR ?_;cases d;exact pI []
attribute [irreducible] LS OG OH OI
end
noncomputable section
def LT (O:pG):Option Int:=(OI O true).bind fun Z=>some (Z)
section
variable (O:pG)
abbrev a4J:List qI:=[(.val .str O,none),(.val .clo (some (122,[])),none)]
abbrev a4K:List qH:=[]
@[go_sem] def a4L:qQ:=⟨[((LT O)).isSome=true],[(.val (.int .i64) (val (LT O)),none)],[]⟩
def aFi:List qI→List qH→Option qQ:=rT (V:=pG) (a4J) (fun x=>a4K) fun x=>a4L x
@[go_sem] def aTW:aFi (no_index (a4J O)) (no_index a4K)=some (a4L O):=rV (fun a0 b0 h1 h2=>by cases h1;cases h2;rfl) O
end
@[go_sem] abbrev aFj:Nat×rI:=(121,⟨[.v,.v],aFi,[],[],none⟩)
def a4M:rL Tryz.prog [] (rK [aFh]):=⟨trivial,qU aNV rX,rM⟩
def aNW:rP Tryz.prog aFj:=by
 refine rW a4M Tryz.func121 (c:=_) rfl (N:=8) pX (ts:=[(4,none)]) rfl (fun _ _=>rfl) ?_;intro O hs hrow;dsimp only[a4J,a4K,a4L,rQ,qW,rF,rO,rS,Nat.reduceAdd] at hs hrow|-;have hz:=hs;obtain⟨z0,d⟩:=aVb.1 hz
 try rw[s9 d]
 clear hz hs;unfold LT at d;refine qG a4M ?_;obtain⟨Z,hv1,hw1,d⟩:=rH d
 try simp only[go_sem] at hw1
 refine qG a4M ?_ (hp:=by exact(rG hv1)) (h:=by simp only[go_sem,hw1];rfl);refine qR ?_;cases d;exact pI []
def X3:(Int×pG)→pP→Option (pP⊕pG):=fun O Z=>(ED (Z,()) O.2).bind fun aA=>some (.inl (Z++tV O.2))
def JP (O:JC):Option pG:=if List.length O.2.1≤4611686018427387904 then sZ (F8 (X3) (DB O) ([]:pP)) fun Z=>some ((tE Z)) else none
section
variable (O:JC)
abbrev a4N:List qI:=[(.val CK O,none)]
abbrev a4O:List qH:=[]
@[go_sem] def a4P:qQ:=⟨[((JP O)).isSome=true],[(.val .str (val (JP O)),none)],[]⟩
def aFk:List qI→List qH→Option qQ:=rT (V:=JC) (a4N) (fun x=>a4O) fun x=>a4P x
@[go_sem] def aTX:aFk (no_index (a4N O)) (no_index a4O)=some (a4P O):=rV (fun a0 b0 h1 h2=>by cases h1;cases h2;rfl) O
end
@[go_sem] abbrev a4Q:Nat×rI:=(25,⟨[.v],aFk,[],[],none⟩)
def LU:rL Tryz.prog [JD,HV] (rK [aDN,WM,RI]):=⟨⟨NZ,⟨LN,trivial⟩⟩,qU aNv (qU a1Z (qU WL rX)),rM⟩
def aNX:rP Tryz.prog a4Q:=by
 refine rW LU Tryz.func25 (c:=_) rfl (N:=13) pX (ts:=[(2,none)]) rfl (fun _ _=>rfl) ?_;intro O hs hrow;dsimp only[a4N,a4O,a4P,rQ,qW,rF,rO,rS,Nat.reduceAdd] at hs hrow|-;have hz:=hs;obtain⟨z0,d⟩:=aVb.1 hz
 try rw[s9 d]
 clear hz hs;unfold JP at d;refine qG LU ?_;refine qG LU ?_;refine qZ ?_;refine qG LU ?_;refine sA ?_;obtain⟨hgF2,d⟩:=qP d;obtain⟨y1,hy1,d⟩:=wG d;refine aM1 aM9 aM4 pY pY hgF2 hy1 [(3,(.val .ref (some (0,0)),none))] (fun Z=>[(3,(.val .ref (some (0,0)),none)),(5,(.val .str Z.2,none))]) (fun x=>[.cells y7 ((some (0,0)),(x,())) [(1,1)],.grow 5 1 (x.length)]) 1 ⟨[3],[(0,64),(1,65)]⟩ pY pY pY pY (aW1 pY) (fun _=>aW1 rfl) (fun _=>by rfl) (fun _=>rfl) pY ?_ ?_
 .intro Z aA w1 e g;refine⟨?_,?_⟩
  .dsimp only[RE,aDm,uA,qW,rF,Nat.reduceAdd,List.toList_toArray];refine rY LU ?_;exact aM2 ⟨[3,5],[(0,0),(1,1)]⟩ pY
  .unfold X3 at e;dsimp only[qW,rF,Nat.reduceAdd] at e|-;refine sA ?_;obtain⟨aB,hv1,hw1,e⟩:=rH e
   try simp only[go_sem] at hw1
   refine rY LU ?_ (hp:=by exact⟨pW,(rG hv1)⟩) (h:=by simp only[go_sem,hw1];rfl)
   refine s5 ?_;cases e;exact aM3 ⟨[],[(0,0),(1,1)]⟩ _ rfl pY
 .rintro aA rfl;dsimp only[qW,rF,Nat.reduceAdd] at d|-;refine s5 (qS ?_);refine qG LU ?_ (hp:=by first|rfl|trivial)
  refine qR ?_;cases d;exact pI []
def FH (O:pG):Option Unit:=if (((decide ((O.length:Int)≤(4000:Int)))==true)=true→((RQ O)).isSome=true) then some (()) else none
section
variable (O:pG)
abbrev a4R:List qI:=[(.val .str O,none)]
abbrev a4S:List qH:=[]
@[go_sem] def a4T:qQ:=⟨[((FH O)).isSome=true],[(.val .bool ((decide ((O.length:Int)≤(4000:Int)))&&(Lib.validD O)),none)],[]⟩
def aFl:List qI→List qH→Option qQ:=rT (V:=pG) (a4R) (fun x=>a4S) fun x=>a4T x
@[go_sem] def aTY:aFl (no_index (a4R O)) (no_index a4S)=some (a4T O):=rV (fun a0 b0 h1 h2=>by cases h1;cases h2;rfl) O
end
@[go_sem] abbrev RX:Nat×rI:=(161,⟨[.v],aFl,[],[],none⟩)
def a4U:rL Tryz.prog [sM] (rK [aED]):=⟨⟨sO,trivial⟩,qU aNH rX,rM⟩
def X4:rP Tryz.prog RX:=by
 refine rW a4U Tryz.func161 (c:=_) rfl (N:=10) pX (ts:=[(2,none)]) rfl (fun _ _=>rfl) ?_;intro O hs hrow;dsimp only[a4R,a4S,a4T,rQ,qW,rF,rO,rS,Nat.reduceAdd] at hs hrow|-;have hz:=hs;obtain⟨z0,d⟩:=aVb.1 hz
 try rw[s9 d]
 clear hz hs;unfold FH at d;refine qG a4U ?_;obtain⟨hg1,d⟩:=qP d;refine qG a4U ?_ (hp:=by exact⟨id,hg1,sL⟩);refine qR ?_;cases d;exact pI []
attribute [irreducible] LT JP FH
end
noncomputable section
def OJ (O:rZ):Option Unit:=if qJ ((O.1.length:Int)+(O.2.1.length:Int)) then if qJ (((O.1.length:Int)+(O.2.1.length:Int))+(O.2.2.1.length:Int)) then if (((decide ((((O.1.length:Int)+(O.2.1.length:Int))+(O.2.2.1.length:Int))≤(6000:Int)))==true)=true→((zM O.2.2.2.1 O.2.2.2.2.2.2.1)).isSome=true) then if (((decide ((((O.1.length:Int)+(O.2.1.length:Int))+(O.2.2.1.length:Int))≤(6000:Int)))==true)=true→((zM O.2.2.2.2.1 ([]:List r5))).isSome=true) then if (((decide ((((O.1.length:Int)+(O.2.1.length:Int))+(O.2.2.1.length:Int))≤(6000:Int)))==true)=true→qJ ((val (zM O.2.2.2.1 O.2.2.2.2.2.2.1))+(val (zM O.2.2.2.2.1 ([]:List r5))))) then some (()) else none else none else none else none else none
section
variable (O:rZ)
abbrev a4V:List qI:=[(.val t7 O,none)]
abbrev a4W:List qH:=[]
@[go_sem] def a4X:qQ:=⟨[((OJ O)).isSome=true],[(.val .bool ((decide ((((O.1.length:Int)+(O.2.1.length:Int))+(O.2.2.1.length:Int))≤(6000:Int)))&&(decide (((val (zM O.2.2.2.1 O.2.2.2.2.2.2.1))+(val (zM O.2.2.2.2.1 ([]:List r5))))≤(6000:Int)))),none)],[]⟩
def aFm:List qI→List qH→Option qQ:=rT (V:=rZ) (a4V) (fun x=>a4W) fun x=>a4X x
@[go_sem] def aTZ:aFm (no_index (a4V O)) (no_index a4W)=some (a4X O):=rV (fun a0 b0 h1 h2=>by cases h1;cases h2;rfl) O
end
@[go_sem] abbrev a4Y:Nat×rI:=(35,⟨[.v],aFm,[],[],none⟩)
def a4Z:rL Tryz.prog [sM,wH,y8,B3] (rK [aDQ]):=⟨⟨sO,⟨wX,⟨yX,⟨CL,trivial⟩⟩⟩⟩,qU aNw rX,rM⟩
def aNY:rP Tryz.prog a4Y:=by
 refine rW a4Z Tryz.func35 (c:=_) rfl (N:=27) pX (ts:=[(2,none)]) rfl (fun _ _=>rfl) ?_;intro O hs hrow;dsimp only[a4V,a4W,a4X,rQ,qW,rF,rO,rS,Nat.reduceAdd] at hs hrow|-;have hz:=hs;obtain⟨z0,e⟩:=aVb.1 hz
 try rw[s9 e]
 clear hz hs;unfold OJ at e;refine qG a4Z ?_;obtain⟨hg1,e⟩:=qP e;obtain⟨hg2,e⟩:=qP e;obtain⟨hg3,e⟩:=qP e;obtain⟨hg4,e⟩:=qP e;obtain⟨hg5,e⟩:=qP e;refine xE a4Z ?_ (hp:=by exact⟨hg1,hg2,id,id,id,id,hg3,id,id,hg4,id,id,hg5,id,sL⟩);refine qR ?_;cases e;exact pI []
def RY (O:sC) (Z:sC):Option Unit:=if (((decide (O.1=Z.1))==true)=true→((xH O.2.1 Z.2.1)).isSome=true) then if ((((decide (O.1=Z.1))&&(val (xH O.2.1 Z.2.1)))==true)=true→((B5 O.2.2.1 Z.2.2.1)).isSome=true) then some (()) else none else none
section
variable (O:sC) (Z:sC)
abbrev a40:List qI:=[(.val F9 O,none),(.val F9 Z,none)]
abbrev a41:List qH:=[]
@[go_sem] def a42:qQ:=⟨[((RY O Z)).isSome=true],[(.val .bool (((decide (O.1=Z.1))&&(val (xH O.2.1 Z.2.1)))&&(val (B5 O.2.2.1 Z.2.2.1))),none)],[]⟩
def aFn:List qI→List qH→Option qQ:=rT (V:=(sC×sC)) (fun x=>a40 x.1 x.2) (fun x=>a41) fun x=>a42 x.1 x.2
@[go_sem] def aT0:aFn (no_index (a40 O Z)) (no_index a41)=some (a42 O Z):=rV (fun⟨a0,a1⟩ ⟨b0,b1⟩ h1 h2=>by cases h1;cases h2;rfl) (O,Z)
end
@[go_sem] abbrev aFo:Nat×rI:=(46,⟨[.v,.v],aFn,[],[],none⟩)
def a43:rL Tryz.prog [sM,wH,y8,DC] (rK [a2g,a2k]):=⟨⟨sO,⟨wX,⟨yX,⟨FB,trivial⟩⟩⟩⟩,qU aDS (qU aDU rX),rM⟩
def aNZ:rP Tryz.prog aFo:=by
 refine rW a43 Tryz.func46 (c:=_) rfl (N:=24) pX (ts:=[(4,none)]) rfl (fun _ _=>rfl) ?_;intro⟨O,Z⟩ hs hrow;dsimp only[a40,a41,a42,rQ,qW,rF,rO,rS,Nat.reduceAdd] at hs hrow|-;have hz:=hs;obtain⟨z0,e⟩:=aVb.1 hz
 try rw[s9 e]
 clear hz hs;unfold RY at e;refine qG a43 ?_;obtain⟨hg1,e⟩:=qP e;obtain⟨hg2,e⟩:=qP e;refine qG a43 ?_ (hp:=by exact⟨id,id,id,id,hg1,sL,id,id,id,id,hg2,sL⟩);refine qR ?_;cases e;exact pI []
def X5 (O:(List rZ)) (Z:(List rZ)):Int→Option (Int⊕(Unit⊕Bool)):=fun aA=>if (decide (aA<(O.length:Int)))=true then if 0≤aA∧aA<(O.length:Int) then if 0≤aA∧aA<(Z.length:Int) then (O5 (rC t7 O aA) (rC t7 Z aA)).bind fun aB=>if (!(((((((decide (((rC t7 O aA).1)=((rC t7 Z aA).1)))&&(decide (((rC t7 O aA).2.1)=((rC t7 Z aA).2.1))))&&(decide (((rC t7 O aA).2.2.1)=((rC t7 Z aA).2.2.1))))&&(decide (((rC t7 O aA).2.2.2.2.2.1)=((rC t7 Z aA).2.2.2.2.2.1))))&&(val (xH ((rC t7 O aA).2.2.2.1) ((rC t7 Z aA).2.2.2.1))))&&(val (xH ((rC t7 O aA).2.2.2.2.1) ((rC t7 Z aA).2.2.2.2.1))))&&(val (B5 ((rC t7 O aA).2.2.2.2.2.2.1) ((rC t7 Z aA).2.2.2.2.2.2.1)))))=true then some (.inr (.inr (false))) else if qJ (aA+(1:Int)) then some (.inl (aA+(1:Int))) else none else none else none else some (.inr (.inl ()))
def FI (O:(List rZ)) (Z:(List rZ)):Option Bool:=if (!decide ((O.length:Int)=(Z.length:Int)))=true then some (false) else sZ (rE (X5 O Z) (0:Int)) fun _=>some (true)
section
variable (O:(List rZ)) (Z:(List rZ))
abbrev a44:List qI:=[(.val (.list t7) O,none),(.val (.list t7) Z,none)]
abbrev a45:List qH:=[]
@[go_sem] def a47:qQ:=⟨[((FI O Z)).isSome=true],[(.val .bool (val (FI O Z)),none)],[]⟩
def aFp:List qI→List qH→Option qQ:=rT (V:=((List rZ)×(List rZ))) (fun x=>a44 x.1 x.2) (fun x=>a45) fun x=>a47 x.1 x.2
@[go_sem] def aT1:aFp (no_index (a44 O Z)) (no_index a45)=some (a47 O Z):=rV (fun⟨a0,a1⟩ ⟨b0,b1⟩ h1 h2=>by cases h1;cases h2;rfl) (O,Z)
end
@[go_sem] abbrev aFq:Nat×rI:=(47,⟨[.v,.v],aFp,[],[],none⟩)
def GM:rL Tryz.prog [HU,B3] (rK [aDW]):=⟨⟨LM,⟨CL,trivial⟩⟩,qU aNx rX,rM⟩
def aN0:rP Tryz.prog aFq:=by
 refine rW GM Tryz.func47 (c:=_) rfl (N:=27) pX (ts:=[(4,none)]) rfl (fun _ _=>rfl) ?_;intro⟨O,Z⟩ hs hrow;dsimp only[a44,a45,a47,rQ,qW,rF,rO,rS,Nat.reduceAdd] at hs hrow|-;have hz:=hs;obtain⟨z0,e⟩:=aVb.1 hz
 try rw[s9 e]
 clear hz hs;unfold FI at e;refine qG GM ?_;refine qZ ?_;refine qG GM ?_;refine qY e (fun e hc1=> ?_) (fun e hc1=> ?_)
 .refine qG GM ?_;refine qR (s0 ?_);cases e;exact pI []
 .refine rJ (qS (qZ ?_));refine qG GM ?_;refine sA ?_;obtain⟨y1,hy1,e⟩:=wG e;refine uS 0 (fun s=> ∃v,y1= .inl v∧s=(fun _=>⟨[],[],0,27,0⟩) v) ?_ ?_
  .refine uR hy1 (fun x=>⟨[(0,(.val (.list t7) O,none)),(1,(.val (.list t7) Z,none)),(5,(.val (.int .i64) x,none))],[],0,27,0⟩) ⟨[0,1,5],[]⟩ pY ?_;intro aA w1 n1 f g;unfold X5 at f;dsimp only at f|-;refine qZ ?_;refine qG GM ?_;refine qY f (fun f hc2=> ?_) (fun f hc2=> ?_)
   .refine rJ (qS (qZ (sA ?_)));obtain⟨hg1,f⟩:=qP f;obtain⟨hg2,f⟩:=qP f;obtain⟨aB,hv3,hw3,f⟩:=rH f
    try simp only[go_sem] at hw3
    refine xE GM ?_ (hp:=by exact⟨hg1,hg2,(rG hv3)⟩) (h:=by simp only[go_sem,hw3];rfl);refine qY f (fun f hc3=> ?_) (fun f hc3=> ?_)
    .refine qG GM ?_;refine qR (sF (s0 (wF (wE (sF (s0 ?_))))));cases f;cases g;dsimp only at e;cases e;exact pI []
    .refine rJ (s5 (qS ?_));obtain⟨hg4,f⟩:=qP f;refine rY GM ?_ (hp:=by exact hg4);cases f;exact tI ⟨⟨[0,1,5],[]⟩,_,by rfl,g⟩
   .refine uF (uK (uH ?_));cases f;cases g;exact uG ⟨⟨[],[]⟩,_,rfl,by rfl⟩
  .rintro _ ⟨v,rfl,rfl⟩;dsimp only at e|-;refine uQ (qS ?_);refine qG GM ?_;refine qR ?_;cases e;exact pI []
attribute [irreducible] OJ RY FI
end
noncomputable section
def RZ (O:pG):Int→Option (Int⊕Int):=fun Z=>if (((decide (Z<(O.length:Int)))==true)=true→0≤Z∧Z<(O.length:Int)) then if ((decide (Z<(O.length:Int)))&&(!decide ((r7 O Z)=(10:Int))))=true then if qJ (Z+(1:Int)) then some (.inl (Z+(1:Int))) else none else some (.inr Z) else none
def S0 (O:pG):Int→Option (Int⊕Int):=fun Z=>if (((decide (Z<(O.length:Int)))==true)=true→((O6 O Z ([42,47]:pG))).isSome=true) then if ((decide (Z<(O.length:Int)))&&(!((decide ((([42,47]:pG).length:Int)≤((O.length:Int)-Z)))&&(decide ((qV O Z (Z+(([42,47]:pG).length:Int)))=([42,47]:pG))))))=true then if qJ (Z+(1:Int)) then some (.inl (Z+(1:Int))) else none else some (.inr Z) else none
def LV (O:pG):Int→Option (Int⊕(Int⊕Int)):=fun Z=>if (decide (Z<(O.length:Int)))=true then if 0≤Z∧Z<(O.length:Int) then if (((decide ((r7 O Z)=(32:Int)))==false)=true→0≤Z∧Z<(O.length:Int)) then if ((((decide ((r7 O Z)=(32:Int)))||(decide ((r7 O Z)=(9:Int))))==false)=true→0≤Z∧Z<(O.length:Int)) then if (((((decide ((r7 O Z)=(32:Int)))||(decide ((r7 O Z)=(9:Int))))||(decide ((r7 O Z)=(10:Int))))==false)=true→0≤Z∧Z<(O.length:Int)) then if ((((decide ((r7 O Z)=(32:Int)))||(decide ((r7 O Z)=(9:Int))))||(decide ((r7 O Z)=(10:Int))))||(decide ((r7 O Z)=(13:Int))))=true then if qJ (Z+(1:Int)) then some (.inl (Z+(1:Int))) else none else (O6 O Z ([47,47]:pG)).bind fun aA=>if ((decide ((([47,47]:pG).length:Int)≤((O.length:Int)-Z)))&&(decide ((qV O Z (Z+(([47,47]:pG).length:Int)))=([47,47]:pG))))=true then sB (rE (RZ O) Z) fun aB=>some (.inl aB) else (O6 O Z ([47,42]:pG)).bind fun aC=>if ((decide ((([47,42]:pG).length:Int)≤((O.length:Int)-Z)))&&(decide ((qV O Z (Z+(([47,42]:pG).length:Int)))=([47,42]:pG))))=true then if qJ (Z+(2:Int)) then sB (rE (S0 O) (Z+(2:Int))) fun aD=>if (decide ((O.length:Int)≤aD))=true then some (.inr (.inr (Z))) else if qJ (aD+(2:Int)) then some (.inl (aD+(2:Int))) else none else none else some (.inr (.inr (Z))) else none else none else none else none else some (.inr (.inl Z))
def OK (O:pG) (Z:Int):Option Int:=sZ (rE (LV O) Z) fun aA=>some (aA)
def X6 (O:pG):Int→Option (Int⊕(Unit⊕Bool)):=fun Z=>if (decide (Z<(O.length:Int)))=true then if 0≤Z∧Z<(O.length:Int) then if ((((!((decide ((97:Int)≤(r7 O Z)))&&(decide ((r7 O Z)≤(122:Int)))))&&(!((decide ((48:Int)≤(r7 O Z)))&&(decide ((r7 O Z)≤(57:Int))))))&&(!decide ((r7 O Z)=(45:Int))))&&((decide ((r7 O Z)<(65:Int)))||(decide ((90:Int)<(r7 O Z)))))=true then some (.inr (.inr (false))) else if qJ (Z+(1:Int)) then some (.inl (Z+(1:Int))) else none else none else some (.inr (.inl ()))
def I6 (O:pG):Option Bool:=sZ (rE (X6 O) (0:Int)) fun _=>some (((decide ((1:Int)≤(O.length:Int)))&&(decide ((O.length:Int)≤(40:Int)))))
def S1 (O:pG):Int→Option (Int⊕(Unit⊕Bool)):=fun Z=>if (decide (Z<(O.length:Int)))=true then if 0≤Z∧Z<(O.length:Int) then if (((((!((decide ((97:Int)≤(r7 O Z)))&&(decide ((r7 O Z)≤(122:Int)))))&&(!((decide ((48:Int)≤(r7 O Z)))&&(decide ((r7 O Z)≤(57:Int))))))&&(!decide ((r7 O Z)=(45:Int))))&&(!decide ((r7 O Z)=(95:Int))))&&(!decide ((r7 O Z)=(46:Int))))=true then some (.inr (.inr (false))) else if qJ (Z+(1:Int)) then some (.inl (Z+(1:Int))) else none else none else some (.inr (.inl ()))
def GN (O:pG):Option Bool:=if ((((decide ((O.length:Int)<(1:Int)))||(decide ((40:Int)<(O.length:Int))))==false)=true→0≤(0:Int)∧(0:Int)<(O.length:Int)) then if (((decide ((O.length:Int)<(1:Int)))||(decide ((40:Int)<(O.length:Int))))||(!((decide ((97:Int)≤(r7 O (0:Int))))&&(decide ((r7 O (0:Int))≤(122:Int))))))=true then some (false) else sZ (rE (S1 O) (1:Int)) fun _=>some (true) else none
section
variable (O:pG)
abbrev a48:List qI:=[(.val .str O,none)]
abbrev a49:List qH:=[]
@[go_sem] def a5a:qQ:=⟨[((GN O)).isSome=true],[(.val .bool (val (GN O)),none)],[]⟩
def aFr:List qI→List qH→Option qQ:=rT (V:=pG) (a48) (fun x=>a49) fun x=>a5a x
@[go_sem] def aT2:aFr (no_index (a48 O)) (no_index a49)=some (a5a O):=rV (fun a0 b0 h1 h2=>by cases h1;cases h2;rfl) O
end
@[go_sem] abbrev a5b:Nat×rI:=(116,⟨[.v],aFr,[],[],none⟩)
def FJ:rL Tryz.prog [sM] (rK [aEm,aEp]):=⟨⟨sO,trivial⟩,qU aNC (qU aND rX),rM⟩
def aFs:rP Tryz.prog a5b:=by
 refine rW FJ Tryz.func116 (c:=_) rfl (N:=48) pX (ts:=[(2,none)]) rfl (fun _ _=>rfl) ?_;intro O hs hrow;dsimp only[a48,a49,a5a,rQ,qW,rF,rO,rS,Nat.reduceAdd] at hs hrow|-;have hz:=hs;obtain⟨z0,f⟩:=aVb.1 hz
 try rw[s9 f]
 clear hz hs;unfold GN at f;refine qG FJ ?_;refine qZ ?_;obtain⟨hg1,f⟩:=qP f;refine qG FJ ?_ (hp:=by exact⟨id,id,u6,id,hg1,id,id,u6⟩);refine qY f (fun f hc1=> ?_) (fun f hc1=> ?_)
 .refine qG FJ ?_;refine qR (s0 ?_);cases f;exact pI []
 .refine rJ (qS (qZ ?_));refine qG FJ ?_;refine sA ?_;obtain⟨y1,hy1,f⟩:=wG f;refine uS 0 (fun s=> ∃v,y1= .inl v∧s=(fun _=>⟨[],[],0,48,0⟩) v) ?_ ?_
  .refine uR hy1 (fun x=>⟨[(0,(.val .str O,none)),(3,(.val (.int .i64) x,none))],[],0,48,0⟩) ⟨[0,3],[]⟩ pY ?_;intro Z w1 n1 e g;unfold S1 at e;dsimp only at e|-;refine qZ ?_;refine qG FJ ?_;refine qY e (fun e hc2=> ?_) (fun e hc2=> ?_)
   .refine rJ (qS (qZ (sA ?_)));obtain⟨hg2,e⟩:=qP e;refine qG FJ ?_ (hp:=by exact hg2);refine qG FJ ?_ (hp:=by exact⟨id,id,sL,id,sL,id,sL,id,sL⟩);refine qY e (fun e hc3=> ?_) (fun e hc3=> ?_)
    .refine qG FJ ?_;refine qR (sF (s0 (wF (wE (sF (s0 ?_))))));cases e;cases g;dsimp only at f;cases f;exact pI []
    .refine rJ (s5 (qS ?_));obtain⟨hg3,e⟩:=qP e;refine rY FJ ?_ (hp:=by exact hg3);cases e;exact tI ⟨⟨[0,3],[]⟩,_,by rfl,g⟩
   .refine uF (uK (uH ?_));cases e;cases g;exact uG ⟨⟨[],[]⟩,_,rfl,by rfl⟩
  .rintro _ ⟨v,rfl,rfl⟩;dsimp only at f|-;refine uQ (qS ?_);refine qG FJ ?_;refine qR ?_;cases f;exact pI []
attribute [irreducible] OK I6 GN
end
noncomputable section
def LW (O:pG) (Z:pG):Option Unit:=(OB O Z).bind fun aA=>some (())
section
variable (O:pG) (Z:pG)
abbrev a5c:List qI:=[(.val .str O,none),(.val .str Z,none)]
abbrev a5d:List qH:=[]
@[go_sem] def a5e:qQ:=⟨[((LW O Z)).isSome=true],[(.val .bool ((decide ((Z.length:Int)≤(O.length:Int)))&&(decide ((qV O (0:Int) (Z.length:Int))=Z))),none)],[]⟩
def aFt:List qI→List qH→Option qQ:=rT (V:=(pG×pG)) (fun x=>a5c x.1 x.2) (fun x=>a5d) fun x=>a5e x.1 x.2
@[go_sem] def aT3:aFt (no_index (a5c O Z)) (no_index a5d)=some (a5e O Z):=rV (fun⟨a0,a1⟩ ⟨b0,b1⟩ h1 h2=>by cases h1;cases h2;rfl) (O,Z)
end
@[go_sem] abbrev aFu:Nat×rI:=(136,⟨[.v,.v],aFt,[],[],none⟩)
def a5f:rL Tryz.prog [] (rK [a3w]):=⟨trivial,qU aEx rX,rM⟩
def aN1:rP Tryz.prog aFu:=by
 refine rW a5f Tryz.func136 (c:=_) rfl (N:=8) pX (ts:=[(4,none)]) rfl (fun _ _=>rfl) ?_;intro⟨O,Z⟩ hs hrow;dsimp only[a5c,a5d,a5e,rQ,qW,rF,rO,rS,Nat.reduceAdd] at hs hrow|-;have hz:=hs;obtain⟨z0,d⟩:=aVb.1 hz
 try rw[s9 d]
 clear hz hs;unfold LW at d;refine qG a5f ?_;obtain⟨aA,hv1,hw1,d⟩:=rH d
 try simp only[go_sem] at hw1
 refine qG a5f ?_ (hp:=by exact(rG hv1)) (h:=by simp only[go_sem,hw1];rfl);refine qR ?_;cases d;exact pI []
def LX (O:pG) (Z:pG):Option (pG×Bool):=(OC O Z).bind fun aA=>some ((aA.1,aA.2))
section
variable (O:pG) (Z:pG)
abbrev a5g:List qI:=[(.val .str O,none),(.val .str Z,none)]
abbrev a5h:List qH:=[]
@[go_sem] def a5i:qQ:=⟨[((LX O Z)).isSome=true],[(.val .str ((val (LX O Z)).1),none),(.val .bool ((val (LX O Z)).2),none)],[]⟩
def aFv:List qI→List qH→Option qQ:=rT (V:=(pG×pG)) (fun x=>a5g x.1 x.2) (fun x=>a5h) fun x=>a5i x.1 x.2
@[go_sem] def aT4:aFv (no_index (a5g O Z)) (no_index a5h)=some (a5i O Z):=rV (fun⟨a0,a1⟩ ⟨b0,b1⟩ h1 h2=>by cases h1;cases h2;rfl) (O,Z)
end
@[go_sem] abbrev aFw:Nat×rI:=(137,⟨[.v,.v],aFv,[],[],none⟩)
def a5j:rL Tryz.prog [] (rK [aEz]):=⟨trivial,qU aNG rX,rM⟩
def aN2:rP Tryz.prog aFw:=by
 refine rW a5j Tryz.func137 (c:=_) rfl (N:=11) pX (ts:=[(4,none),(5,none)]) rfl (fun _ _=>rfl) ?_;intro⟨O,Z⟩ hs hrow;dsimp only[a5g,a5h,a5i,rQ,qW,rF,rO,rS,Nat.reduceAdd] at hs hrow|-;have hz:=hs;obtain⟨z0,d⟩:=aVb.1 hz
 try rw[s9 d]
 clear hz hs;unfold LX at d;refine qG a5j ?_;obtain⟨aA,hv1,hw1,d⟩:=rH d
 try simp only[go_sem] at hw1
 refine qG a5j ?_ (hp:=by exact(rG hv1)) (h:=by simp only[go_sem,hw1];rfl);refine qR ?_;cases d;exact pI []
def aFx (O:Int) (Z:pG) (aA:Int):Int→Option (Int⊕(Unit⊕Int)):=fun aB=>if (decide (aB<(Z.length:Int)))=true then if 0≤aB∧aB<(Z.length:Int) then if (decide ((r7 Z aB)=aA))=true then some (.inr (.inr (aB))) else if (((!decide (O=(4:Int)))==true)=true→0≤aB∧aB<(Z.length:Int)) then if ((!decide (O=(4:Int)))&&(decide ((r7 Z aB)=(92:Int))))=true then if qJ (aB+(1:Int)) then if qJ ((aB+(1:Int))+(1:Int)) then some (.inl ((aB+(1:Int))+(1:Int))) else none else none else if qJ (aB+(1:Int)) then some (.inl (aB+(1:Int))) else none else none else none else some (.inr (.inl ()))
def LY (O:Int) (Z:pG) (aA:Int):Option Int:=if (!((decide ((1:Int)≤O))&&(decide (O≤(4:Int)))))=true then some ((-1:Int)) else sZ (rE (aFx O Z aA) (0:Int)) fun _=>some ((-1:Int))
section
variable (O:Int) (Z:pG) (aA:Int)
abbrev a5k:List qI:=[(.val (.int .i64) O,none),(.val .str Z,none),(.val (.int .u8) aA,none)]
abbrev a5l:List qH:=[]
@[go_sem] def a5m:qQ:=⟨[((LY O Z aA)).isSome=true],[(.val (.int .i64) (val (LY O Z aA)),none)],[]⟩
def aFy:List qI→List qH→Option qQ:=rT (V:=(Int×pG×Int)) (fun x=>a5k x.1 x.2.1 x.2.2) (fun x=>a5l) fun x=>a5m x.1 x.2.1 x.2.2
@[go_sem] def aT5:aFy (no_index (a5k O Z aA)) (no_index a5l)=some (a5m O Z aA):=rV (fun⟨a0,a1,a2⟩ ⟨b0,b1,b2⟩ h1 h2=>by cases h1;cases h2;rfl) (O,Z,aA)
end
@[go_sem] abbrev aFz:Nat×rI:=(139,⟨[.v,.v,.v],aFy,[],[],none⟩)
def DG:rL Tryz.prog [sM] (rK [WQ]):=⟨⟨sO,trivial⟩,qU a2Z rX,rM⟩
def aN3:rP Tryz.prog aFz:=by
 refine rW DG Tryz.func139 (c:=_) rfl (N:=33) pX (ts:=[(6,none)]) rfl (fun _ _=>rfl) ?_;intro⟨O,Z,aA⟩ hs hrow;dsimp only[a5k,a5l,a5m,rQ,qW,rF,rO,rS,Nat.reduceAdd] at hs hrow|-;have hz:=hs;obtain⟨z0,d⟩:=aVb.1 hz
 try rw[s9 d]
 clear hz hs;unfold LY at d;refine qG DG ?_;refine qZ ?_;refine qG DG ?_;refine qY d (fun d hc1=> ?_) (fun d hc1=> ?_)
 .refine qG DG ?_;refine qR (s0 ?_);cases d;exact pI []
 .refine rJ (qS (qZ ?_));refine qG DG ?_;refine sA ?_;obtain⟨y1,hy1,d⟩:=wG d;refine uS 0 (fun s=> ∃v,y1= .inl v∧s=(fun _=>⟨[],[],0,33,0⟩) v) ?_ ?_
  .refine uR hy1 (fun x=>⟨[(0,(.val (.int .i64) O,none)),(1,(.val .str Z,none)),(2,(.val (.int .u8) aA,none)),(7,(.val (.int .i64) x,none))],[],0,33,0⟩) ⟨[0,1,2,7],[]⟩ pY ?_;intro aB w1 n1 e g;unfold aFx at e;dsimp only at e|-;refine qZ ?_;refine qG DG ?_;refine qY e (fun e hc2=> ?_) (fun e hc2=> ?_)
   .refine rJ (qS (qZ (sA (qZ ?_))));obtain⟨hg1,e⟩:=qP e;refine qG DG ?_ (hp:=by exact hg1);refine qY e (fun e hc3=> ?_) (fun e hc3=> ?_)
    .refine qG DG ?_;refine qR (s0 (sF (s0 (wF (wE (sF (s0 ?_)))))));cases e;cases g;dsimp only at d;cases d;exact pI []
    .refine rJ (qS ?_);obtain⟨hg2,e⟩:=qP e;refine qG DG ?_ (hp:=by exact⟨id,id,hg2,id,sL⟩);refine qY e (fun e hc4=> ?_) (fun e hc4=> ?_)
     .obtain⟨hg3,e⟩:=qP e;refine rY DG ?_ (hp:=by exact hg3);refine s5 (qS ?_);obtain⟨hg4,e⟩:=qP e;refine rY DG ?_ (hp:=by exact hg4);cases e;exact tI ⟨⟨[0,1,2,7],[]⟩,_,by rfl,g⟩
     .refine rJ (s5 (qS ?_));obtain⟨hg5,e⟩:=qP e;refine rY DG ?_ (hp:=by exact hg5);cases e;exact tI ⟨⟨[0,1,2,7],[]⟩,_,by rfl,g⟩
   .refine uF (uK (uH ?_));cases e;cases g;exact uG ⟨⟨[],[]⟩,_,rfl,by rfl⟩
  .rintro _ ⟨v,rfl,rfl⟩;dsimp only at d|-;refine uQ (qS ?_);refine qG DG ?_;refine qR ?_;cases d;exact pI []
def I7 (O:pH) (Z:pG):Option Bool:=(DF O Z).bind fun aA=>some ((decide ((0:Int)≤aA)))
section
variable (O:pH) (Z:pG)
abbrev a5n:List qI:=[(.val (.list .str) O,none),(.val .str Z,none)]
abbrev a5o:List qH:=[]
@[go_sem] def a5p:qQ:=⟨[((I7 O Z)).isSome=true],[(.val .bool (val (I7 O Z)),none)],[]⟩
def aFA:List qI→List qH→Option qQ:=rT (V:=(pH×pG)) (fun x=>a5n x.1 x.2) (fun x=>a5o) fun x=>a5p x.1 x.2
@[go_sem] def aT6:aFA (no_index (a5n O Z)) (no_index a5o)=some (a5p O Z):=rV (fun⟨a0,a1⟩ ⟨b0,b1⟩ h1 h2=>by cases h1;cases h2;rfl) (O,Z)
end
@[go_sem] abbrev X7:Nat×rI:=(186,⟨[.v,.v],aFA,[],[],none⟩)
def a5q:rL Tryz.prog [] (rK [WX]):=⟨trivial,qU aEB rX,rM⟩
def aFB:rP Tryz.prog X7:=by
 refine rW a5q Tryz.func186 (c:=_) rfl (N:=9) pX (ts:=[(4,none)]) rfl (fun _ _=>rfl) ?_;intro⟨O,Z⟩ hs hrow;dsimp only[a5n,a5o,a5p,rQ,qW,rF,rO,rS,Nat.reduceAdd] at hs hrow|-;have hz:=hs;obtain⟨z0,d⟩:=aVb.1 hz
 try rw[s9 d]
 clear hz hs;unfold I7 at d;refine qG a5q ?_;obtain⟨aA,hv1,hw1,d⟩:=rH d
 try simp only[go_sem] at hw1
 refine qG a5q ?_ (hp:=by exact(rG hv1)) (h:=by simp only[go_sem,hw1];rfl);refine qR ?_;cases d;exact pI []
attribute [irreducible] LW LX LY I7
end
noncomputable section
def I8 (O:Int) (Z:Int) (aA:Bool):Option pG:=sB (σ:=pG) (if (decide (O=(1:Int)))=true then some (([61,58,35,33]:pG)) else if (decide (O=(2:Int)))=true then some (([34]:pG)) else if (decide (O=(3:Int)))=true then some (([34,123,125]:pG)) else some (([]:pG)) ) fun aB=>if (decide (Z=(92:Int)))=true then some (([92,92]:pG)) else if (decide (Z=(10:Int)))=true then some (([92,110]:pG)) else if (decide (Z=(13:Int)))=true then some (([92,114]:pG)) else if (decide (Z=(9:Int)))=true then some (([92,116]:pG)) else sB (σ:=Bool) (if (decide ((0:Int)≤(uY aB Z)))=true then some ((decide ((0:Int)≤(uY aB Z)))) else some ((((decide (O=(1:Int)))&&aA)&&(decide (Z=(32:Int))))) ) fun aC=>if aC=true then if ((([92]:pG)++(tE ([Z]:pP))).length:Int)≤9223372036854775807 then some ((([92]:pG)++(tE ([Z]:pP)))) else none else if (((decide (Z<(32:Int)))||(decide (Z=(127:Int))))&&(decide (O=(3:Int))))=true then (RR Z (4:Int)).bind fun aD=>if ((([92,117]:pG)++((LL ([48]:pG) ((4:Int)- ((xG (IntKind.wrap .i64 Z) (16:Int)).length:Int)))++(xG (IntKind.wrap .i64 Z) (16:Int)))).length:Int)≤9223372036854775807 then some ((([92,117]:pG)++((LL ([48]:pG) ((4:Int)- ((xG (IntKind.wrap .i64 Z) (16:Int)).length:Int)))++(xG (IntKind.wrap .i64 Z) (16:Int))))) else none else if ((decide (Z<(32:Int)))||(decide (Z=(127:Int))))=true then (RR Z (2:Int)).bind fun aE=>if ((([92,120]:pG)++((LL ([48]:pG) ((2:Int)- ((xG (IntKind.wrap .i64 Z) (16:Int)).length:Int)))++(xG (IntKind.wrap .i64 Z) (16:Int)))).length:Int)≤9223372036854775807 then some ((([92,120]:pG)++((LL ([48]:pG) ((2:Int)- ((xG (IntKind.wrap .i64 Z) (16:Int)).length:Int)))++(xG (IntKind.wrap .i64 Z) (16:Int))))) else none else some ((tE ([Z]:pP)))
section
variable (O:Int) (Z:Int) (aA:Bool)
abbrev a5r:List qI:=[(.val (.int .i64) O,none),(.val (.int .u8) Z,none),(.val .bool aA,none)]
abbrev a5s:List qH:=[]
@[go_sem] def a5t:qQ:=⟨[((I8 O Z aA)).isSome=true],[(.val .str (val (I8 O Z aA)),none)],[]⟩
def aFC:List qI→List qH→Option qQ:=rT (V:=(Int×Int×Bool)) (fun x=>a5r x.1 x.2.1 x.2.2) (fun x=>a5s) fun x=>a5t x.1 x.2.1 x.2.2
@[go_sem] def aT7:aFC (no_index (a5r O Z aA)) (no_index a5s)=some (a5t O Z aA):=rV (fun⟨a0,a1,a2⟩ ⟨b0,b1,b2⟩ h1 h2=>by cases h1;cases h2;rfl) (O,Z,aA)
end
@[go_sem] abbrev aFD:Nat×rI:=(166,⟨[.v,.v,.v],aFC,[],[],none⟩)
def wI:rL Tryz.prog [EB,sM,GD] (rK [O4,aEG,aEI]):=⟨⟨GF,⟨sO,⟨JE,trivial⟩⟩⟩,qU RH (qU aNI (qU aNJ rX)),rM⟩
def aN4:rP Tryz.prog aFD:=by
 refine rW wI Tryz.func166 (c:=_) rfl (N:=64) pX (ts:=[(6,none)]) rfl (fun _ _=>rfl) ?_;intro⟨O,Z,aA⟩ hs hrow;dsimp only[a5r,a5s,a5t,rQ,qW,rF,rO,rS,Nat.reduceAdd] at hs hrow|-;have hz:=hs;obtain⟨z0,d⟩:=aVb.1 hz
 try rw[s9 d]
 clear hz hs;unfold I8 at d;refine qG wI ?_;refine qG wI ?_;refine qZ ?_;refine qG wI ?_;obtain⟨aB,e,d⟩:=qK d;refine DA (fun s=>s=(fun x=>⟨[(0,(.val (.int .i64) O,none)),(1,(.val (.int .u8) Z,none)),(2,(.val .bool aA,none)),(7,(.val .str x,none))],[],0,64,0⟩) aB) ?_ ?_
 .refine sA ?_;refine qG wI ?_;refine qY e (fun e hc1=> ?_) (fun e hc1=> ?_)
  .refine rY wI ?_;refine s5 ?_;cases e;exact vO ⟨⟨[0,1,2,7],[]⟩,by rfl⟩
  .refine qG wI ?_;refine qY e (fun e hc2=> ?_) (fun e hc2=> ?_)
   .refine rY wI ?_;refine s5 ?_;cases e;exact vO ⟨⟨[0,1,2,7],[]⟩,by rfl⟩
   .refine qG wI ?_;refine qY e (fun e hc3=> ?_) (fun e hc3=> ?_)
    .refine rY wI ?_;refine s5 ?_;cases e;exact vO ⟨⟨[0,1,2,7],[]⟩,by rfl⟩
    .refine rJ (s5 ?_);cases e;exact vO ⟨⟨[0,1,2,7],[]⟩,by rfl⟩
 .rintro _ rfl;dsimp only at d|-;refine qS (qZ (sA ?_));refine qG wI ?_;refine qY d (fun d hc4=> ?_) (fun d hc4=> ?_)
  .refine qG wI ?_;refine qR (sF (s0 ?_));cases d;exact pI []
  .refine qG wI ?_;refine qY d (fun d hc5=> ?_) (fun d hc5=> ?_)
   .refine qG wI ?_;refine qR (sF (s0 ?_));cases d;exact pI []
   .refine qG wI ?_;refine qY d (fun d hc6=> ?_) (fun d hc6=> ?_)
    .refine qG wI ?_;refine qR (sF (s0 ?_));cases d;exact pI []
    .refine qG wI ?_;refine qY d (fun d hc7=> ?_) (fun d hc7=> ?_)
     .refine qG wI ?_;refine qR (sF (s0 ?_));cases d;exact pI []
     .refine qZ ?_;refine qG wI ?_;obtain⟨aC,e,d⟩:=qK d;refine DA (fun s=>s=(fun x=>⟨[(0,(.val (.int .i64) O,none)),(1,(.val (.int .u8) Z,none)),(27,(.val .bool x,none))],[],0,64,0⟩) aC) ?_ ?_
      .refine qY e (fun e hc8=> ?_) (fun e hc8=> ?_)
       .refine rJ ?_;cases e;exact vO ⟨⟨[0,1,27],[]⟩,by rfl⟩
       .refine rY wI ?_ (hp:=by exact⟨sL,id,sL⟩);cases e;exact vO ⟨⟨[0,1,27],[]⟩,by rfl⟩
      .rintro _ rfl;dsimp only at d|-;refine qS ?_;refine qY d (fun d hc9=> ?_) (fun d hc9=> ?_)
       .obtain⟨hg1,d⟩:=qP d;refine qG wI ?_ (hp:=by exact hg1);refine qR (sF (s0 ?_));cases d;exact pI []
       .refine qG wI ?_ (hp:=by exact⟨id,sL⟩);refine qY d (fun d hc10=> ?_) (fun d hc10=> ?_)
        .obtain⟨aD,hv2,hw2,d⟩:=rH d
         try simp only[go_sem] at hw2
         obtain⟨hg3,d⟩:=qP d;refine qG wI ?_ (hp:=by exact⟨rG hv2,hg3⟩) (h:=by simp only[go_sem,hw2];rfl);refine qR (sF (s0 ?_));cases d;exact pI []
        .refine qG wI ?_;refine qY d (fun d hc11=> ?_) (fun d hc11=> ?_)
         .obtain⟨aE,hv4,hw4,d⟩:=rH d
          try simp only[go_sem] at hw4
          obtain⟨hg5,d⟩:=qP d;refine qG wI ?_ (hp:=by exact⟨rG hv4,hg5⟩) (h:=by simp only[go_sem,hw4];rfl);refine qR (sF (s0 ?_));cases d;exact pI []
         .refine rJ (s5 (qS ?_));refine qG wI ?_;refine qR ?_;cases d;exact pI []
def X8 (O:Int) (Z:Int) (aA:Bool):Option pG:=if (decide (O=(4:Int)))=true then if False then some ((WA Z)) else none else if (decide (Z=(10:Int)))=true then some (([92,110]:pG)) else if (decide (Z=(13:Int)))=true then some (([92,114]:pG)) else if (decide (Z=(9:Int)))=true then some (([92,116]:pG)) else sB (σ:=Bool) (if (decide (Z=(92:Int)))=true then some ((decide (Z=(92:Int)))) else if (((decide (O=(1:Int)))==true)=true→((FE Z ([61,58,35,33]:pG))).isSome=true) then if ((decide (O=(1:Int)))&&(val (FE Z ([61,58,35,33]:pG))))=true then some (((decide (O=(1:Int)))&&(val (FE Z ([61,58,35,33]:pG))))) else if (((decide (O=(1:Int)))&&aA)&&(decide (Z=(32:Int))))=true then some ((((decide (O=(1:Int)))&&aA)&&(decide (Z=(32:Int))))) else if ((!decide (O=(1:Int)))&&(decide (Z=(34:Int))))=true then some (((!decide (O=(1:Int)))&&(decide (Z=(34:Int))))) else if (((decide (O=(3:Int)))==true)=true→((FE Z ([123,125]:pG))).isSome=true) then some (((decide (O=(3:Int)))&&(val (FE Z ([123,125]:pG))))) else none else none ) fun aB=>if aB=true then if ((([92]:pG)++(tE ([Z]:pP))).length:Int)≤9223372036854775807 then some ((([92]:pG)++(tE ([Z]:pP)))) else none else if (((decide (Z<(32:Int)))||(decide (Z=(127:Int))))&&(decide (O=(3:Int))))=true then (a3P (IntKind.wrap .i64 Z)).bind fun aC=>if ((([92,117,48,48]:pG)++(tE ([(r7 ([48,49,50,51,52,53,54,55,56,57,97,98,99,100,101,102]:pG) (IntKind.wrap .i64 (Int.tdiv (IntKind.wrap .i64 Z) (16:Int)))),(r7 ([48,49,50,51,52,53,54,55,56,57,97,98,99,100,101,102]:pG) (Int.tmod (IntKind.wrap .i64 Z) (16:Int)))]:pP))).length:Int)≤9223372036854775807 then some ((([92,117,48,48]:pG)++(tE ([(r7 ([48,49,50,51,52,53,54,55,56,57,97,98,99,100,101,102]:pG) (IntKind.wrap .i64 (Int.tdiv (IntKind.wrap .i64 Z) (16:Int)))),(r7 ([48,49,50,51,52,53,54,55,56,57,97,98,99,100,101,102]:pG) (Int.tmod (IntKind.wrap .i64 Z) (16:Int)))]:pP)))) else none else if ((decide (Z<(32:Int)))||(decide (Z=(127:Int))))=true then (a3P (IntKind.wrap .i64 Z)).bind fun aD=>if ((([92,120]:pG)++(tE ([(r7 ([48,49,50,51,52,53,54,55,56,57,97,98,99,100,101,102]:pG) (IntKind.wrap .i64 (Int.tdiv (IntKind.wrap .i64 Z) (16:Int)))),(r7 ([48,49,50,51,52,53,54,55,56,57,97,98,99,100,101,102]:pG) (Int.tmod (IntKind.wrap .i64 Z) (16:Int)))]:pP))).length:Int)≤9223372036854775807 then some ((([92,120]:pG)++(tE ([(r7 ([48,49,50,51,52,53,54,55,56,57,97,98,99,100,101,102]:pG) (IntKind.wrap .i64 (Int.tdiv (IntKind.wrap .i64 Z) (16:Int)))),(r7 ([48,49,50,51,52,53,54,55,56,57,97,98,99,100,101,102]:pG) (Int.tmod (IntKind.wrap .i64 Z) (16:Int)))]:pP)))) else none else some ((tE ([Z]:pP)))
def OL (O:pP):(pG×Int)→Option ((pG×Int)⊕pG):=fun(Z,aA)=>if (decide (aA<(O.length:Int)))=true then if 0≤aA∧aA<(O.length:Int) then if (((decide ((0:Int)≤(rC (.int .i64) O aA)))&&(decide ((rC (.int .i64) O aA)≤(1114111:Int))))&&((decide ((rC (.int .i64) O aA)<(55296:Int)))||(decide ((57343:Int)<(rC (.int .i64) O aA)))))=true then if 0≤aA∧aA<(O.length:Int) then (CO (rC (.int .i64) O aA)).bind fun aB=>if ((Z++aB).length:Int)≤9223372036854775807 then if qJ (aA+(1:Int)) then some (.inl ((Z++aB),(aA+(1:Int)))) else none else none else none else (CO (65533:Int)).bind fun aC=>if ((Z++aC).length:Int)≤9223372036854775807 then if qJ (aA+(1:Int)) then some (.inl ((Z++aC),(aA+(1:Int)))) else none else none else none else some (.inr Z)
def LZ (O:pP):Option pG:=sB (rE (OL O) (([]:pG),(0:Int))) fun Z=>some (Z)
section
variable (O:pP)
abbrev a5u:List qI:=[(.val (.list (.int .i64)) O,none)]
abbrev a5v:List qH:=[]
@[go_sem] def a5w:qQ:=⟨[((LZ O)).isSome=true],[(.val .str (val (LZ O)),none)],[]⟩
def aFE:List qI→List qH→Option qQ:=rT (V:=pP) (a5u) (fun x=>a5v) fun x=>a5w x
@[go_sem] def aT8:aFE (no_index (a5u O)) (no_index a5v)=some (a5w O):=rV (fun a0 b0 h1 h2=>by cases h1;cases h2;rfl) O
end
@[go_sem] abbrev aFF:Nat×rI:=(171,⟨[.v],aFE,[],[],none⟩)
def FK:rL Tryz.prog [vP,JH] (rK [a3T,a3Y]):=⟨⟨w8,⟨O2,trivial⟩⟩,qU aEL (qU aEN rX),rM⟩
def aN5:rP Tryz.prog aFF:=by
 refine rW FK Tryz.func171 (c:=_) rfl (N:=27) pX (ts:=[(2,none)]) rfl (fun _ _=>rfl) ?_;intro O hs hrow;dsimp only[a5u,a5v,a5w,rQ,qW,rF,rO,rS,Nat.reduceAdd] at hs hrow|-;have hz:=hs;obtain⟨z0,d⟩:=aVb.1 hz
 try rw[s9 d]
 clear hz hs;unfold LZ at d;refine qG FK ?_;refine qG FK ?_;refine qZ ?_;refine qG FK ?_;refine sA ?_;obtain⟨Z,hy1,d⟩:=qK d;refine uS 0 (fun s=>s=(fun x=>⟨[(3,(.val .str x,none))],[],0,27,0⟩) Z) ?_ ?_
 .refine uR hy1 (fun x=>⟨[(0,(.val (.list (.int .i64)) O,none)),(3,(.val .str x.1,none)),(4,(.val (.int .i64) x.2,none))],[],0,27,0⟩) ⟨[0,3,4],[]⟩ pY ?_;intro x1 w1 n1 e g;obtain⟨aA,aB⟩:=x1;unfold OL at e;dsimp only at e|-;refine qZ ?_;refine qG FK ?_;refine qY e (fun e hc1=> ?_) (fun e hc1=> ?_)
  .refine rJ (qS (qZ (sA ?_)));obtain⟨hg1,e⟩:=qP e;refine qG FK ?_ (hp:=by exact hg1);refine qY e (fun e hc2=> ?_) (fun e hc2=> ?_)
   .obtain⟨hg2,e⟩:=qP e;obtain⟨aC,hv3,hw3,e⟩:=rH e
    try simp only[go_sem] at hw3
    obtain⟨hg4,e⟩:=qP e;refine rY FK ?_ (hp:=by exact⟨hg2,rG hv3,hg4⟩) (h:=by simp only[go_sem,hw3];rfl);refine s5 (qS ?_);obtain⟨hg5,e⟩:=qP e;refine rY FK ?_ (hp:=by exact hg5);cases e;exact tI ⟨⟨[0,3,4],[]⟩,_,by rfl,g⟩
   .obtain⟨aD,hv6,hw6,e⟩:=rH e
    try simp only[go_sem] at hw6
    obtain⟨hg7,e⟩:=qP e;refine rY FK ?_ (hp:=by exact⟨rG hv6,hg7⟩) (h:=by simp only[go_sem,hw6];rfl);refine s5 (qS ?_);obtain⟨hg8,e⟩:=qP e;refine rY FK ?_ (hp:=by exact hg8);cases e;exact tI ⟨⟨[0,3,4],[]⟩,_,by rfl,g⟩
  .refine uF (uK (uH ?_));cases e;cases g;exact uG ⟨⟨[3],[]⟩,by rfl⟩
 .rintro _ rfl;dsimp only at d|-;refine uQ (qS ?_);refine qG FK ?_;refine qR ?_;cases d;exact pI []
attribute [irreducible] I8 X8 LZ
end
noncomputable section
def OM:(pG×pP)→Option ((pG×pP)⊕pP):=fun(O,Z)=>if (decide ((0:Int)<(O.length:Int)))=true then (JM O).bind fun aA=>if (Z.length+([aA.1]:pP).length)*8≤140737488355328 then if 0≤aA.2∧aA.2≤(O.length:Int)∧(O.length:Int)≤(O.length:Int) then some (.inl ((qV O aA.2 (O.length:Int)),(Z++([aA.1]:pP)))) else none else none else some (.inr Z)
def JQ (O:pG):Option pP:=sB (rE OM (O,([]:pP))) fun Z=>some (Z)
section
variable (O:pG)
abbrev a5x:List qI:=[(.val .str O,none)]
abbrev a5y:List qH:=[]
@[go_sem] def a5z:qQ:=⟨[((JQ O)).isSome=true],[(.val (.list (.int .i64)) (val (JQ O)),some 0)],[.grow 3 1 ((val (JQ O)).length)]⟩
def aFG:List qI→List qH→Option qQ:=rT (V:=pG) (a5x) (fun x=>a5y) fun x=>a5z x
@[go_sem] def aT9:aFG (no_index (a5x O)) (no_index a5y)=some (a5z O):=rV (fun a0 b0 h1 h2=>by cases h1;cases h2;rfl) O
end
@[go_sem] abbrev aFH:Nat×rI:=(172,⟨[.v],aFG,[],[],none⟩)
def JR:rL Tryz.prog [sM,JH] (rK [aEP]):=⟨⟨sO,⟨O2,trivial⟩⟩,qU aNK rX,rM⟩
def aN6:rP Tryz.prog aFH:=by
 refine rW JR Tryz.func172 (c:=_) rfl (N:=22) pX (ts:=[(2,none)]) rfl (fun _ _=>rfl) ?_;intro O hs hrow;dsimp only[a5x,a5y,a5z,rQ,qW,rF,rO,rS,Nat.reduceAdd] at hs hrow|-;have hz:=hs;obtain⟨z0,d⟩:=aVb.1 hz
 try rw[s9 d]
 clear hz hs;unfold JQ at d;refine qG JR ?_;refine qG JR ?_;refine qZ (sA ?_);obtain⟨Z,hy1,d⟩:=qK d;refine uS 0 (fun s=>s=(fun x=>⟨[(3,(.val (.list (.int .i64)) x,some 0))],[(0,.grow 3 1 (x.length))],1,22,0⟩) Z) ?_ ?_
 .refine uR hy1 (fun x=>⟨[(0,(.val .str x.1,none)),(3,(.val (.list (.int .i64)) x.2,some 0))],[(0,.grow 3 1 (x.2.length))],1,22,0⟩) ⟨[0,3],[(0,32)]⟩ pY ?_;intro x1 w1 n1 e f;obtain⟨aA,aB⟩:=x1;unfold OM at e;dsimp only at e|-;refine qZ ?_;refine qG JR ?_;refine qY e (fun e hc1=> ?_) (fun e hc1=> ?_)
  .refine rJ (qS (sA ?_));obtain⟨aC,hv1,hw1,e⟩:=rH e
   try simp only[go_sem] at hw1
   refine qG JR ?_ (hp:=by exact(rG hv1)) (h:=by simp only[go_sem,hw1];rfl);obtain⟨hg2,e⟩:=qP e;refine qG JR ?_ (hp:=by exact⟨pW,hg2⟩)
   obtain⟨hg3,e⟩:=qP e;refine rY JR ?_ (hp:=by exact hg3);refine s5 ?_;cases e;exact tI ⟨⟨[0,3],[(0,0)]⟩,_,by rfl,f⟩
  .refine uF (uK (uH ?_));cases e;cases f;exact uG ⟨⟨[3],[(0,0)]⟩,by rfl⟩
 .rintro _ rfl;dsimp only at d|-;refine uQ (qS ?_);refine qG JR ?_;refine qR ?_;cases d;exact pI [(0,0)]
def I9 (O:(List r5)) (Z:pG):Option Int:=(OG O Z).bind fun aA=>some (aA)
section
variable (O:(List r5)) (Z:pG)
abbrev a5A:List qI:=[(.val (.list (.pair .str (.pair .str .unit))) O,none),(.val .str Z,none)]
abbrev a5B:List qH:=[]
@[go_sem] def a5C:qQ:=⟨[((I9 O Z)).isSome=true],[(.val (.int .i64) (val (I9 O Z)),none)],[]⟩
def aFI:List qI→List qH→Option qQ:=rT (V:=((List r5)×pG)) (fun x=>a5A x.1 x.2) (fun x=>a5B) fun x=>a5C x.1 x.2
@[go_sem] def aUa:aFI (no_index (a5A O Z)) (no_index a5B)=some (a5C O Z):=rV (fun⟨a0,a1⟩ ⟨b0,b1⟩ h1 h2=>by cases h1;cases h2;rfl) (O,Z)
end
@[go_sem] abbrev a5D:Nat×rI:=(237,⟨[.v,.v],aFI,[],[],none⟩)
def a5E:rL Tryz.prog [sM] (rK [aFd]):=⟨⟨sO,trivial⟩,qU aNT rX,rM⟩
def aFJ:rP Tryz.prog a5D:=by
 refine rW a5E Tryz.func237 (c:=_) rfl (N:=8) pX (ts:=[(4,none)]) rfl (fun _ _=>rfl) ?_;intro⟨O,Z⟩ hs hrow;dsimp only[a5A,a5B,a5C,rQ,qW,rF,rO,rS,Nat.reduceAdd] at hs hrow|-;have hz:=hs;obtain⟨z0,d⟩:=aVb.1 hz
 try rw[s9 d]
 clear hz hs;unfold I9 at d;refine qG a5E ?_;obtain⟨aA,hv1,hw1,d⟩:=rH d
 try simp only[go_sem] at hw1
 refine qG a5E ?_ (hp:=by exact⟨pW,(rG hv1)⟩) (h:=by simp only[go_sem,hw1];rfl)
 refine qR ?_;cases d;exact pI []
def JS (O:(List r5)) (Z:pG):Option (pG×Bool):=(I9 O Z).bind fun aA=>if (decide (aA<(0:Int)))=true then some ((([]:pG),false)) else if 0≤aA∧aA<(O.length:Int) then some (((rC (.pair .str (.pair .str .unit)) O aA).2.1,true)) else none
section
variable (O:(List r5)) (Z:pG)
abbrev a5F:List qI:=[(.val (.list (.pair .str (.pair .str .unit))) O,none),(.val .str Z,none)]
abbrev a5G:List qH:=[]
@[go_sem] def a5H:qQ:=⟨[((JS O Z)).isSome=true],[(.val .str ((val (JS O Z)).1),none),(.val .bool ((val (JS O Z)).2),none)],[]⟩
def aFK:List qI→List qH→Option qQ:=rT (V:=((List r5)×pG)) (fun x=>a5F x.1 x.2) (fun x=>a5G) fun x=>a5H x.1 x.2
@[go_sem] def aUb:aFK (no_index (a5F O Z)) (no_index a5G)=some (a5H O Z):=rV (fun⟨a0,a1⟩ ⟨b0,b1⟩ h1 h2=>by cases h1;cases h2;rfl) (O,Z)
end
@[go_sem] abbrev a5I:Nat×rI:=(255,⟨[.v,.v],aFK,[],[],none⟩)
def ON:rL Tryz.prog [sM,y8,DD] (rK [a5D]):=⟨⟨sO,⟨yX,⟨FC,trivial⟩⟩⟩,qU aFJ rX,rM⟩
def aN7:rP Tryz.prog a5I:=by
 refine rW ON Tryz.func255 (c:=_) rfl (N:=17) pX (ts:=[(4,none),(5,none)]) rfl (fun _ _=>rfl) ?_;intro⟨O,Z⟩ hs hrow;dsimp only[a5F,a5G,a5H,rQ,qW,rF,rO,rS,Nat.reduceAdd] at hs hrow|-;have hz:=hs;obtain⟨z0,d⟩:=aVb.1 hz
 try rw[s9 d]
 clear hz hs;unfold JS at d;refine qG ON ?_;obtain⟨aA,hv1,hw1,d⟩:=rH d
 try simp only[go_sem] at hw1
 refine qG ON ?_ (hp:=by exact(rG hv1)) (h:=by simp only[go_sem,hw1];rfl);refine qZ ?_;refine qG ON ?_;refine qY d (fun d hc1=> ?_) (fun d hc1=> ?_)
 .refine qG ON ?_;refine qR (s0 ?_);cases d;exact pI []
 .refine rJ (qS ?_);obtain⟨hg2,d⟩:=qP d;refine qG ON ?_ (hp:=by exact hg2);refine qR ?_;cases d;exact pI []
def JT (O:pG):Option Bool:=(I7 ([([110,101,119]:pG),([102,117,122,122,121]:pG),([116,114,97,110,115,108,97,116,101,100]:pG),([114,101,118,105,101,119,101,100]:pG),([111,98,115,111,108,101,116,101]:pG)]:pH) O).bind fun Z=>some (Z)
section
variable (O:pG)
abbrev a5J:List qI:=[(.val .str O,none)]
abbrev a5K:List qH:=[]
@[go_sem] def a5L:qQ:=⟨[((JT O)).isSome=true],[(.val .bool (val (JT O)),none)],[]⟩
def aFL:List qI→List qH→Option qQ:=rT (V:=pG) (a5J) (fun x=>a5K) fun x=>a5L x
@[go_sem] def aUc:aFL (no_index (a5J O)) (no_index a5K)=some (a5L O):=rV (fun a0 b0 h1 h2=>by cases h1;cases h2;rfl) O
end
@[go_sem] abbrev aFM:Nat×rI:=(257,⟨[.v],aFL,[],[],none⟩)
def a5M:rL Tryz.prog [] (rK [RL,X7]):=⟨trivial,qU a2t (qU aFB rX),rM⟩
def aN8:rP Tryz.prog aFM:=by
 refine rW a5M Tryz.func257 (c:=_) rfl (N:=6) pX (ts:=[(2,none)]) rfl (fun _ _=>rfl) ?_;intro O hs hrow;dsimp only[a5J,a5K,a5L,rQ,qW,rF,rO,rS,Nat.reduceAdd] at hs hrow|-;have hz:=hs;obtain⟨z0,d⟩:=aVb.1 hz
 try rw[s9 d]
 clear hz hs;unfold JT at d;refine qG a5M ?_;obtain⟨Z,hv1,hw1,d⟩:=rH d
 try simp only[go_sem] at hw1
 refine qG a5M ?_ (hp:=by exact(rG hv1)) (h:=by simp only[go_sem,hw1];rfl);refine qR ?_;cases d;exact pI []
def OO (O:pG) (Z:pG) (aA:pG) (aB:pG) (aC:pH) (aD:(Int×((List r5)×Unit))) (aE:Bool) (aF:pH) (aG:pN):Option Bool:=(I7 aF O).bind fun aH=>some (aH)
section
variable (O:pG) (Z:pG) (aA:pG) (aB:pG) (aC:pH) (aD:Nat) (aE:(Int×((List r5)×Unit))) (aF:Bool) (aG:Nat) (aH:Nat) (aI:pH) (aJ:Nat) (aK:pN)
abbrev a5N:List qI:=[(.val .str O,none),(.val .ref (some (0,0)),none)]
abbrev a5O:List qH:=[.cells .ref (some (1,0)) [],.cells u7 ((Z,(aA,(aB,(aC,((some (4,aD)),aE))))),(aF,((some 5),()))) [(3,2),(6,3)],.grow 9 1 aG,.grow 149 2 aH,.row 9 .str aI aJ,.map .str .bool aK]
@[go_sem] def a5P:qQ:=⟨[aG=(aC.length),aH=(aE.2.1.length),aD=aJ,((OO O Z aA aB aC aE aF aI aK)).isSome=true],[(.val .bool (val (OO O Z aA aB aC aE aF aI aK)),none)],[.cells .ref (some (1,0)) [],.cells u7 ((Z,(aA,(aB,(aC,((some (4,(aI.length))),(aE.1,(aE.2.1,()))))))),(aF,((some 5),()))) [(3,2),(6,3)],.grow 9 1 (aC.length),.grow 149 2 (aE.2.1.length),.row 9 .str aI (aI.length),.map .str .bool aK]⟩
def aFN:List qI→List qH→Option qQ:=rT (V:=(pG×pG×pG×pG×pH×Nat×(Int×((List r5)×Unit))×Bool×Nat×Nat×pH×Nat×pN)) (fun x=>a5N x.1) (fun x=>a5O x.2.1 x.2.2.1 x.2.2.2.1 x.2.2.2.2.1 x.2.2.2.2.2.1 x.2.2.2.2.2.2.1 x.2.2.2.2.2.2.2.1 x.2.2.2.2.2.2.2.2.1 x.2.2.2.2.2.2.2.2.2.1 x.2.2.2.2.2.2.2.2.2.2.1 x.2.2.2.2.2.2.2.2.2.2.2.1 x.2.2.2.2.2.2.2.2.2.2.2.2) fun x=>a5P x.1 x.2.1 x.2.2.1 x.2.2.2.1 x.2.2.2.2.1 x.2.2.2.2.2.1 x.2.2.2.2.2.2.1 x.2.2.2.2.2.2.2.1 x.2.2.2.2.2.2.2.2.1 x.2.2.2.2.2.2.2.2.2.1 x.2.2.2.2.2.2.2.2.2.2.1 x.2.2.2.2.2.2.2.2.2.2.2.1 x.2.2.2.2.2.2.2.2.2.2.2.2
@[go_sem] def aUd:aFN (no_index (a5N O)) (no_index (a5O Z aA aB aC aD aE aF aG aH aI aJ aK))=some (a5P O Z aA aB aC aD aE aF aG aH aI aJ aK):=rV (fun⟨a0,a1,a2,a3,a4,a5,a6,a7,a8,a9,a10,a11,a12⟩ ⟨b0,b1,b2,b3,b4,b5,b6,b7,b8,b9,b10,b11,b12⟩ h1 h2=>by cases h1;cases h2;rfl) (O,Z,aA,aB,aC,aD,aE,aF,aG,aH,aI,aJ,aK)
end
@[go_sem] abbrev a5Q:Nat×rI:=(258,⟨[.v,.p .ref []],aFN,[(0,0,.p u7 [3,6]),(1,4,.r),(1,8,.m)],[0,1,2,3,4,5],none⟩)
def aFO:rL Tryz.prog [] (rK [X7]):=⟨trivial,qU aFB rX,rM⟩
def aFP:rL Tryz.prog [wH,EC,O3,DE] (rK [X7]):=⟨⟨wX,⟨GG,⟨WI,⟨FD,trivial⟩⟩⟩⟩,aFO.Γ,rM⟩
def aN9:rP Tryz.prog a5Q:=by
 refine rW aFO Tryz.func258 (c:=_) rfl (N:=11) pX (ts:=[(3,none)]) rfl (fun _ _=>rfl) ?_;intro⟨O,Z,aA,aB,aC,aD,aE,aF,aG,aH,aI,aJ,aK⟩ hs hrow;dsimp only[a5N,a5O,a5P,rQ,qW,rF,rO,rS,Nat.reduceAdd] at hs hrow|-;obtain⟨rfl,rfl,rfl,hz⟩:=hs;obtain⟨rfl,_⟩:=hrow;obtain⟨z0,d⟩:=aVb.1 hz
 try rw[s9 d]
 clear hz;unfold OO at d;refine qG aFP ?_;obtain⟨aL,hv1,hw1,d⟩:=rH d
 try simp only[go_sem] at hw1
 refine qG aFP ?_ (hp:=by exact⟨fun _=>by first|exact rfl|exact trivial,(rG hv1)⟩) (h:=by simp only[go_sem,hw1];rfl)
 refine qR ?_;cases d;exact pI [(0,0),(1,1),(2,2),(3,3),(4,4),(5,5)]
def S2 (O:pG) (Z:Int):(Int×Int)→Option ((Int×Int)⊕(Int⊕Int)):=fun(aA,aB)=>if (decide (aB<(O.length:Int)))=true then if 0≤aB∧aB<(O.length:Int) then (X2 (r7 O aB) Z).bind fun aC=>if (decide (aC<(0:Int)))=true then some (.inr (.inr ((-1:Int)))) else if qJ (Z*aA) then if qJ ((Z*aA)+aC) then if qJ (aB+(1:Int)) then some (.inl (((Z*aA)+aC),(aB+(1:Int)))) else none else none else none else none else some (.inr (.inl aA))
def M0 (O:pG) (Z:Int):Option Int:=sZ (rE (S2 O Z) ((0:Int),(0:Int))) fun aA=>if (decide (O=([]:pG)))=true then some ((-1:Int)) else some (aA)
def JU (O:pP) (Z:Int):Option pP:=if (decide ((IntKind.wrap .u32 Z)≤(127:Int)))=true then if (O.length+([(IntKind.wrap .u8 Z)]:pP).length)*1≤140737488355328 then some ((O++([(IntKind.wrap .u8 Z)]:pP))) else none else (LS O Z).bind fun aA=>some (aA)
section
variable (O:pP) (Z:Int) (aA:Nat)
abbrev a5R:List qI:=[(.val (.list (.int .u8)) O,some 0),(.val (.int .i32) Z,none)]
abbrev a5S:List qH:=[.grow 5 1 aA]
@[go_sem] def a5T:qQ:=⟨[aA=(O.length),((JU O Z)).isSome=true],[(.val (.list (.int .u8)) (val (JU O Z)),some 0)],[.grow 5 1 ((val (JU O Z)).length)]⟩
def aFQ:List qI→List qH→Option qQ:=rT (V:=(pP×Int×Nat)) (fun x=>a5R x.1 x.2.1) (fun x=>a5S x.2.2) fun x=>a5T x.1 x.2.1 x.2.2
@[go_sem] def aUe:aFQ (no_index (a5R O Z)) (no_index (a5S aA))=some (a5T O Z aA):=rV (fun⟨a0,a1,a2⟩ ⟨b0,b1,b2⟩ h1 h2=>by cases h1;cases h2;rfl) (O,Z,aA)
end
@[go_sem] abbrev aFR:Nat×rI:=(297,⟨[.own,.v],aFQ,[],[],none⟩)
def S3:rL Tryz.prog [EB,O1,GD,WG] (rK [aFb]):=⟨⟨GF,⟨WB,⟨JE,⟨aDx,trivial⟩⟩⟩⟩,qU aNS rX,rM⟩
def aOa:rP Tryz.prog aFR:=by
 refine rW S3 Tryz.func297 (c:=_) rfl (N:=16) pX (ts:=[(4,none)]) rfl (fun _ _=>rfl) ?_;intro⟨O,Z,aA⟩ hs hrow;dsimp only[a5R,a5S,a5T,rQ,qW,rF,rO,rS,Nat.reduceAdd] at hs hrow|-;obtain⟨rfl,hz⟩:=hs;obtain⟨z0,d⟩:=aVb.1 hz
 try rw[s9 d]
 clear hz;unfold JU at d;refine qG S3 ?_;refine qZ ?_;refine qG S3 ?_;refine qY d (fun d hc1=> ?_) (fun d hc1=> ?_)
 .obtain⟨hg1,d⟩:=qP d;refine qG S3 ?_ (hp:=by exact⟨pW,hg1⟩)
  refine qR (s0 ?_);cases d;exact pI [(0,0)]
 .refine rJ (qS ?_);obtain⟨aB,hv2,hw2,d⟩:=rH d
  try simp only[go_sem] at hw2
  refine qG S3 ?_ (hp:=by exact⟨pW,(rG hv2)⟩) (h:=by simp only[go_sem,hw2];rfl)
  refine qR ?_;cases d;exact pI [(0,0)]
attribute [irreducible] JQ I9 JS JT OO M0 JU
end
noncomputable section
def JV (O:(List r5)) (Z:pG) (aA:pG):Option (List r5):=(JN O).bind fun aB=>(I9 aB Z).bind fun aC=>if (decide ((0:Int)≤aC))=true then if 0≤aC∧aC<(((aB.length):Nat):Int) then some ((List.set aB (Int.toNat aC) ((rC (.pair .str (.pair .str .unit)) aB aC).1,(aA,(rC (.pair .str (.pair .str .unit)) aB aC).2.2)))) else none else (OH aB Z).bind fun aD=>if (decide (aD<(0:Int)))=true then if 0≤(((aB.length):Nat):Int)∧(((aB.length):Nat):Int)≤List.length aB then if (aB.length+([(Z,(aA,()))]:List r5).length)*32≤140737488355328 then some ((CJ aB (((aB.length):Nat):Int) ([(Z,(aA,()))]:List r5))) else none else none else if 0≤aD∧aD≤List.length aB then if (aB.length+([(Z,(aA,()))]:List r5).length)*32≤140737488355328 then some ((CJ aB aD ([(Z,(aA,()))]:List r5))) else none else none
section
variable (O:(List r5)) (Z:pG) (aA:pG)
abbrev a5U:List qI:=[(.val (.list (.pair .str (.pair .str .unit))) O,none),(.val .str Z,none),(.val .str aA,none)]
abbrev a5V:List qH:=[]
@[go_sem] def a5W:qQ:=⟨[((JV O Z aA)).isSome=true],[(.val (.list (.pair .str (.pair .str .unit))) (val (JV O Z aA)),some 0)],[.grow 149 2 ((val (JV O Z aA)).length)]⟩
def aFS:List qI→List qH→Option qQ:=rT (V:=((List r5)×pG×pG)) (fun x=>a5U x.1 x.2.1 x.2.2) (fun x=>a5V) fun x=>a5W x.1 x.2.1 x.2.2
@[go_sem] def aUf:aFS (no_index (a5U O Z aA)) (no_index a5V)=some (a5W O Z aA):=rV (fun⟨a0,a1,a2⟩ ⟨b0,b1,b2⟩ h1 h2=>by cases h1;cases h2;rfl) (O,Z,aA)
end
@[go_sem] abbrev a5X:Nat×rI:=(194,⟨[.v,.v,.v],aFS,[],[],none⟩)
def EG:rL Tryz.prog [sM,WD,DD] (rK [aE9,a5D,aFf,aDC]):=⟨⟨sO,⟨aDu,⟨FC,trivial⟩⟩⟩,qU aNR (qU aFJ (qU aNU (qU aNo rX))),rM⟩
def aOb:rP Tryz.prog a5X:=by
 refine rW EG Tryz.func194 (c:=_) rfl (N:=37) pX (ts:=[(6,none)]) rfl (fun _ _=>rfl) ?_;intro⟨O,Z,aA⟩ hs hrow;dsimp only[a5U,a5V,a5W,rQ,qW,rF,rO,rS,Nat.reduceAdd] at hs hrow|-;have hz:=hs;obtain⟨z0,d⟩:=aVb.1 hz
 try rw[s9 d]
 clear hz hs;unfold JV at d;refine qG EG ?_;obtain⟨aB,hv1,hw1,d⟩:=rH d
 try simp only[go_sem] at hw1
 refine qG EG ?_ (hp:=by exact(rG hv1)) (h:=by simp only[go_sem,hw1];rfl);refine qZ ?_;obtain⟨aC,hv2,hw2,d⟩:=rH d
 try simp only[go_sem] at hw2
 refine qG EG ?_ (hp:=by exact⟨fun _=>by first|exact rfl|exact trivial,(rG hv2)⟩) (h:=by simp only[go_sem,hw2];rfl)
 refine qG EG ?_;refine qY d (fun d hc1=> ?_) (fun d hc1=> ?_)
 .obtain⟨hg3,d⟩:=qP d;refine qG EG ?_ (hp:=by exact⟨hg3,pW⟩)
  refine qG EG ?_;refine a1r 96 rfl (by repeat' (first|exact trivial|apply And.intro|exact(fun _=>rfl) |exact(fun h=>absurd h pK))) ?_
  refine qR (s0 ?_);cases d;exact pI [(0,96)]
 .refine rJ (qS ?_);obtain⟨aD,hv4,hw4,d⟩:=rH d
  try simp only[go_sem] at hw4
  refine qG EG ?_ (hp:=by exact⟨pW,fun _=>by first|exact rfl|exact trivial,(rG hv4)⟩) (h:=by simp only[go_sem,hw4];rfl)
  refine qZ ?_;refine qG EG ?_;refine qY d (fun d hc2=> ?_) (fun d hc2=> ?_)
  .refine rY EG ?_;refine qS ?_;obtain⟨hg5,d⟩:=qP d;obtain⟨hg6,d⟩:=qP d;refine qG EG ?_ (hp:=by exact⟨pW,hg5,hg6⟩)
   refine aCU ⟨[0,1,2,4,6,10,13,14,8,15,16,24,25,9,26,27,29,31,32,33,34,35,36],[(0,0),(32,32),(96,96),(800,800)]⟩ ?_;simp only[go_sem,Nat.max_def];refine a1r 96 rfl (by repeat' (first|exact trivial|apply And.intro|exact(fun _=>rfl) |exact(fun h=>absurd h pK))) ?_
   refine qR ?_;cases d;exact pI [(0,96)]
  .refine rJ (qS ?_);obtain⟨hg7,d⟩:=qP d;obtain⟨hg8,d⟩:=qP d;refine qG EG ?_ (hp:=by exact⟨pW,hg7,hg8⟩)
   refine aCU ⟨[0,1,2,4,6,10,13,14,8,15,16,24,25,9,26,27,31,32,33,34,35,36],[(0,0),(32,32),(96,96),(704,704)]⟩ ?_;simp only[go_sem,Nat.max_def];refine a1r 96 rfl (by repeat' (first|exact trivial|apply And.intro|exact(fun _=>rfl) |exact(fun h=>absurd h pK))) ?_
   refine qR ?_;cases d;exact pI [(0,96)]
def M1 (O:sC) (Z:sC):Option Unit:=(RY O Z).bind fun aA=>if (((((decide (O.1=Z.1))&&(val (xH O.2.1 Z.2.1)))&&(val (B5 O.2.2.1 Z.2.2.1)))==true)=true→((FI O.2.2.2.1 Z.2.2.2.1)).isSome=true) then some (()) else none
section
variable (O:sC) (Z:sC)
abbrev a5Y:List qI:=[(.val F9 O,none),(.val F9 Z,none)]
abbrev a5Z:List qH:=[]
@[go_sem] def a50:qQ:=⟨[((M1 O Z)).isSome=true],[(.val .bool ((((decide (O.1=Z.1))&&(val (xH O.2.1 Z.2.1)))&&(val (B5 O.2.2.1 Z.2.2.1)))&&(val (FI O.2.2.2.1 Z.2.2.2.1))),none)],[]⟩
def aFT:List qI→List qH→Option qQ:=rT (V:=(sC×sC)) (fun x=>a5Y x.1 x.2) (fun x=>a5Z) fun x=>a50 x.1 x.2
@[go_sem] def aUg:aFT (no_index (a5Y O Z)) (no_index a5Z)=some (a50 O Z):=rV (fun⟨a0,a1⟩ ⟨b0,b1⟩ h1 h2=>by cases h1;cases h2;rfl) (O,Z)
end
@[go_sem] abbrev a52:Nat×rI:=(18,⟨[.v,.v],aFT,[],[],none⟩)
def a54:rL Tryz.prog [HU,DC] (rK [aFo,aFq]):=⟨⟨LM,⟨FB,trivial⟩⟩,qU aNZ (qU aN0 rX),rM⟩
def aOc:rP Tryz.prog a52:=by
 refine rW a54 Tryz.func18 (c:=_) rfl (N:=15) pX (ts:=[(4,none)]) rfl (fun _ _=>rfl) ?_;intro⟨O,Z⟩ hs hrow;dsimp only[a5Y,a5Z,a50,rQ,qW,rF,rO,rS,Nat.reduceAdd] at hs hrow|-;have hz:=hs;obtain⟨z0,d⟩:=aVb.1 hz
 try rw[s9 d]
 clear hz hs;unfold M1 at d;refine qG a54 ?_;obtain⟨aA,hv1,hw1,d⟩:=rH d
 try simp only[go_sem] at hw1
 obtain⟨hg2,d⟩:=qP d;refine qG a54 ?_ (hp:=by exact⟨rG hv1,id,id,id,id,hg2,sL⟩) (h:=by simp only[go_sem,hw1];rfl);refine qR ?_;cases d;exact pI []
def S4 (O:pH):Int→Option (Int⊕(Unit⊕Bool)):=fun Z=>if (decide (Z<(O.length:Int)))=true then if 0≤Z∧Z<(O.length:Int) then (GN (rC .str O Z)).bind fun aA=>if ((((!aA)==false)&&((decide ((0:Int)<Z))==true))=true→0≤Z∧Z<(O.length:Int)) then if ((((!aA)==false)&&((decide ((0:Int)<Z))==true))=true→qJ (Z- (1:Int))) then if ((((!aA)==false)&&((decide ((0:Int)<Z))==true))=true→0≤(Z- (1:Int))∧(Z- (1:Int))<(O.length:Int)) then if ((!aA)||((decide ((0:Int)<Z))&&(Op.bytesLess (rC .str O Z) (rC .str O (Z- (1:Int)))||decide ((rC .str O Z)=(rC .str O (Z- (1:Int)))))))=true then some (.inr (.inr (false))) else if qJ (Z+(1:Int)) then some (.inl (Z+(1:Int))) else none else none else none else none else none else some (.inr (.inl ()))
def FL (O:pH):Option Bool:=sZ (rE (S4 O) (0:Int)) fun _=>some ((decide ((O.length:Int)≤(20:Int))))
section
variable (O:pH)
abbrev a55:List qI:=[(.val (.list .str) O,none)]
abbrev a56:List qH:=[]
@[go_sem] def a57:qQ:=⟨[((FL O)).isSome=true],[(.val .bool (val (FL O)),none)],[]⟩
def aFU:List qI→List qH→Option qQ:=rT (V:=pH) (a55) (fun x=>a56) fun x=>a57 x
@[go_sem] def aUh:aFU (no_index (a55 O)) (no_index a56)=some (a57 O):=rV (fun a0 b0 h1 h2=>by cases h1;cases h2;rfl) O
end
@[go_sem] abbrev aFV:Nat×rI:=(71,⟨[.v],aFU,[],[],none⟩)
def JW:rL Tryz.prog [sM,wH] (rK [a5b]):=⟨⟨sO,⟨wX,trivial⟩⟩,qU aFs rX,rM⟩
def aOd:rP Tryz.prog aFV:=by
 refine rW JW Tryz.func71 (c:=_) rfl (N:=35) pX (ts:=[(2,none)]) rfl (fun _ _=>rfl) ?_;intro O hs hrow;dsimp only[a55,a56,a57,rQ,qW,rF,rO,rS,Nat.reduceAdd] at hs hrow|-;have hz:=hs;obtain⟨z0,d⟩:=aVb.1 hz
 try rw[s9 d]
 clear hz hs;unfold FL at d;refine qG JW ?_;refine qZ ?_;refine qG JW ?_;refine sA ?_;obtain⟨y1,hy1,d⟩:=wG d;refine uS 0 (fun s=> ∃v,y1= .inl v∧s=(fun _=>⟨[(0,(.val (.list .str) O,none))],[],0,35,0⟩) v) ?_ ?_
 .refine uR hy1 (fun x=>⟨[(0,(.val (.list .str) O,none)),(3,(.val (.int .i64) x,none))],[],0,35,0⟩) ⟨[0,3],[]⟩ pY ?_;intro Z w1 n1 f g;unfold S4 at f;dsimp only at f|-;refine qZ ?_;refine qG JW ?_;refine qY f (fun f hc1=> ?_) (fun f hc1=> ?_)
  .refine rJ (qS (qZ (sA ?_)));obtain⟨hg1,f⟩:=qP f;obtain⟨aA,hv2,hw2,f⟩:=rH f
   try simp only[go_sem] at hw2
   obtain⟨hg3,f⟩:=qP f;obtain⟨hg4,f⟩:=qP f;obtain⟨hg5,f⟩:=qP f;refine xE JW ?_ (hp:=by exact⟨hg1,rG hv2,id,id,id,id,hg3,id,id,hg4,id,id,hg5,id,id,id,id,fun hG e=>GA hG e,u6⟩) (h:=by simp only[go_sem,hw2];rfl);refine qY f (fun f hc2=> ?_) (fun f hc2=> ?_)
   .refine qG JW ?_;refine qR (sF (s0 (wF (wE (sF (s0 ?_))))));cases f;cases g;dsimp only at d;cases d;exact pI []
   .refine rJ (s5 (qS ?_));obtain⟨hg6,f⟩:=qP f;refine rY JW ?_ (hp:=by exact hg6);cases f;exact tI ⟨⟨[0,3],[]⟩,_,by rfl,g⟩
  .refine uF (uK (uH ?_));cases f;cases g;exact uG ⟨⟨[0],[]⟩,_,rfl,by rfl⟩
 .rintro _ ⟨v,rfl,rfl⟩;dsimp only at d|-;refine uQ (qS ?_);refine qG JW ?_;refine qR ?_;cases d;exact pI []
attribute [irreducible] JV M1 FL
end
noncomputable section
def S5 (O:(List r5)):Int→Option (Int⊕(Unit⊕Bool)):=fun Z=>if (decide (Z<(O.length:Int)))=true then if 0≤Z∧Z<(O.length:Int) then (EF ((rC (.pair .str (.pair .str .unit)) O Z).1)).bind fun aA=>if (((!aA)==false)=true→((FH ((rC (.pair .str (.pair .str .unit)) O Z).2.1))).isSome=true) then if (((((!aA)||(!((decide ((((rC (.pair .str (.pair .str .unit)) O Z).2.1).length:Int)≤(4000:Int)))&&(Lib.validD ((rC (.pair .str (.pair .str .unit)) O Z).2.1)))))==false)&&((decide ((0:Int)<Z))==true))=true→qJ (Z- (1:Int))) then if (((((!aA)||(!((decide ((((rC (.pair .str (.pair .str .unit)) O Z).2.1).length:Int)≤(4000:Int)))&&(Lib.validD ((rC (.pair .str (.pair .str .unit)) O Z).2.1)))))==false)&&((decide ((0:Int)<Z))==true))=true→0≤(Z- (1:Int))∧(Z- (1:Int))<(O.length:Int)) then if (((!aA)||(!((decide ((((rC (.pair .str (.pair .str .unit)) O Z).2.1).length:Int)≤(4000:Int)))&&(Lib.validD ((rC (.pair .str (.pair .str .unit)) O Z).2.1)))))||((decide ((0:Int)<Z))&&(!Op.bytesLess (rC (.pair .str (.pair .str .unit)) O (Z- (1:Int))).1 (rC (.pair .str (.pair .str .unit)) O Z).1)))=true then some (.inr (.inr (false))) else if qJ (Z+(1:Int)) then some (.inl (Z+(1:Int))) else none else none else none else none else none else some (.inr (.inl ()))
def GO (O:(List r5)):Option Bool:=sZ (rE (S5 O) (0:Int)) fun _=>some ((decide ((O.length:Int)≤(20:Int))))
section
variable (O:(List r5))
abbrev a58:List qI:=[(.val (.list (.pair .str (.pair .str .unit))) O,none)]
abbrev a59:List qH:=[]
@[go_sem] def a6a:qQ:=⟨[((GO O)).isSome=true],[(.val .bool (val (GO O)),none)],[]⟩
def aFW:List qI→List qH→Option qQ:=rT (V:=(List r5)) (a58) (fun x=>a59) fun x=>a6a x
@[go_sem] def aUi:aFW (no_index (a58 O)) (no_index a59)=some (a6a O):=rV (fun a0 b0 h1 h2=>by cases h1;cases h2;rfl) O
end
@[go_sem] abbrev a6b:Nat×rI:=(108,⟨[.v],aFW,[],[],none⟩)
def IA:rL Tryz.prog [sM,y8,DD] (rK [LP,RX]):=⟨⟨sO,⟨yX,⟨FC,trivial⟩⟩⟩,qU WW (qU X4 rX),rM⟩
def aFX:rP Tryz.prog a6b:=by
 refine rW IA Tryz.func108 (c:=_) rfl (N:=41) pX (ts:=[(2,none)]) rfl (fun _ _=>rfl) ?_;intro O hs hrow;dsimp only[a58,a59,a6a,rQ,qW,rF,rO,rS,Nat.reduceAdd] at hs hrow|-;have hz:=hs;obtain⟨z0,f⟩:=aVb.1 hz
 try rw[s9 f]
 clear hz hs;unfold GO at f;refine qG IA ?_;refine qZ ?_;refine qG IA ?_;refine sA ?_;obtain⟨y1,hy1,f⟩:=wG f;refine uS 0 (fun s=> ∃v,y1= .inl v∧s=(fun _=>⟨[(0,(.val (.list (.pair .str (.pair .str .unit))) O,none))],[],0,41,0⟩) v) ?_ ?_
 .refine uR hy1 (fun x=>⟨[(0,(.val (.list (.pair .str (.pair .str .unit))) O,none)),(5,(.val (.list (.pair .str (.pair .str .unit))) O,none)),(6,(.val (.int .i64) (O.length:Int),none)),(7,(.val (.int .i64) x,none))],[],0,41,0⟩) ⟨[0,5,6,7],[]⟩ pY ?_;intro Z w1 n1 e g;unfold S5 at e;dsimp only at e|-;refine qG IA ?_;refine qZ ?_;refine qY e (fun e hc1=> ?_) (fun e hc1=> ?_)
  .refine rJ (qS (qZ (sA ?_)));obtain⟨hg1,e⟩:=qP e;refine qG IA ?_ (hp:=by exact hg1);obtain⟨aA,hv2,hw2,e⟩:=rH e
   try simp only[go_sem] at hw2
   obtain⟨hg3,e⟩:=qP e;obtain⟨hg4,e⟩:=qP e;obtain⟨hg5,e⟩:=qP e;refine xE IA ?_ (hp:=by exact⟨rG hv2,id,id,hg3,id,u6,id,id,id,hg4,id,id,hg5,id,id,id,id,id,id,fun hG d=>GA hG d,u6⟩) (h:=by simp only[go_sem,hw2];rfl);refine qY e (fun e hc2=> ?_) (fun e hc2=> ?_)
   .refine qG IA ?_;refine qR (sF (s0 (wF (wE (sF (s0 ?_))))));cases e;cases g;dsimp only at f;cases f;exact pI []
   .refine rJ (s5 (qS ?_));obtain⟨hg6,e⟩:=qP e;refine rY IA ?_ (hp:=by exact hg6);cases e;exact tI ⟨⟨[0,5,6,7],[]⟩,_,by rfl,g⟩
  .refine uF (uK (uH ?_));cases e;cases g;exact uG ⟨⟨[0],[]⟩,_,rfl,by rfl⟩
 .rintro _ ⟨v,rfl,rfl⟩;dsimp only at f|-;refine uQ (qS ?_);refine qG IA ?_;refine qR ?_;cases f;exact pI []
attribute [irreducible] GO
end
end Go.Proofs.YtbbpilohihldiaaGreatDoor
