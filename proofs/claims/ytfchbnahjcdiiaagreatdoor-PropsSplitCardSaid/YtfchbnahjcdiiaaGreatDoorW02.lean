/- Packed by a program of mine (wip/tools/pack.py): the same texts with short names and few blanks. -/
import Derived.KernelRfl
import Derived.Lib.Hide
import Derived.Lib.MapLaws
import Derived.Lib.TrimAscii
import Derived.Lib.TrimUEq
import Derived.Lib.ValidLaws
import Derived.LoopIn
import Derived.LoopNIn
import Derived.OwnWalkIn
import Derived.RangeFuncBox
import Derived.RangeFuncLeaves
import Derived.Shelf.Abstract
import Derived.Shelf.Slices.Clone
import Derived.Shelf.Slices.In.SortNone
import Derived.Shelf.Small.Strs
import Derived.Shelf.Small.Utf8
import Derived.Shelf.Sort.Plain
import Derived.Shelf.Spec.SlicesInsertGrow
import Derived.Shelf.Strings.Builder1
import Derived.Shelf.Strings.Runes
import Derived.Shelf.Strings.Search1
import Derived.Shelf.Strings.Search3
import Derived.Shelf.Strings.SlTrimAscii
import Derived.Shelf.Strings.Trim
import Derived.Shelf.Unicode.DecodeAny
import Derived.Shelf.Unicode.ValidAny
import Derived.TacticsInMore
import Derived.Test.YtfchbnahjcdiiaaGreatDoorChecked
import Derived.Test.YtfchbnahjcdiiaaGreatDoorProg
import Derived.WalkKit
import Derived.Test.YtfchbnahjcdiiaaGreatDoorW01
set_option linter.unusedVariables false
set_option linter.unusedSimpArgs false
set_option linter.unusedSectionVars false
section
set_option linter.unusedVariables false
namespace Go.Proofs
open Go.RowKit Go.Lib
def Tryz.lays137_ren:Go.Shelf.Ren:=⟨fun|137=>84|217=>121|266=>156|n=>n,fun|9=>9|5=>5|3=>3|n=>n,fun|n=>n⟩
theorem Tryz.lays137:Go.Proofs.Lays.n137 Tryz.prog Tryz.lays137_ren:={
 mixed:=by kernel_rfl
 f137:=Tryz.func84.trans (congrArg some (by kernel_rfl))
 f217:=Tryz.func121.trans (congrArg some (by kernel_rfl))
 f266:=Tryz.func156.trans (congrArg some (by kernel_rfl))
 t3:=Tryz.underlying3
 a3:=Tryz.isAgg3
 z3:=Tryz.sizeOf3
 v3:=Tryz.zeroValue3
 t5:=Tryz.underlying5
 a5:=Tryz.isAgg5
 z5:=Tryz.sizeOf5
 v5:=Tryz.zeroValue5
 t9:=Tryz.underlying9
 a9:=Tryz.isAgg9
 z9:=Tryz.sizeOf9
 v9:=Tryz.zeroValue9}
def Tryz.lays161_ren:Go.Shelf.Ren:=⟨fun|161=>56|231=>91|227=>92|233=>93|235=>94|228=>129|197=>130|151=>131|260=>157|152=>158|137=>84|119=>194|224=>181|225=>180|217=>121|266=>156|n=>n,fun|9=>9|4=>4|3=>3|5=>5|117=>156|116=>155|0=>0|124=>159|105=>189|21=>21|119=>224|46=>194|139=>227|138=>226|n=>n,fun|3=>1|4=>2|n=>n⟩
theorem Tryz.lays161:Go.Proofs.Lays.n161 Tryz.prog Tryz.lays161_ren:={
 mixed:=by kernel_rfl
 f119:=Tryz.func194.trans (congrArg some (by kernel_rfl))
 f137:=Tryz.func84.trans (congrArg some (by kernel_rfl))
 f151:=Tryz.func131.trans (congrArg some (by kernel_rfl))
 f152:=Tryz.func158.trans (congrArg some (by kernel_rfl))
 f161:=Tryz.func56.trans (congrArg some (by kernel_rfl))
 f197:=Tryz.func130.trans (congrArg some (by kernel_rfl))
 f217:=Tryz.func121.trans (congrArg some (by kernel_rfl))
 f224:=Tryz.func181.trans (congrArg some (by kernel_rfl))
 f225:=Tryz.func180.trans (congrArg some (by kernel_rfl))
 f227:=Tryz.func92.trans (congrArg some (by kernel_rfl))
 f228:=Tryz.func129.trans (congrArg some (by kernel_rfl))
 f231:=Tryz.func91.trans (congrArg some (by kernel_rfl))
 f233:=Tryz.func93.trans (congrArg some (by kernel_rfl))
 f235:=Tryz.func94.trans (congrArg some (by kernel_rfl))
 f260:=Tryz.func157.trans (congrArg some (by kernel_rfl))
 f266:=Tryz.func156.trans (congrArg some (by kernel_rfl))
 t0:=Tryz.underlying0
 a0:=Tryz.isAgg0
 z0:=Tryz.sizeOf0
 v0:=Tryz.zeroValue0
 t3:=Tryz.underlying3
 a3:=Tryz.isAgg3
 z3:=Tryz.sizeOf3
 v3:=Tryz.zeroValue3
 t4:=Tryz.underlying4
 a4:=Tryz.isAgg4
 z4:=Tryz.sizeOf4
 v4:=Tryz.zeroValue4
 t5:=Tryz.underlying5
 a5:=Tryz.isAgg5
 z5:=Tryz.sizeOf5
 v5:=Tryz.zeroValue5
 t9:=Tryz.underlying9
 a9:=Tryz.isAgg9
 z9:=Tryz.sizeOf9
 v9:=Tryz.zeroValue9
 t21:=Tryz.underlying21
 a21:=Tryz.isAgg21
 z21:=Tryz.sizeOf21
 v21:=Tryz.zeroValue21
 t46:=Tryz.underlying194
 a46:=Tryz.isAgg194
 z46:=Tryz.sizeOf194
 v46:=Tryz.zeroValue194
 t105:=Tryz.underlying189
 a105:=Tryz.isAgg189
 z105:=Tryz.sizeOf189
 v105:=Tryz.zeroValue189
 t116:=Tryz.underlying155
 a116:=Tryz.isAgg155
 z116:=Tryz.sizeOf155
 t117:=Tryz.underlying156
 a117:=Tryz.isAgg156
 z117:=Tryz.sizeOf156
 v117:=Tryz.zeroValue156
 t119:=Tryz.underlying224
 a119:=Tryz.isAgg224
 z119:=Tryz.sizeOf224
 t124:=Tryz.underlying159
 a124:=Tryz.isAgg159
 z124:=Tryz.sizeOf159
 v124:=Tryz.zeroValue159
 t138:=Tryz.underlying226
 a138:=Tryz.isAgg226
 z138:=Tryz.sizeOf226
 v138:=Tryz.zeroValue226
 t139:=Tryz.underlying227
 a139:=Tryz.isAgg227
 z139:=Tryz.sizeOf227
 v139:=Tryz.zeroValue227
 g3:=by kernel_rfl
 g4:=by kernel_rfl}
def Tryz.lays190_ren:Go.Shelf.Ren:=⟨fun|190=>96|125=>134|258=>133|128=>168|129=>169|302=>159|303=>160|304=>161|305=>162|306=>163|307=>164|308=>165|309=>166|310=>167|333=>195|329=>196|330=>197|334=>198|335=>199|336=>200|344=>213|n=>n,fun|31=>23|9=>9|3=>3|46=>194|0=>0|51=>212|53=>214|4=>4|183=>206|182=>205|131=>141|5=>5|218=>228|222=>232|228=>240|229=>241|n=>n,fun|n=>n⟩
theorem Tryz.lays190:Go.Proofs.Lays.n190 Tryz.prog Tryz.lays190_ren:={
 mixed:=by kernel_rfl
 f125:=Tryz.func134.trans (congrArg some (by kernel_rfl))
 f128:=Tryz.func168.trans (congrArg some (by kernel_rfl))
 f129:=Tryz.func169.trans (congrArg some (by kernel_rfl))
 f190:=Tryz.func96.trans (congrArg some (by kernel_rfl))
 f258:=Tryz.func133.trans (congrArg some (by kernel_rfl))
 f302:=Tryz.func159.trans (congrArg some (by kernel_rfl))
 f303:=Tryz.func160.trans (congrArg some (by kernel_rfl))
 f304:=Tryz.func161.trans (congrArg some (by kernel_rfl))
 f305:=Tryz.func162.trans (congrArg some (by kernel_rfl))
 f306:=Tryz.func163.trans (congrArg some (by kernel_rfl))
 f307:=Tryz.func164.trans (congrArg some (by kernel_rfl))
 f308:=Tryz.func165.trans (congrArg some (by kernel_rfl))
 f309:=Tryz.func166.trans (congrArg some (by kernel_rfl))
 f310:=Tryz.func167.trans (congrArg some (by kernel_rfl))
 f329:=Tryz.func196.trans (congrArg some (by kernel_rfl))
 f330:=Tryz.func197.trans (congrArg some (by kernel_rfl))
 f333:=Tryz.func195.trans (congrArg some (by kernel_rfl))
 f334:=Tryz.func198.trans (congrArg some (by kernel_rfl))
 f335:=Tryz.func199.trans (congrArg some (by kernel_rfl))
 f336:=Tryz.func200.trans (congrArg some (by kernel_rfl))
 f344:=Tryz.func213.trans (congrArg some (by kernel_rfl))
 t0:=Tryz.underlying0
 a0:=Tryz.isAgg0
 z0:=Tryz.sizeOf0
 v0:=Tryz.zeroValue0
 t3:=Tryz.underlying3
 a3:=Tryz.isAgg3
 z3:=Tryz.sizeOf3
 v3:=Tryz.zeroValue3
 t4:=Tryz.underlying4
 a4:=Tryz.isAgg4
 z4:=Tryz.sizeOf4
 v4:=Tryz.zeroValue4
 t5:=Tryz.underlying5
 a5:=Tryz.isAgg5
 z5:=Tryz.sizeOf5
 v5:=Tryz.zeroValue5
 t9:=Tryz.underlying9
 a9:=Tryz.isAgg9
 z9:=Tryz.sizeOf9
 v9:=Tryz.zeroValue9
 t31:=Tryz.underlying23
 a31:=Tryz.isAgg23
 z31:=Tryz.sizeOf23
 v31:=Tryz.zeroValue23
 t46:=Tryz.underlying194
 a46:=Tryz.isAgg194
 z46:=Tryz.sizeOf194
 v46:=Tryz.zeroValue194
 t51:=Tryz.underlying212
 a51:=Tryz.isAgg212
 z51:=Tryz.sizeOf212
 v51:=Tryz.zeroValue212
 t53:=Tryz.underlying214
 a53:=Tryz.isAgg214
 z53:=Tryz.sizeOf214
 v53:=Tryz.zeroValue214
 t131:=Tryz.underlying141
 a131:=Tryz.isAgg141
 z131:=Tryz.sizeOf141
 v131:=Tryz.zeroValue141
 t182:=Tryz.underlying205
 a182:=Tryz.isAgg205
 z182:=Tryz.sizeOf205
 v182:=Tryz.zeroValue205
 t183:=Tryz.underlying206
 a183:=Tryz.isAgg206
 z183:=Tryz.sizeOf206
 v183:=Tryz.zeroValue206
 t218:=Tryz.underlying228
 a218:=Tryz.isAgg228
 z218:=Tryz.sizeOf228
 v218:=Tryz.zeroValue228
 t222:=Tryz.underlying232
 a222:=Tryz.isAgg232
 z222:=Tryz.sizeOf232
 v222:=Tryz.zeroValue232
 t228:=Tryz.underlying240
 a228:=Tryz.isAgg240
 z228:=Tryz.sizeOf240
 v228:=Tryz.zeroValue240
 t229:=Tryz.underlying241
 a229:=Tryz.isAgg241
 z229:=Tryz.sizeOf241
 v229:=Tryz.zeroValue241}
def Tryz.lays196_ren:Go.Shelf.Ren:=⟨fun|196=>185|259=>211|n=>n,fun|0=>0|3=>3|4=>4|5=>5|9=>9|12=>12|46=>194|53=>214|119=>224|138=>226|139=>227|n=>n,fun|3=>1|4=>2|n=>n⟩
theorem Tryz.lays196:Go.Proofs.Lays.n196 Tryz.prog Tryz.lays196_ren:={
 mixed:=by kernel_rfl
 f196:=Tryz.func185.trans (congrArg some (by kernel_rfl))
 f259:=Tryz.func211.trans (congrArg some (by kernel_rfl))
 t0:=Tryz.underlying0
 a0:=Tryz.isAgg0
 z0:=Tryz.sizeOf0
 v0:=Tryz.zeroValue0
 t3:=Tryz.underlying3
 a3:=Tryz.isAgg3
 z3:=Tryz.sizeOf3
 v3:=Tryz.zeroValue3
 t4:=Tryz.underlying4
 a4:=Tryz.isAgg4
 z4:=Tryz.sizeOf4
 v4:=Tryz.zeroValue4
 t5:=Tryz.underlying5
 a5:=Tryz.isAgg5
 z5:=Tryz.sizeOf5
 v5:=Tryz.zeroValue5
 t9:=Tryz.underlying9
 a9:=Tryz.isAgg9
 z9:=Tryz.sizeOf9
 v9:=Tryz.zeroValue9
 t12:=Tryz.underlying12
 a12:=Tryz.isAgg12
 z12:=Tryz.sizeOf12
 v12:=Tryz.zeroValue12
 t46:=Tryz.underlying194
 a46:=Tryz.isAgg194
 z46:=Tryz.sizeOf194
 v46:=Tryz.zeroValue194
 t53:=Tryz.underlying214
 a53:=Tryz.isAgg214
 z53:=Tryz.sizeOf214
 v53:=Tryz.zeroValue214
 t119:=Tryz.underlying224
 a119:=Tryz.isAgg224
 z119:=Tryz.sizeOf224
 t138:=Tryz.underlying226
 a138:=Tryz.isAgg226
 z138:=Tryz.sizeOf226
 v138:=Tryz.zeroValue226
 t139:=Tryz.underlying227
 a139:=Tryz.isAgg227
 z139:=Tryz.sizeOf227
 v139:=Tryz.zeroValue227
 g3:=by kernel_rfl
 g4:=by kernel_rfl}
def Tryz.lays240_ren:Go.Shelf.Ren:=⟨fun|240=>52|276=>82|n=>n,fun|0=>0|4=>4|9=>9|20=>20|70=>75|72=>77|164=>145|37=>42|n=>n,fun|n=>n⟩
theorem Tryz.lays240:Go.Proofs.Lays.n240 Tryz.prog Tryz.lays240_ren:={
 mixed:=by kernel_rfl
 f240:=Tryz.func52.trans (congrArg some (by kernel_rfl))
 f276:=Tryz.func82.trans (congrArg some (by kernel_rfl))
 t0:=Tryz.underlying0
 a0:=Tryz.isAgg0
 z0:=Tryz.sizeOf0
 v0:=Tryz.zeroValue0
 t4:=Tryz.underlying4
 a4:=Tryz.isAgg4
 z4:=Tryz.sizeOf4
 v4:=Tryz.zeroValue4
 t9:=Tryz.underlying9
 a9:=Tryz.isAgg9
 z9:=Tryz.sizeOf9
 v9:=Tryz.zeroValue9
 t20:=Tryz.underlying20
 a20:=Tryz.isAgg20
 z20:=Tryz.sizeOf20
 v20:=Tryz.zeroValue20
 t70:=Tryz.underlying75
 a70:=Tryz.isAgg75
 z70:=Tryz.sizeOf75
 v70:=Tryz.zeroValue75
 t72:=Tryz.underlying77
 a72:=Tryz.isAgg77
 z72:=Tryz.sizeOf77
 v72:=Tryz.zeroValue77
 t164:=Tryz.underlying145
 a164:=Tryz.isAgg145
 z164:=Tryz.sizeOf145
 v164:=Tryz.zeroValue145}
theorem Tryz.builderX72:Builder.X72 Tryz.prog Tryz.lays240_ren:={
 sizeBuilder:=by kernel_rfl
 liesBuilder:=by kernel_rfl}
def Tryz.lays169_ren:Go.Shelf.Ren:=⟨fun|169=>37|n=>n,fun|70=>75|9=>9|0=>0|72=>77|37=>42|127=>103|3=>3|5=>5|n=>n,fun|n=>n⟩
theorem Tryz.lays169:Go.Proofs.Lays.n169 Tryz.prog Tryz.lays169_ren:={
 mixed:=by kernel_rfl
 f169:=Tryz.func37.trans (congrArg some (by kernel_rfl))
 t0:=Tryz.underlying0
 a0:=Tryz.isAgg0
 z0:=Tryz.sizeOf0
 v0:=Tryz.zeroValue0
 t3:=Tryz.underlying3
 a3:=Tryz.isAgg3
 z3:=Tryz.sizeOf3
 v3:=Tryz.zeroValue3
 t9:=Tryz.underlying9
 a9:=Tryz.isAgg9
 z9:=Tryz.sizeOf9
 v9:=Tryz.zeroValue9
 t37:=Tryz.underlying42
 a37:=Tryz.isAgg42
 z37:=Tryz.sizeOf42
 v37:=Tryz.zeroValue42
 t70:=Tryz.underlying75
 a70:=Tryz.isAgg75
 z70:=Tryz.sizeOf75
 v70:=Tryz.zeroValue75
 t72:=Tryz.underlying77
 a72:=Tryz.isAgg77
 z72:=Tryz.sizeOf77
 v72:=Tryz.zeroValue77
 t127:=Tryz.underlying103
 a127:=Tryz.isAgg103
 z127:=Tryz.sizeOf103
 v127:=Tryz.zeroValue103}
theorem Tryz.builderExtra:Builder.Extra Tryz.prog Tryz.lays169_ren:={
 sizeBuilder:=by kernel_rfl
 liesBuilder:=by kernel_rfl
 t5:=Tryz.underlying5
 a5:=Tryz.isAgg5
 z5:=Tryz.sizeOf5
 v5:=Tryz.zeroValue5
 infoByte:=by kernel_rfl
 cellsByte:=by kernel_rfl
 sizeByte:=by kernel_rfl
 neB5:=by decide}
end Go.Proofs
end
namespace Go.Proofs.YtfchbnahjcdiiaaGreatDoor
open Vc Go.RowKit
theorem aEQ {g:Gh}{w w':World}(hH:HeapOk g w (enumH 0 [])) (hb:Below w.heap.size w w'):HeapOk g w' (enumH 0 []):=
 ⟨fun _ _ h=>(by cases h),fun _ _ _ _ _ _ _ h=>(by cases h),fun b o h=>Nat.lt_of_lt_of_le (hH.sl b o h) hb.size,⟨JO hH.tab.1 hb.size fun b h=>hb.block b (Nat.lt_of_lt_of_le h hH.tab.1.1),fun _ _ _ _ h=>(by cases h)⟩⟩
theorem V5 {P:Program}{f:FuncId}{C:List Slot→List Blk→Option Ret}(hen: ∀args w,(callFunc f args).run P w= .ok (.enter f args) w)
  (h: ∀(g:Gh) (w:World) (args:List Slot) (vals:List Value) (L:List Blk) (r:Ret),Tabs w→ArgsOk g w args vals→C args L=some r→(∀p∈r.side,p)→
   L=[]∧r.H=[]∧Calls P f vals.toArray w (fun e w'=> ∃v,e= .returned v∧Below w.heap.size w w'∧RetVals g w' r.ret v)):yR P f C:=by
 refine⟨hen,fun g w args vals L r hH ha hC hs=> ?_⟩
 obtain⟨rfl,hr,hc⟩:=h g w args vals L r hH.tab.1 ha hC hs
 refine hc.mono fun e w' ⟨v,he,hb,hv⟩=>⟨v,g,he,⟨fun b o h=>⟨h,hb.cell (p:=⟨b,o,none⟩) (hH.sl b o h)⟩,by rw[hr];exact aEQ hH hb,hv,⟨hb.os,hb.tape,hb.output,hb.size,fun b h _=>hb.block b h,fun b o h _=>⟨hb.cell (p:=⟨b,o,none⟩) h,hb.frozen (p:=⟨b,o,none⟩) h⟩,fun b o h=> .inl h,fun b s h=> .inl ((A7 (hb.block b (A6 h))).trans h)⟩,(fun i blk b o h=>by rw[hr] at h;cases h),(fun i t x ts h=>by cases h),(fun i t x ts u y us h=>by cases h),(fun _ _ _ h=>h),(fun _ _ _ _ h=>h)⟩⟩
theorem aER {P:Program}{f:FuncId}{vals:Array Value}{w:World}{Q:Ending→Prop}(h:Calls P f vals w fun e w'=>Q e∧w'=w):Calls P f vals w fun e w'=>Q e∧Below w.heap.size w w':=
 h.mono fun e w' ⟨h1,h2⟩=>⟨h1,by rw[h2];exact Below.refl _ _⟩
def rW (s:List UInt8) (c:Int):Int:=Lib.indexByte s (Int.toNat c).toUInt8
@[go_sem] def V6:List Slot→List Blk→Option Ret
 |[(.val .str O,none),(.val (.int .u8) Z,none)],[]=>some ⟨[],[(.val (.int .i64) (rW O Z),none)],[]⟩
 |_,_=>none
set_option maxRecDepth 100000 in
theorem aES:yR Tryz.prog 84 V6:=by
 refine V5 (fun _ _=>rfl) fun g w args vals L r hT ha hC hs=> ?_
 unfold V6 at hC
 split at hC
 ·rename_i s c
  cases hC
  obtain⟨va,_,rfl,ra,vb,_,rfl,rb,hv⟩:=ha
  obtain rfl:=wD ra.1
  obtain rfl:=tW rb.1
  cases hv
  exact⟨rfl,rfl,(aER (Any.strings_IndexByte Tryz.lays137 ⟨List.toArray s⟩ c w)).mono fun e w' ⟨he,hb⟩=>⟨_,he,hb,tX _ _ _ _,trivial⟩⟩
 ·cases hC
@[go_sem] def V7:List Slot→List Blk→Option Ret
 |[(.val .str O,none),(.val .str Z,none)],[]=>some ⟨[(List.all Z fun b=>decide (b.toNat<128))=true∧List.length Z<4294967281],[(.val .str (Lib.trimLeftS O Z),none)],[]⟩
 |_,_=>none
set_option maxRecDepth 100000 in
theorem aET:yR Tryz.prog 56 V7:=by
 refine V5 (fun _ _=>rfl) fun g w args vals L r hT ha hC hs=> ?_
 unfold V7 at hC
 split at hC
 ·rename_i s c
  cases hC
  obtain⟨h1,h2⟩:=hs _ List.mem_cons_self
  obtain⟨va,_,rfl,ra,vb,_,rfl,rb,hv⟩:=ha
  obtain rfl:=wD ra.1
  obtain rfl:=wD rb.1
  cases hv
  exact⟨rfl,rfl,(Any.strings_TrimLeft_laid Tryz.lays161 (by kernel_rfl) ⟨List.toArray s⟩ ⟨List.toArray c⟩ w h2 (ascii_of_all h1)).mono fun e w' ⟨he,hb⟩=>⟨_,he,hb,DT _ _ _,trivial⟩⟩
 ·cases hC
@[go_sem] def V8:List Slot→List Blk→Option Ret
 |[(.val .str O,none)],[]=>some ⟨[List.length O≤9223372036854775807],[(.val .bool (Lib.validD O),none)],[]⟩
 |_,_=>none
set_option maxRecDepth 100000 in
theorem aEU:yR Tryz.prog 185 V8:=by
 refine V5 (fun _ _=>rfl) fun g w args vals L r hT ha hC hs=> ?_
 unfold V8 at hC
 split at hC
 ·rename_i s
  cases hC
  have h1:=hs _ List.mem_cons_self
  obtain⟨va,_,rfl,ra,hv⟩:=ha
  obtain rfl:=wD ra.1
  cases hv
  exact⟨rfl,rfl,(Any.utf8_ValidString Tryz.lays196 ⟨List.toArray s⟩ w h1 hT.2.1).mono fun e w' ⟨he,hb⟩=>⟨_,he,hb,tG _ _ _,trivial⟩⟩
 ·cases hC
end Go.Proofs.YtfchbnahjcdiiaaGreatDoor
namespace Go.Proofs.YtfchbnahjcdiiaaGreatDoor
open Vc Go.RowKit
@[go_sem] def g6:List Slot→List Blk→Option Ret:=fun _ _=>none
def qH (l:List (List UInt8)):List (List UInt8):=l.mergeSort fun x y=>decide (x≤y)
@[go_sem] def a7e:(t:Ty)→List t.den→Option (List t.den)
 | .str,l=>some (qH l)
 |_,_=>none
theorem a7f {g:Gh}{w:World}: ∀{l:List (List UInt8)}{xs:List Value},qS (Rd g w .str) 1 l xs→xs=l.map Go.Proofs.encStr
 |[],_,h=>h
 |_::_,_,⟨c1,c2,e,_,h2,h3⟩=>by rw[e,show c1=_ from h2,a7f h3];rfl
theorem a7g {g:Gh}{w:World}: ∀(l:List (List UInt8)),qS (Rd g w .str) 1 l (l.map Go.Proofs.encStr)
 |[]=>rfl
 |x::l=>⟨[.string ⟨x.toArray⟩],_,rfl,rfl,rfl,a7g l⟩
theorem aEV (s:List (List UInt8)) (cur:Array Value) (h:s.length≤cur.size):(Go.Sort.putCells Go.Proofs.encStr 0 s.toArray cur).toList.take s.length=s.map Go.Proofs.encStr:=by
 apply List.ext_getElem
 ·simp [Go.Sort.putCells];omega
 ·intro i h1 h2
  have hi:i<s.length:=by simpa using h2
  simp only[Go.Sort.putCells,List.getElem_take,Array.getElem_toList,Array.getElem_mapIdx,List.getElem_map]
  rw[if_pos (by simp;exact hi)]
  simp [hi]
set_option maxRecDepth 100000 in
theorem aEW:yR Tryz.prog 96 g6∧∀F,some a7e=some F→OR Tryz.prog 96 F:=by
 refine⟨⟨fun _ _=>rfl,fun g w args vals L r _ _ hC _=>by cases hC⟩,fun F hF=> ?_⟩
 cases hF
 intro g w e t l l' v n xs hT hown hF hl hn hf
 cases t with
 |str=>
  have hf:qH l=l':=Option.some.inj hf
  subst hf
  subst hl
  have hlen:(qH l).length=l.length:=by simp [qH]
  obtain⟨hx,⟨rfl,h0⟩ |⟨b,cap,cur,rfl,hb0,hbk,hnc,hcm,hcs,htk⟩⟩:=hown
  ·obtain rfl:l=[]:=List.length_eq_zero_iff.1 h0
   refine(Any.slices_Sort_string_none Tryz.lays190 none 0 w).mono ?_
   rintro en w' ⟨rfl,rfl⟩
   exact⟨rfl,hlen,[],⟨rfl,.inl ⟨rfl,rfl⟩⟩,by simp [qH,qS],⟨rfl,rfl,rfl,Nat.le_refl _,fun _ _ _=>rfl⟩⟩
  ·have hxs:=a7f hF
   subst hxs
   have hc1:(Ty.str).cells=1:=rfl
   rw[hc1,Nat.mul_one] at hcs htk
   have hbl:b<w.heap.size:=by
    rcases Nat.lt_or_ge b w.heap.size with h|h
    ·exact h
    ·rw[Array.getElem?_eq_none h] at hbk;cases hbk
   have hH:Go.Sort.Holds Go.Proofs.encStr w b 0 l.toArray:=by
    intro j hj
    have hj':j<l.length:=by simpa using hj
    refine⟨?_,Lib.frozen_of_heap hbk _⟩
    rw[Lib.cell_of_heap hbk,Nat.zero_add]
    have h2:(cur.toList.take l.length)[j]? =(l.map Go.Proofs.encStr)[j]? :=by rw[htk]
    rw[List.getElem?_take_of_lt hj',Array.getElem?_toList] at h2
    rw[h2]
    simp [hj']
   refine(Any.slices_Sort_string Tryz.lays190 b 0 cap l w hH hbl hn).mono ?_
   rintro en w' ⟨rfl,m,os,rfl⟩
   have hsz:(qH l).length≤cur.size:=by rw[hlen,hcs];exact hnc
   have hnew:(Go.Sort.grow (Go.Sort.putRow Go.Proofs.encStr (Go.Sort.ahead w m) b 0 (qH l).toArray) os).heap[b]? =some (.cells (Go.Sort.putCells Go.Proofs.encStr 0 (qH l).toArray cur) e (0,0)):=by
    rw[Go.Sort.heap_grow_old _ _ (by simpa using hbl)]
    simp [Go.Sort.putRow,Go.Sort.mapBlock,Array.getElem?_modify,hbk,Go.Sort.onCells]
   refine⟨rfl,hlen,(qH l).map Go.Proofs.encStr,⟨by simp [hlen,hc1],.inr ⟨b,cap,_,rfl,hb0,hnew,hnc,hcm,?_,?_⟩⟩,a7g _,⟨rfl,rfl,rfl,by simp,fun k hk hne=> ?_⟩⟩
   ·rw[hc1,Nat.mul_one];simpa[Go.Sort.putCells] using hcs
   ·rw[hc1,Nat.mul_one,←hlen];exact aEV _ _ hsz
   ·rw[Go.Sort.heap_grow_old _ _ (by simpa using hk)]
    have hkb:b≠k:=fun h=>hne (by rw[h];rfl)
    simp [Go.Sort.putRow,Go.Sort.mapBlock,Array.getElem?_modify,hkb]
 |_=>cases hf
@[go_sem] def V9:List Slot→List Blk→Option Ret
 |[(.val .ref (some (0,0)),none)],[.cells (.pair .mref (.pair (.list (.int .u8)) .unit)) ((some (0,0)),O) [(1,1)],.grow Z 1 aA]=>some ⟨[aA=List.length O.1],[],[.cells (.pair .mref (.pair (.list (.int .u8)) .unit)) ((some (0,0)),O) [(1,1)],.grow Z 1 aA]⟩
 |_,_=>none
theorem aEX {g:Gh}{w:World}{L:List Blk}{e:Eff}{w':World}{u v:Value}{r:Ret}(hE:EffOk g w (enumH 0 L) e g w' u)
  (hH: ∀i,getH (enumH 0 r.H) i=getH (app e.upd (enumH 0 L)) i) (hin: ∀i,i∈idsOf e.upd→i<L.length) (hlen:r.H.length=L.length)
  (hp: ∀i blk b o,r.H[i]? =some blk→owns g i blk b o→w.heap.size≤b∨ownsAny g (enumH 0 L) b o)
  (hty: ∀(i:Nat) t x ts u y us,L[i]? =some (.cells t x ts)→r.H[i]? =some (.cells u y us)→u=t)
  (hret:RetVals g w' r.ret v):RetOk g w L r g w' v:=
 ⟨fun b o h=>⟨h,hE.le.cell b o h⟩,hE.heap.ext hH,hret,hE.fr.mono fun b o ⟨i,blk,_,h1,h2⟩=>⟨i,blk,h1,h2⟩,hp,fun _ _ _ _ _=>rfl,hty,fun _ _ _ h=>h,fun _ _ _ _ h=>h⟩
set_option maxHeartbeats 1000000 in
set_option maxRecDepth 100000 in
theorem aEY {P:Program}{ρ:Go.Shelf.Ren}(L:Lays.n240 P ρ) (X:Builder.X72 P ρ) {e:TypeId}(b:Nat) (w:World) (h0:w.cell? ⟨b,0,none⟩=some (.pointer none)) (hsh:w.shape? b=some (e,2)) (hl:liesAt P P.depth e (2/P.cellsOf e) 0 (ρ.t 72) 1=true) (hfz:w.frozen? ⟨b,0,none⟩=false):
  Calls P (ρ.f 240) #[.pointer (some ⟨b,0,none⟩)] w fun en w'=>en= .returned (.tuple #[])∧w'=w.setCell ⟨b,0,none⟩ (.pointer (some ⟨b,0,none⟩)):=by
 obtain⟨j,hj,hjs⟩:=Option.map_eq_some_iff.1 X.sizeBuilder
 have mixed:=L.mixed
 have t72:=L.t72;have a72:=L.a72;have z72:=L.z72;have v72:=L.v72;have u72:=run_underlying L.t72
 have t70:=L.t70;have a70:=L.a70;have z70:=L.z70;have v70:=L.v70;have u70:=run_underlying L.t70
 have t9:=L.t9;have a9:=L.a9;have z9:=L.z9;have v9:=L.v9;have u9:=run_underlying L.t9
 have t4:=L.t4;have a4:=L.a4;have z4:=L.z4;have v4:=L.v4;have u4:=run_underlying L.t4
 have t164:=L.t164;have a164:=L.a164;have z164:=L.z164;have v164:=L.v164;have u164:=run_underlying L.t164
 go_enter L.f240,Body.n240_ntmps ρ
 go_wp2
 rw[Lib.run_to_unsafe w ⟨b,0,none⟩ L.t70 L.t164 hj (by rw[hjs];decide) hsh (Nat.zero_lt_succ 1)]
 simp only[Result.andThen]
 rw[Oper.upon_value]
 go_wp2
 rw[run_callFunc_extern L.f276 (by kernel_rfl) (by kernel_rfl) (by kernel_rfl) (e:=Extern.AbiNoEscape.same) (by kernel_rfl)]
 rw[Lib.run_noEscape]
 simp only[Result.andThen]
 rw[Oper.upon_value]
 go_wp2
 rw[Lib.run_from_unsafe w ⟨b,0,none⟩ L.t164 L.t70 hj hsh hl]
 simp only[Result.andThen]
 rw[Oper.upon_value]
 go_wp2
 go_end0
 exact⟨rfl,rfl⟩
set_option maxRecDepth 100000 in
theorem aEZ:yR Tryz.prog 52 V9:=by
 refine⟨fun _ _=>rfl,fun g w args vals L r hH ha hC hs=> ?_⟩
 unfold V9 at hC
 split at hC
 ·rename_i O Z aA
  cases hC
  obtain⟨va,_,rfl,ra,hv⟩:=ha
  cases hv
  have hg0:getH (enumH 0 [Blk.cells (.pair .mref (.pair (.list (.int .u8)) .unit)) ((some (0,0)),O) [(1,1)],.grow Z 1 aA]) 0=some (.cells (.pair .mref (.pair (.list (.int .u8)) .unit)) ((some (0,0)),O) [(1,1)]):=rfl
  obtain⟨p,cs,hJ,hR,hra,hth,hns,htk⟩:=hH.blk 0 _ hg0
  obtain⟨c1,c2,rfl,hR1,hR2⟩:=hR
  obtain⟨p',hJ',⟨hp0,eb,heb,hk3⟩,hc1⟩:=hR1
  rw[hJ] at hJ'
  obtain rfl:=Option.some.inj hJ'
  obtain⟨b,o,k⟩:=p
  have ho:o=0:=by simpa using hp0
  subst ho
  have hlies:liesAt Tryz.prog Tryz.prog.depth eb (2/Tryz.prog.cellsOf eb) 0 77 1=true:=by
   unfold SF at heb
   split at heb
   ·rename_i h;subst h;kernel_rfl
   ·split at heb
    ·rename_i h;subst h;kernel_rfl
    ·cases heb
  have hva:va= .pointer (some ⟨b,0,none⟩):=by
   obtain⟨q,hq,e⟩:=xC ra.1
   rw[hJ] at hq
   cases hq
   exact e
  subst hva
  have hsh:w.shape? b=some (eb,2):=hth.2 (by decide) _ hk3
  rcases hc1 with rfl|rfl
  ·have h0:w.cell? ⟨b,0,none⟩=some (.pointer none)∧w.frozen? ⟨b,0,none⟩=false:=⟨hra 0 _ rfl,(hth.1 0 (by decide)).2⟩
   refine(aEY Tryz.lays240 Tryz.builderX72 b w h0.1 hsh hlies h0.2).mono ?_
   rintro en w' ⟨rfl,rfl⟩
   refine⟨_,g,rfl,?_⟩
   have hE:=EffOk.store (side:=[]) (rds:=[]) hH (i:=0) (t:= .mref) (y:=some (0,0)) (off:=0) (k:=none) (p:=⟨b,0,k⟩) (cy:=[.pointer (some ⟨b,0,none⟩)]) (v:= .pointer (some ⟨b,0,none⟩)) hg0 hJ (z:=((some (0,0)),O)) (by rfl) ⟨_,hJ,⟨rfl,_,heb,hk3⟩,.inr rfl⟩ trivial (fun _ _ h=>by cases h) (fun _=>rfl)
   refine aEX hE.1 ?_ ?_ rfl ?_ ?_ ?_
   ·intro i
    match i with
    |0=>rfl
    |1=>rfl
    |i+2=>rfl
   ·intro i hi
    simp [idsOf] at hi
    subst hi
    exact Nat.zero_lt_succ _
   ·intro i blk b o hi ho
    exact .inr ⟨i,blk,by rw[OQ];simpa using hi,ho⟩
   ·intro i t x ts u y us h1 h2
    rw[h1] at h2
    cases h2
    rfl
   ·exact⟨[],rfl,rfl⟩
  ·have h0:w.cell? ⟨b,0,none⟩=some (.pointer (some ⟨b,0,none⟩)):=hra 0 _ rfl
   refine(Any.Builder_copyCheck_used Tryz.lays240 Tryz.builderX72 b w h0).mono ?_
   rintro en w' ⟨rfl,rfl⟩
   refine⟨_,g,rfl,⟨fun b o h=>⟨h,rfl⟩,hH,⟨[],rfl,rfl⟩,Fr.refl _ _ _,?_,fun _ _ _ _ _=>rfl,?_,fun _ _ _ h=>h,fun _ _ _ _ h=>h⟩⟩
   ·intro i blk b o hi ho
    exact .inr ⟨i,blk,by rw[OQ];simpa using hi,ho⟩
   ·intro i t x ts u y us h1 h2
    rw[h1] at h2
    cases h2
    rfl
 ·cases hC
theorem a7h {P:Program}(w:World): ∀(l:List Int) (a:Addr) (acc:ByteArray),(∀j x,l[j]? =some x→w.cell? (a.add j)=some (.int .u8 x))→
  (loadBytes a acc l.length).run P w= .ok ⟨acc.data++(rC l).toArray⟩ w
 |[],a,acc,_=>by simp [loadBytes,rC]
 |x::l,a,acc,h=>by
  have h0:w.cell? a=some (.int .u8 x):=by
   have:=h 0 x rfl
   simpa[Addr.add] using this
  have ih:=a7h (P:=P) w l (a.add 1) (acc.push (UInt8.ofNat x.toNat)) (fun j y hy=>by
   have:=h (j+1) y (by simpa using hy)
   have e:(a.add 1).add j=a.add (j+1):=by
    unfold Addr.add
    by_cases hj:j=0
    ·subst hj;simp
    ·simp [hj];omega
   rw[e];exact this)
  have hx:x.toNat.toUInt8=UInt8.ofNat x.toNat:=rfl
  simp only[List.length_cons,loadBytes,Sem.run_bind,run_load,h0,Result.andThen,hx]
  rw[ih]
  congr 1
  apply ByteArray.ext
  simp [ByteArray.push,rC]
theorem aE0 {P:Program}(w:World) (pt it ty e:TypeId) (hp:P.underlying pt=some (.pointer e)) (hc:P.cellsOf e=1) (g cells:Nat) (hsh:w.shape? g=some (e,cells)) (l:List Int) (h0:l≠[]) (hn:l.length≤cells) (h63:l.length≤9223372036854775807)
  (hcell: ∀j x,l[j]? =some x→w.cell? ((⟨g,0,none⟩:Addr).add j)=some (.int .u8 x)):
  (Builtin.unsafeString_ #[pt,it] ty #[.pointer (some ⟨g,0,none⟩),.int .i64 l.length]).run P w= .ok (.string ⟨(rC l).toArray⟩) (w.freeze ⟨g,0,none⟩ l.length):=by
 have hl:l.length≠0:=by simpa using h0
 have hlb:=a7h (P:=P) w l ⟨g,0,none⟩ .empty hcell
 have hlies:=Lib.liesAt_bytes (P:=P) hc (cells/P.cellsOf e) l.length (by rw[hc];simpa using hn)
 have h63': ¬(9223372036854775807:Int)<(l.length:Int):=by omega
 have hdef:Builtin.unsafeString_ #[pt,it] ty #[.pointer (some ⟨g,0,none⟩),.int .i64 l.length]=
   (do
    let n←asInt (.int .i64 l.length)
    if n<0 then runtimePanic (.error "unsafe.String: len out of range")
    if n>IntKind.i64.max then unsupported (.unsafePointer "String: a length above the largest int")
    if n=0 then pure (.string .empty)
    else if←variablesAt ⟨g,0,none⟩ (←elemOf pt) n.toNat then do
     let s←loadBytes ⟨g,0,none⟩ .empty n.toNat
     freeze ⟨g,0,none⟩ n.toNat
     pure (.string s)
    else unsupported (.unsafePointer "String: not so many bytes at ptr")):=rfl
 rw[hdef]
 have hmax:IntKind.i64.max=9223372036854775807:=rfl
 have hneg: ¬(l.length:Int)<0:=by omega
 simp [asInt,asIntOf,hmax,h63',hneg,hl,variablesAt,hsh,elemOf,run_underlying hp,hlies,hlb]
set_option maxHeartbeats 2000000 in
set_option maxRecDepth 100000 in
theorem VA {P:Program}{ρ:Go.Shelf.Ren}(L:Lays.n169 P ρ) (X:Builder.Extra P ρ) (b n cap:Nat) (a q:Option Addr) (s:ByteArray) (w w2:World)
  (c1:w.drew.cell? ⟨b,1,none⟩=some (.slice a n cap)) (hSD:(Builtin.unsafeSliceData_ #[(ρ.t 37)] (ρ.t 127) #[.slice a n cap]).run P w.drew= .ok (.pointer q) w.drew)
  (hUS:(Builtin.unsafeString_ #[(ρ.t 127),(ρ.t 3)] (ρ.t 9) #[.pointer q,.int .i64 n]).run P w.drew= .ok (.string s) w2):
  Calls P (ρ.f 169) #[.pointer (some ⟨b,0,none⟩)] w fun e w'=>e= .returned (.string s)∧w'=w2:=by
 have mixed:=L.mixed
 have t72:=L.t72;have a72:=L.a72;have z72:=L.z72;have v72:=L.v72;have u72:=run_underlying L.t72
 have t70:=L.t70;have a70:=L.a70;have z70:=L.z70;have v70:=L.v70;have u70:=run_underlying L.t70
 have t37:=L.t37;have a37:=L.a37;have z37:=L.z37;have v37:=L.v37;have u37:=run_underlying L.t37
 have t127:=L.t127;have a127:=L.a127;have z127:=L.z127;have v127:=L.v127;have u127:=run_underlying L.t127
 have t3:=L.t3;have a3:=L.a3;have z3:=L.z3;have v3:=L.v3;have u3:=run_underlying L.t3
 have t9:=L.t9;have a9:=L.a9;have z9:=L.z9;have v9:=L.v9;have u9:=run_underlying L.t9
 have t5:=X.t5;have a5:=X.a5;have z5:=X.z5;have v5:=X.v5;have u5:=run_underlying X.t5
 go_enter L.f169,Body.n169_ntmps ρ
 go_wp2
 go_region_o
 all_goals (go_wp2;go_ret;exact⟨rfl,rfl⟩)
set_option maxHeartbeats 2000000 in
set_option maxRecDepth 100000 in
theorem aE1 {P:Program}{ρ:Go.Shelf.Ren}(L:Lays.n169 P ρ) (X:Builder.Extra P ρ) (b g:Nat) (cur:Array Value) (w:World) (hlt:b<w.heap.size)
  (c1:w.drew.cell? ⟨b,1,none⟩=some (.slice (some ⟨g,0,none⟩) 0 0)) (hg:w.drew.heap[g]? =some (.cells cur (ρ.t 5) (0,0))):
  Calls P (ρ.f 169) #[.pointer (some ⟨b,0,none⟩)] w fun e w'=>e= .returned (.string ⟨#[]⟩)∧w'=w.drew.alloc (.view ⟨g,0,none⟩ (ρ.t 5)):=by
 have hUS:=Any.unsafeString_none L X
 have hSD:(Builtin.unsafeSliceData_ #[(ρ.t 37)] (ρ.t 127) #[.slice (some ⟨g,0,none⟩) 0 0]).run P w.drew= .ok (.pointer (some ⟨w.drew.heap.size,0,none⟩)) (w.drew.alloc (.view ⟨g,0,none⟩ (ρ.t 5))):=
  Lib.run_unsafeSliceData_zero w.drew _ _ (ρ.t 5) L.t127 ⟨g,0,none⟩ 0 ((ρ.t 5),cur.size) (by simp [World.shape?,hg])
 have c2:(w.drew.alloc (.view ⟨g,0,none⟩ (ρ.t 5))).cell? ⟨b,1,none⟩=some (.slice (some ⟨g,0,none⟩) 0 0):=
  (World.cell?_of_block (a:=⟨b,1,none⟩) (Lib.alloc_old w.drew _ b hlt)).trans c1
 have c3:(w.alloc (.view ⟨g,0,none⟩ (ρ.t 5))).drew.cell? ⟨b,1,none⟩=some (.slice (some ⟨g,0,none⟩) 0 0):=c2
 have c0:w.cell? ⟨b,1,none⟩=some (.slice (some ⟨g,0,none⟩) 0 0):=c1
 have mixed:=L.mixed
 have t72:=L.t72;have a72:=L.a72;have z72:=L.z72;have v72:=L.v72;have u72:=run_underlying L.t72
 have t70:=L.t70;have a70:=L.a70;have z70:=L.z70;have v70:=L.v70;have u70:=run_underlying L.t70
 have t37:=L.t37;have a37:=L.a37;have z37:=L.z37;have v37:=L.v37;have u37:=run_underlying L.t37
 have t127:=L.t127;have a127:=L.a127;have z127:=L.z127;have v127:=L.v127;have u127:=run_underlying L.t127
 have t3:=L.t3;have a3:=L.a3;have z3:=L.z3;have v3:=L.v3;have u3:=run_underlying L.t3
 have t9:=L.t9;have a9:=L.a9;have z9:=L.z9;have v9:=L.v9;have u9:=run_underlying L.t9
 have t5:=X.t5;have a5:=X.a5;have z5:=X.z5;have v5:=X.v5;have u5:=run_underlying X.t5
 go_enter L.f169,Body.n169_ntmps ρ
 go_wp2
 go_region_o
 all_goals (go_wp2;go_ret;exact⟨rfl,rfl⟩)
@[go_sem] def VB:List Slot→List Blk→Option Ret
 |[(.val .ref (some (0,0)),none)],[.cells (.pair .mref (.pair (.list (.int .u8)) .unit)) ((some (0,0)),O) [(1,1)],.grow 5 1 Z]=>some ⟨[Z=List.length O.1],[(.val .str (rC O.1),none)],[.cells (.pair .mref (.pair (.list (.int .u8)) .unit)) ((some (0,0)),O) [],.dead]⟩
 |_,_=>none
theorem VC {g:Gh}{w w':World}{m:Option (Nat×Nat)}{b:(Ty.pair (.list (.int .u8)) .unit).den}{e n:Nat}{s:List UInt8}{sd:List Prop}(hH:HeapOk g w (enumH 0 [Blk.cells (.pair .mref (.pair (.list (.int .u8)) .unit)) (m,b) [(1,1)],.grow e 1 n]))
  (hos:w'.os=w.os) (htape:w'.tape=w.tape) (hout:w'.output=w.output) (hsz:w.heap.size≤w'.heap.size)
  (hcell: ∀b o,b<w.heap.size→w'.cell? ⟨b,o,none⟩=w.cell? ⟨b,o,none⟩) (hshape: ∀b s,w.shape? b=some s→w'.shape? b=some s)
  (hblk: ∀b,b<w.heap.size→(∀o,¬owns g 1 (.grow e 1 n) b o)→w'.heap[b]? =w.heap[b]?):
  RetOk g w [Blk.cells (.pair .mref (.pair (.list (.int .u8)) .unit)) (m,b) [(1,1)],.grow e 1 n] ⟨sd,[(.val .str s,none)],[.cells (.pair .mref (.pair (.list (.int .u8)) .unit)) (m,b) [],.dead]⟩ g w' (.string ⟨s.toArray⟩):=by
 have hg0:getH (enumH 0 [Blk.cells (.pair .mref (.pair (.list (.int .u8)) .unit)) (m,b) [(1,1)],.grow e 1 n]) 0=some (.cells (.pair .mref (.pair (.list (.int .u8)) .unit)) (m,b) [(1,1)]):=rfl
 have hg1:getH (enumH 0 [Blk.cells (.pair .mref (.pair (.list (.int .u8)) .unit)) (m,b) [(1,1)],.grow e 1 n]) 1=some (.grow e 1 n):=rfl
 have hle:Le g w g w':=⟨fun _ _ h=>h,fun b o h=>hcell b o (hH.sl b o h),fun _ _ h=>h,fun _ _ _ h=>h⟩
 have hno: ∀c o,owns g 0 (.cells (.pair .mref (.pair (.list (.int .u8)) .unit)) (m,b) [(1,1)]) c o→∀o',¬owns g 1 (.grow e 1 n) c o':=fun c o h o' h'=>by
  obtain⟨v,hv,hb⟩:=h'
  exact hH.dis 0 1 _ _ c o (by decide) hg0 hg1 h ⟨v,hv,hb⟩
 obtain⟨p,cs,hJ,hR,hra,hth,hns,htk⟩:=hH.blk 0 _ hg0
 have hown0: ∀j,j<2→owns g 0 (.cells (.pair .mref (.pair (.list (.int .u8)) .unit)) (m,b) [(1,1)]) p.1 (p.2+j):=fun j hj=>⟨p,hJ,rfl,Nat.le_add_right _ _,Nat.add_lt_add_left hj _⟩
 have hpl:p.1<w.heap.size:=KE (hH.blk 0 _ hg0) (hown0 0 (by decide))
 have hpb:w'.heap[p.1]? =w.heap[p.1]? :=hblk p.1 hpl (hno p.1 _ (hown0 0 (by decide)))
 have hbk0:BlkOk g w' 0 (.cells (.pair .mref (.pair (.list (.int .u8)) .unit)) (m,b) []):=
  ⟨p,cs,hJ,uT hle hR,fun j v hj=>(hcell _ _ hpl).trans (hra j v hj),⟨fun j hj=>by
   have h1:=hth.1 j hj
   rw[hcell _ _ hpl]
   exact⟨h1.1,(World.frozen?_of_block (a:=⟨p.1,p.2+j,none⟩) hpb).trans h1.2⟩,fun h s hs=>hshape _ _ (hth.2 h s hs)⟩,hns,fun _ _ h=>by cases h⟩
 refine⟨fun b o h=>⟨h,hcell b o (hH.sl b o h)⟩,?_,(show RdS g w' (.val .str s,none) (.string ⟨s.toArray⟩) from⟨DT _ _ _,trivial⟩),⟨hos,htape,hout,hsz,?_,?_,fun _ _ h=> .inl h,fun b s h=> .inl (hshape b s h)⟩,?_,fun _ _ _ _ _=>rfl,?_,fun _ _ _ h=>h,fun _ _ _ _ h=>h⟩
 ·refine⟨fun i blk h=> ?_,fun i j bi bj c o hij hi hj hoi hoj=> ?_,fun b o h=>Nat.lt_of_lt_of_le (hH.sl b o h) hsz,JO hH.tab.1 hsz (fun c hc=>hblk c (Nat.lt_of_lt_of_le hc hH.tab.1.1) fun o ho=>absurd (hH.tab.2 1 _ c o hg1 ho) (by omega)),fun i blk c o h ho=> ?_⟩
  ·match i,h with
   |0,h=>cases h;exact hbk0
   |1,h=>cases h;trivial
   |i+2,h=>simp [enumH,getH] at h
  ·match i,j,hi,hj with
   |0,0,_,_=>exact hij rfl
   |0,1,_,hj=>cases hj;exact hoj
   |1,_,hi,_=>cases hi;exact hoi
   |0,j+2,_,hj=>simp [enumH,getH] at hj
   |i+2,_,hi,_=>simp [enumH,getH] at hi
  ·match i,h with
   |0,h=>cases h;exact hH.tab.2 0 _ c o hg0 ho
   |1,h=>cases h;exact ho.elim
   |i+2,h=>simp [enumH,getH] at h
 ·intro c hc hn
  exact hblk c hc fun o ho=>hn o ⟨1,_,hg1,ho⟩
 ·intro c o hc hn
  exact⟨hcell c o hc,World.frozen?_of_block (a:=⟨c,o,none⟩) (hblk c hc fun o' ho=>hn ⟨1,_,hg1,by obtain⟨v,hv,hb⟩:=ho;exact⟨v,hv,hb⟩⟩)⟩
 ·intro i blk c o hi ho
  match i,hi with
  |0,hi=>cases hi;exact .inr ⟨0,_,hg0,ho⟩
  |1,hi=>cases hi;exact ho.elim
  |i+2,hi=>simp at hi
 ·intro i t x ts u y us h1 h2
  match i,h1,h2 with
  |0,h1,h2=>cases h1;cases h2;rfl
  |1,h1,_=>cases h1
  |i+2,h1,_=>simp at h1
theorem aE2 (w:World) (a p:Addr) (n:Nat):(w.freeze a n).cell? p=w.cell? p:=by
 unfold World.freeze
 split
 ·rfl
 ·simp only[World.cell?,Array.getElem?_modify]
  by_cases h:a.block=p.block
  ·rw[if_pos h]
   cases w.heap[p.block]? with
   |none=>rfl
   |some o=>cases o<;>rfl
  ·rw[if_neg h]
theorem aE3 (w:World) (a:Addr) (n b:Nat):(w.freeze a n).shape? b=w.shape? b:=by
 unfold World.freeze
 split
 ·rfl
 ·simp only[World.shape?,Array.getElem?_modify]
  by_cases h:a.block=b
  ·rw[if_pos h]
   cases w.heap[b]? with
   |none=>rfl
   |some o=>cases o<;>rfl
  ·rw[if_neg h]
theorem aE4 (w:World) (a:Addr) (n b:Nat) (h:b≠a.block):(w.freeze a n).heap[b]? =w.heap[b]? :=by
 unfold World.freeze
 split
 ·rfl
 ·simp only[Array.getElem?_modify]
  rw[if_neg (Ne.symm h)]
theorem aE5 (w:World) (a:Addr) (n:Nat):(w.freeze a n).os=w.os∧(w.freeze a n).tape=w.tape∧(w.freeze a n).output=w.output∧(w.freeze a n).heap.size=w.heap.size:=by
 unfold World.freeze
 split
 ·exact⟨rfl,rfl,rfl,rfl⟩
 ·exact⟨rfl,rfl,rfl,by simp⟩
theorem a7i {g:Gh}{w:World}{b:Nat}: ∀{l:List Int}{o:Nat},vT (Rd g w (.int .u8)) w g.S 1 b o l→∀j x,l[j]? =some x→w.cell? ⟨b,o+j,none⟩=some (.int .u8 x)
 |[],_,_,_,_,h=>by cases h
 |y::l,o,⟨⟨cs,_,hra,_,hR⟩,hl⟩,j,x,h=>by
  match j,h with
  |0,h=>
   cases h
   have hR:cs=[.int .u8 y]:=hR
   subst hR
   exact hra 0 _ rfl
  |j+1,h=>
   have:=a7i hl j x (by simpa using h)
   rw[show o+(j+1)=o+1+j by omega]
   exact this
theorem aE6 {u:Ty}{m:Option (Nat×Nat)}{bv:(Ty.pair (.list (.int .u8)) .unit).den}{l:List u.den}(hget:pD (.list u) (.pair .mref (.pair (.list (.int .u8)) .unit)) (m,bv) 1=some l):l.length=bv.1.length:=by
 have h2:pD (.list u) (.list (.int .u8)) bv.1 0=some l:=hget
 simp only[pD] at h2
 split at h2
 ·rename_i h
  injection h with h
  subst h
  cases h2
  rfl
 ·cases h2
set_option maxRecDepth 100000 in
theorem aE7:yR Tryz.prog 37 VB:=by
 refine⟨fun _ _=>rfl,fun g w args vals L r hH ha hC hs=> ?_⟩
 unfold VB at hC
 split at hC
 ·rename_i bv n
  cases hC
  obtain rfl:n=List.length bv.1:=hs _ (by simp)
  obtain⟨va,_,rfl,ra,hv⟩:=ha
  cases hv
  have hg0:getH (enumH 0 [Blk.cells (.pair .mref (.pair (.list (.int .u8)) .unit)) ((some (0,0)),bv) [(1,1)],.grow 5 1 (List.length bv.1)]) 0=some (.cells (.pair .mref (.pair (.list (.int .u8)) .unit)) ((some (0,0)),bv) [(1,1)]):=rfl
  have hg1:getH (enumH 0 [Blk.cells (.pair .mref (.pair (.list (.int .u8)) .unit)) ((some (0,0)),bv) [(1,1)],.grow 5 1 (List.length bv.1)]) 1=some (.grow 5 1 (List.length bv.1)):=rfl
  obtain⟨p,cs,hJ,hR,hra,hth,hns,htk⟩:=hH.blk 0 _ hg0
  obtain⟨v',xs,hv',hown,hmax,hsl⟩:=hH.blk 1 _ hg1
  obtain⟨c1,c2,rfl,hR1,hR2⟩:=hR
  obtain⟨d1,d2,rfl,⟨a,cap,rfl,hcap,hl⟩,hd2⟩:=hR2
  obtain⟨p',hJ',⟨hp0,_,_,_⟩,hc1⟩:=hR1
  rw[hJ] at hJ'
  obtain rfl:=Option.some.inj hJ'
  obtain⟨b,o,k⟩:=p
  have ho:o=0:=by simpa using hp0
  subst ho
  have hlen1:c1.length=1:=by rcases hc1 with rfl|rfl<;>rfl
  obtain⟨q,hq,hva⟩:=xC ra.1
  rw[hJ] at hq
  cases hq
  subst hva
  have hcell1:w.cell? ⟨b,1,none⟩=some (.slice a bv.1.length cap):=hra 1 _ (by rw[List.getElem?_append_right (by omega),hlen1];rfl)
  obtain⟨u,l,v,hget,hcv,hcur⟩:=htk 1 1 (by simp)
  have hvv:v= .slice a bv.1.length cap:=by
   rw[List.getElem?_append_right (by omega),hlen1] at hcv
   exact(Option.some.inj hcv).symm
  have hll:l.length=bv.1.length:=aE6 hget
  rw[hll,hv',hvv] at hcur
  obtain rfl:=Option.some.inj hcur
  have hbl:b<w.heap.size:=TB hcell1
  have hdr: ∀(s:List UInt8) (sd:List Prop),RetOk g w _ ⟨sd,[(.val .str s,none)],[.cells (.pair .mref (.pair (.list (.int .u8)) .unit)) ((some (0,0)),bv) [],.dead]⟩ g w.drew (.string ⟨s.toArray⟩):=fun s sd=>
   VC hH rfl rfl rfl (Nat.le_refl _) (fun _ _ _=>rfl) (fun _ _ h=>h) (fun _ _ _=>rfl)
  obtain⟨hx,⟨hnil,h0⟩ |⟨gb,cap',cur,hsl',hb0,hbk,hnc,hcm,hcs,htake⟩⟩:=hown
  ·have hb0:bv.1=[]:=List.length_eq_zero_iff.1 h0
   have hz:rC bv.1=[]:=by rw[hb0];rfl
   have hl0:List.length bv.1=0:=h0
   injection hnil with e1 e2 e3
   subst e1
   subst e3
   refine(VA Tryz.lays169 Tryz.builderExtra b bv.1.length 0 none none .empty w w.drew hcell1 rfl (by rw[hl0];exact Any.unsafeString_none Tryz.lays169 Tryz.builderExtra w.drew none)).mono ?_
   rintro e w' ⟨rfl,rfl⟩
   exact⟨_,g,rfl,by rw[hz];exact hdr [] _⟩
  ·injection hsl' with e1 e2 e3
   subst e1
   subst e3
   have hsz:bv.1.length≤cur.size:=by omega
   by_cases hb0:bv.1=[]
   ·have hz:rC bv.1=[]:=by rw[hb0];rfl
    have hl0:List.length bv.1=0:=by rw[hb0];rfl
    by_cases hc0:cap=0
    ·subst hc0
     rw[hl0] at hcell1
     refine(aE1 Tryz.lays169 Tryz.builderExtra b gb cur w hbl hcell1 hbk).mono ?_
     rintro e w' ⟨rfl,rfl⟩
     have hold: ∀c,c<w.heap.size→(w.drew.alloc (.view ⟨gb,0,none⟩ 5)).heap[c]? =w.heap[c]? :=fun c hc=>Lib.alloc_old w.drew _ c hc
     refine⟨_,g,rfl,?_⟩
     rw[hz]
     exact VC hH rfl rfl rfl (by simp) (fun c o hc=>World.cell?_of_block (a:=⟨c,o,none⟩) (hold c hc)) (fun c s h=>(A7 (hold c (A6 h))).trans h) (fun c hc _=>hold c hc)
    ·refine(VA Tryz.lays169 Tryz.builderExtra b bv.1.length cap (some ⟨gb,0,none⟩) (some ⟨gb,0,none⟩) .empty w w.drew hcell1 (Lib.run_unsafeSliceData_row _ _ _ _ _ _ hc0) (by rw[hl0];exact Any.unsafeString_none Tryz.lays169 Tryz.builderExtra w.drew _)).mono ?_
     rintro e w' ⟨rfl,rfl⟩
     exact⟨_,g,rfl,by rw[hz];exact hdr [] _⟩
   ·have hcap0:cap≠0:=fun h=>hb0 (List.length_eq_zero_iff.1 (by omega))
    have hcb: ∀j x,bv.1[j]? =some x→w.cell? ⟨gb,j,none⟩=some (.int .u8 x):=by
     rcases hl with hl|⟨b',o',ha',hl⟩
     ·exact absurd hl hb0
     ·cases ha'
      intro j x hj
      have:=a7i hl j x hj
      rwa [Nat.zero_add] at this
    have hbk':w.drew.heap[gb]? =some (.cells cur 5 (0,0)):=hbk
    have hshp:w.drew.shape? gb=some (5,cur.size):=by simp only[World.shape?,hbk']
    refine(VA Tryz.lays169 Tryz.builderExtra b bv.1.length cap (some ⟨gb,0,none⟩) (some ⟨gb,0,none⟩) ⟨(rC bv.1).toArray⟩ w (w.drew.freeze ⟨gb,0,none⟩ bv.1.length) hcell1 (Lib.run_unsafeSliceData_row _ _ _ _ _ _ hcap0)
     (aE0 w.drew _ _ _ 5 (Tryz.lays169).t127 (Tryz.builderExtra).cellsByte gb cur.size hshp bv.1 hb0 hsz (by unfold maxLen at hcm;omega) (fun j x h=>by rw[Addr.add_mid,Nat.zero_add];exact hcb j x h))).mono ?_
    rintro e w' ⟨rfl,rfl⟩
    refine⟨_,g,rfl,?_⟩
    have hblk: ∀c,(∀o,¬owns g 1 (.grow 5 1 (List.length bv.1)) c o)→(w.drew.freeze ⟨gb,0,none⟩ bv.1.length).heap[c]? =w.heap[c]? :=fun c hc=>aE4 w.drew _ _ c fun e=>hc 0 ⟨_,hv',by rw[e];rfl⟩
    have hr:=aE5 w.drew ⟨gb,0,none⟩ bv.1.length
    refine VC hH hr.1 hr.2.1 hr.2.2.1 (Nat.le_of_eq hr.2.2.2.symm) (fun c o _=>aE2 w.drew _ _ _) (fun c s h=>(aE3 w.drew _ _ c).trans h) (fun c _ hc=>hblk c hc)
 ·cases hC
end Go.Proofs.YtfchbnahjcdiiaaGreatDoor
namespace Go.Proofs.YtfchbnahjcdiiaaGreatDoor
open Vc Go.RowKit
theorem a7j:qT Tryz.prog 144 ⟨(.pair .str (.pair .str .unit)),0,0,false,[]⟩:=⟨by kernel_rfl,(show ((_∧∃_,_∧_)∨_)∧_ from⟨.inl ⟨rfl,_,Tryz.underlying144,(show _∧_∧_∧_ from⟨rfl,by kernel_rfl,by kernel_rfl,(show _∧_∧_∧_ from⟨rfl,by kernel_rfl,by kernel_rfl,trivial⟩)⟩)⟩,(fun h=>absurd h (by decide))⟩)⟩
theorem PG {P:Program}(w:World) (dT sT ty elem:TypeId) (sz g o dLen dCap:Nat) (a:Addr) (sLen sCap:Nat) (cur:Array Value) (t:TypeId) (cs:List Value)
  (hu:P.underlying dT=some (.slice elem)) (hs:(P.info? elem).map (·.size)=some sz)
  (hg:w.heap[g]? =some (.cells cur t (0,0))) (hn:cs.length=Nat.min sLen dLen*sz)
  (hsrc: ∀j v,cs[j]? =some v→w.cell? (a.add j)=some v) (hfit:o+cs.length≤cur.size) (h1: ∀v∈cs,v.oneCell'=true):
  (Builtin.copy_ #[dT,sT] ty #[.slice (some ⟨g,o,none⟩) dLen dCap,.slice (some a) sLen sCap]).run P w=
   .ok (goInt (Nat.min sLen dLen:Nat)) (w.setRow g (cur.toList.take o++cs++cur.toList.drop (o+cs.length)).toArray):=by
 have hl:=run_loadCells_list (P:=P) w a cs hsrc
 have hst:=run_storeCells_at P g o t cs 0 cur w hg (by simpa using hfit) h1
 cases hq:P.info? elem with
 |none=>simp [hq] at hs
 |some i=>
  have hi:i.size=sz:=by simpa[hq] using hs
  simp [Builtin.copy_,run_underlying hu,Builtin.lenOf,Builtin.firstCells,sizeOf,typeInfo,hq,hi,←hn,hl,hst]
theorem aE8 {P:Program}(w:World) (tS tR e:TypeId) (ht:P.underlying tS=some (.slice e)) (size:Nat) (hz: ∀w,(Go.sizeOf e).run P w= .ok size w)
  (a b:Addr) (la ca lb cb:Nat) (hne:a.block≠b.block) (tA tB:TypeId) (kA kB:Nat)
  (hsa:w.shape? a.block=some (tA,kA)) (hkA:kA≠0) (hsb:w.shape? b.block=some (tB,kB)) (hfb: ∀o,w.frozen? ⟨b.block,o,none⟩=false) (hsp:b.spot=none):
  (Extern.SlicesOverlaps.overlaps #[tS,tS] #[tR] #[.slice (some a) la ca,.slice (some b) lb cb]).run P w= .ok (.bool false) w:=by
 have hnb:(a.block != b.block)=true:=by simpa using hne
 have hnb':(a.block==b.block)=false:=by simpa using hne
 have hfb1:w.frozen? b=false:=by
  obtain⟨bb,bo,bs⟩:=b
  cases hsp
  exact hfb bo
 have hfb2:=hfb kB
 change Sem.run P (α:=Value) (do
  let some t:=(#[tS,tS]:Array TypeId)[0]? |stuck "slices.overlaps: no parameter types"
  let .slice elem←underlying t|stuck "slices.overlaps: slice type expected"
  let size←sizeOf elem
  match (some a:Option Addr),(some b:Option Addr) with
  |some a,some b=>
   if la=0∨lb=0∨size=0 then pure (Value.bool false)
   else if a.block != b.block&&(←frozen a)&&(←frozen b) then unsupported .addressObserved
   else do
    if a.block != b.block then do
     noView a;noView b
     if←mayBeOne a b then return Value.bool ((←choose (.extern "sameAddr.stringBytes" 2))==1)
    pure (Value.bool (a.block==b.block&&a.off<b.off+lb*size&&b.off<a.off+la*size))
  |_,_=>pure (Value.bool false)) w=_
 by_cases h0:la=0∨lb=0∨size=0
 ·simp [run_underlying ht,hz,h0]
 ·cases kA with
  |zero=>exact absurd rfl hkA
  |succ kA=>
   cases hfa:w.frozen? a<;>cases hfe:w.frozen? {block:=a.block,off:=kA+1}<;>
   simp [run_underlying ht,hz,h0,hnb,hnb',frozen,noView,viewAt,mayBeOne,stringish,shape,Sem.run,hsa,hsb,hfb1,hfb2,hfa,hfe]
theorem aE9 {α:Type}{l:List α}{i n:Nat}(hin:i≤n):(l.drop (i*2)).take ((n-i)*2)=(l.take (n*2)).drop (i*2):=by
 rw[List.drop_take,show n*2-i*2=(n-i)*2 by omega]
theorem a7k {α:Type}{l:List α}{i n:Nat}{v:α}(h:v∈(l.drop (i*2)).take ((n-i)*2)):v∈l.take (n*2):=by
 rw[show (n-i)*2=n*2-i*2 by omega,←List.drop_take] at h
 exact List.mem_of_mem_drop h
theorem aFa {cur c1 c2:Array Value}{mid vs:List Value}{i n m:Nat}(hc1:c1=(cur.toList.take ((i+m)*2)++mid++cur.toList.drop ((i+m)*2+mid.length)).toArray) (hc2:c2=(c1.toList.take (i*2)++vs++c1.toList.drop (i*2+vs.length)).toArray)
  (hml:mid.length=(n-i)*2) (hvl:vs.length=m*2) (hcur:(n+m)*2≤cur.toList.length) (hin:i≤n):c2.toList.take ((n+m)*2)=cur.toList.take (i*2)++vs++mid:=by
 have e1:c1.toList=cur.toList.take ((i+m)*2)++(mid++cur.toList.drop ((i+m)*2+mid.length)):=by rw[hc1,List.append_assoc]
 have l1:(cur.toList.take ((i+m)*2)).length=(i+m)*2:=by rw[List.length_take];omega
 have e2:c1.toList.take (i*2)=cur.toList.take (i*2):=by
  rw[e1,List.take_append_of_le_length (by omega),List.take_take,Nat.min_eq_left (by omega)]
 have e3:c1.toList.drop (i*2+vs.length)=mid++cur.toList.drop ((i+m)*2+mid.length):=by
  rw[e1,hvl,show i*2+m*2=(cur.toList.take ((i+m)*2)).length by omega,List.drop_left]
 have l2:(cur.toList.take (i*2)).length=i*2:=by rw[List.length_take];omega
 have e4:c2.toList=(cur.toList.take (i*2)++vs++mid)++cur.toList.drop ((i+m)*2+mid.length):=by rw[hc2,e2,e3];simp only[List.append_assoc]
 rw[e4,show (n+m)*2=(cur.toList.take (i*2)++vs++mid).length by simp only[List.length_append];omega,List.take_left]
set_option maxHeartbeats 4000000 in
set_option maxRecDepth 100000 in
theorem aFb (b n c i vb voff m vc:Nat) (cur:Array Value) (vs:List Value) (w:World) (hi:i<n) (hm:0<m) (hroom:n+m≤c) (hc63:c≤maxLen) (hvb:vb≠b)
  (hg:w.heap[b]? =some (.cells cur 144 (0,0))) (hcs:cur.size=c*2) (hvl:vs.length=m*2)
  (hvs: ∀j v,vs[j]? =some v→w.cell? ⟨vb,voff+j,none⟩=some v) (h1: ∀v∈cur.toList.take (n*2),v.oneCell'=true) (h1v: ∀v∈vs,v.oneCell'=true):
  Calls Tryz.prog 174 #[.slice (some ⟨b,0,none⟩) n c,.int .i64 i,.slice (some ⟨vb,voff,none⟩) m vc] w fun e w'=>
   e= .returned (.slice (some ⟨b,0,none⟩) (n+m) c)∧∃cur':Array Value,w'=w.drew.setRow b cur'∧cur'.size=cur.size∧cur'.toList.take ((n+m)*2)=cur.toList.take (i*2)++vs++(cur.toList.drop (i*2)).take ((n-i)*2):=by
 have u24:=run_underlying Tryz.underlying24
 have hz1: ¬((m:Int)=0):=by omega
 have hz2: ¬((i:Int)=(n:Int)):=by omega
 have hw1:IntKind.i64.wrap ((i:Int)+(m:Int))=(i:Int)+(m:Int):=by rw[IntKind.wrap_i64];unfold maxLen at hc63;omega
 have hw2:IntKind.i64.wrap ((n:Int)+(m:Int))=(n:Int)+(m:Int):=by rw[IntKind.wrap_i64];unfold maxLen at hc63;omega
 have hb1:(0:Int)≤(i:Int)+(m:Int):=by omega
 have hin:i≤n:=by omega
 have htn:((i:Int)+(m:Int)).toNat=i+m:=by omega
 have hb2: ¬(c=i+m):=by omega
 have hb3:(i:Int)≤(n:Int)+(m:Int):=by omega
 have hb4: ¬(c=i):=by omega
 have z144: ∀w,(Go.sizeOf 144).run Tryz.prog w= .ok 2 w:=fun w=>by
  simp only[sizeOf,typeInfo,Sem.run_bind,run_program,Result.andThen_ok]
  rfl
 have hsz:(Tryz.prog.info? 144).map (·.size)=some 2:=by kernel_rfl
 have hvs0:w.cell? ⟨vb,voff,none⟩=some (vs[0]'(by omega)):=hvs 0 _ (List.getElem?_eq_getElem (by omega))
 obtain⟨⟨tA,kA⟩,hsa,hkA⟩: ∃q:TypeId×Nat,w.shape? vb=some q∧q.2≠0:=by
  have h0:=hvs0
  simp only[World.cell?] at h0
  simp only[World.shape?]
  cases hh:w.heap[vb]? with
  |none=>rw[hh] at h0;simp at h0
  |some o=>
   rw[hh] at h0
   cases o with
   |cells cs e fr=>
    refine⟨(e,cs.size),rfl,fun hz=> ?_⟩
    have hz:cs.size=0:=hz
    have:cs= #[]:=Array.eq_empty_of_size_eq_zero hz
    subst this
    simp at h0
   |_=>simp at h0
 have hov: ∀lb cb,(callFunc 202 #[.slice (some ⟨vb,voff,none⟩) m vc,.slice (some ⟨b,(i+m)*2,none⟩) lb cb]).run Tryz.prog w= .ok (.value (.bool false)) w:=fun lb cb=>by
  rw[run_callFunc_extern Tryz.func202 (by kernel_rfl) (by kernel_rfl) (by kernel_rfl) (e:=Extern.SlicesOverlaps.overlaps #[24,24] #[4]) (by kernel_rfl),
   aE8 w 24 4 144 Tryz.underlying24 2 z144 ⟨vb,voff,none⟩ ⟨b,(i+m)*2,none⟩ m vc lb cb hvb tA 144 kA cur.size hsa hkA (by simp [World.shape?,hg]) (fun o=>Lib.frozen_of_heap hg _) rfl]
  rfl
 have mixed:Tryz.prog.follows .mixedOrders=true:=by kernel_rfl
 obtain⟨mid,hmid⟩: ∃mid,mid=(cur.toList.drop (i*2)).take ((n-i)*2):=⟨_,rfl⟩
 have hml:mid.length=(n-i)*2:=by rw[hmid,List.length_take,List.length_drop,Array.length_toList];omega
 have hmin1:Nat.min (n+m-i) (n+m- (i+m))=n-i:=by simp only[Nat.min_def];split<;>omega
 have hmin2:Nat.min m (n+m-i)=m:=by simp only[Nat.min_def];split<;>omega
 obtain⟨c1,hc1⟩: ∃c1:Array Value,c1=(cur.toList.take ((i+m)*2)++mid++cur.toList.drop ((i+m)*2+mid.length)).toArray:=⟨_,rfl⟩
 have hc1l:c1.size=cur.size:=by rw[hc1];simp only[List.size_toArray,List.length_append,List.length_take,List.length_drop,Array.length_toList,hml];omega
 obtain⟨c2,hc2⟩: ∃c2:Array Value,c2=(c1.toList.take (i*2)++vs++c1.toList.drop (i*2+vs.length)).toArray:=⟨_,rfl⟩
 have hc2l:c2.size=cur.size:=by rw[hc2];simp only[List.size_toArray,List.length_append,List.length_take,List.length_drop,Array.length_toList,hc1l,hvl];omega
 have hcp1: ∀ty dc sc,(Builtin.copy_ #[24,24] ty #[.slice (some ⟨b,(i+m)*2,none⟩) (n+m- (i+m)) dc,.slice (some ⟨b,i*2,none⟩) (n+m-i) sc]).run Tryz.prog w.drew= .ok (goInt (n-i:Nat)) (w.drew.setRow b c1):=fun ty dc sc=>by
  have h:=PG (P:=Tryz.prog) w.drew 24 24 ty 144 2 b ((i+m)*2) (n+m- (i+m)) dc ⟨b,i*2,none⟩ (n+m-i) sc cur 144 mid Tryz.underlying24 hsz hg (by rw[hml,hmin1]) (fun j v hj=>by
    rw[Addr.add_lit]
    rw[hmid,List.getElem?_take] at hj
    split at hj
    ·rw[List.getElem?_drop,Array.getElem?_toList] at hj
     show (w.cell? ⟨b,i*2+j,none⟩)=_
     rw[Lib.cell_of_heap hg]
     exact hj
    ·cases hj) (by rw[hml];omega) (fun v hv=>h1 v (a7k (hmid▸hv)))
  rw[h,hmin1,hc1]
 have hg1:(w.drew.setRow b c1).heap[b]? =some (.cells c1 144 (0,0)):=setRow_heap w.drew b cur c1 _ _ hg
 have hcp2: ∀ty dc,(Builtin.copy_ #[24,24] ty #[.slice (some ⟨b,i*2,none⟩) (n+m-i) dc,.slice (some ⟨vb,voff,none⟩) m vc]).run Tryz.prog (w.drew.setRow b c1)= .ok (goInt (m:Nat)) ((w.drew.setRow b c1).setRow b c2):=fun ty dc=>by
  have h:=PG (P:=Tryz.prog) (w.drew.setRow b c1) 24 24 ty 144 2 b (i*2) (n+m-i) dc ⟨vb,voff,none⟩ m vc c1 144 vs Tryz.underlying24 hsz hg1 (by rw[hvl,hmin2]) (fun j v hj=>by
    rw[Addr.add_lit,World.cell?_of_block (w:=w) (a:=⟨vb,voff+j,none⟩) (setRow_other w.drew b vb c1 hvb)]
    exact hvs j v hj) (by rw[hvl,hc1l];omega) h1v
  rw[h,hmin2,hc2]
 have Hmid:=Lib.hid hmid
 have Hc1:=Lib.hid hc1
 have Hc2:=Lib.hid hc2
 have Hs1:=Lib.hid hc1l
 have Hs2:=Lib.hid hc2l
 have Hml:=Lib.hid hml
 clear hmid hc1 hc2 hc1l hc2l hml hmin1 hmin2
 go_enter Tryz.func174,Tryz.ntmps174
 go_wp2_with (simp only[hov])
 go_region_law_o (refine step_copy_runI rfl _ _ 24 24 rfl _ _ (by simp [Act.eval,Act.put]) (by simp [Act.eval,Act.put]) (hcp1 _ _ _) ?_)
 go_wp2_with (at_builtin;refine wpList_copy_runI _ rfl _ _ 24 24 rfl _ _ rfl rfl (hcp2 _ _) ?_)
 go_ret
 refine⟨rfl,c2,?_,Hs2.out,?_⟩
 ·rw[setRow_setRow]
 ·rw[←Hmid.out]
  exact aFa Hc1.out Hc2.out Hml.out hvl (by rw[Array.length_toList];omega) hin
set_option maxHeartbeats 4000000 in
set_option maxRecDepth 100000 in
theorem aFc (base:Option Addr) (n c i:Nat) (v0:Option Addr) (vc:Nat) (w:World) (hi:i≤n) (hnc:n≤c) (hc63:c≤maxLen):
  Calls Tryz.prog 174 #[.slice base n c,.int .i64 i,.slice v0 0 vc] w fun e w'=>e= .returned (.slice base n c)∧w'=w:=by
 have u24:=run_underlying Tryz.underlying24
 go_enter Tryz.func174,Tryz.ntmps174
 go_wp2_with fail
 all_goals (go_ret;exact⟨rfl,rfl⟩)
set_option maxHeartbeats 4000000 in
set_option maxRecDepth 100000 in
theorem aFd (v:Value) (n vb voff m vc:Nat) (xs vs:List Value) (w:World) (hm:0<m) (hown:w.ownsRow 0 144 2 v n xs) (h63:n+m≤maxLen) (hby:(n+m)*32≤140737488355328)
  (hvl:vs.length=m*2) (hvs: ∀j v,vs[j]? =some v→w.cell? ⟨vb,voff+j,none⟩=some v) (h1v: ∀v∈vs,v.oneCell'=true):
  Calls Tryz.prog 174 #[v,.int .i64 n,.slice (some ⟨vb,voff,none⟩) m vc] w fun e w'=>
   ∃q cap,e= .returned (.slice (some ⟨q,0,none⟩) (n+m) cap)∧w'.ownsRow 0 144 2 (.slice (some ⟨q,0,none⟩) (n+m) cap) (n+m) (xs++vs)∧
   (q=w.heap.size∨v.ownBlock=some q)∧w.grownBy w' v.ownBlock:=by
 have u24:=run_underlying Tryz.underlying24
 obtain⟨inf,hi,hsz,hz⟩:=CA a7j
 have hby2:inf.bytes=32:=by
  have:(Tryz.prog.info? 144).map (·.bytes)=some 32:=by kernel_rfl
  rw[hi] at this
  exact Option.some.inj this
 have hrun: ∀ty,∃q cap w',(Builtin.append_ #[24,24] ty #[v,.slice (some ⟨vb,voff,none⟩) m vc]).run Tryz.prog w= .ok (.slice (some ⟨q,0,none⟩) (n+m) cap) w'∧_:=
  fun ty=>TQ (P:=Tryz.prog) w 24 ty 144 inf _ 2 32 Tryz.underlying24 hi hz hsz hby2 (by rfl) v n xs hown ⟨vb,voff,none⟩ m vc vs hvl (fun j u hj=>by rw[Addr.add_lit];exact hvs j u hj) h1v hm h63 hby
 obtain⟨q,cap,w2,hr,h1,h2,h3,h4,h5⟩:=hrun 24
 have H1:=Lib.hid h1
 have H2:=Lib.hid h2
 have H3:=Lib.hid h3
 have Hown:=Lib.hid hown
 have hz1: ¬((m:Int)=0):=by omega
 have hmx:n+m≤9223372036854775807:=by unfold maxLen at h63;omega
 obtain⟨hxl,hv⟩:=hown
 clear h1 h2 h3 h5 hrun hz hsz hby2 hi hxl
 rcases hv with⟨rfl,rfl⟩ |⟨b,c,cur,rfl,_,hbk,hnc,hcm,hcs,htk⟩
 ·clear Hown
  rw[Nat.zero_add] at hr
  go_enter Tryz.func174,Tryz.ntmps174
  go_wp2_with (at_builtin;refine Lib.wpList_append_run _ rfl _ _ _ _ rfl _ _ rfl rfl _ _ hr ?_)
  all_goals (go_ret;exact⟨q,cap,by rw[Nat.zero_add];rfl,H1.out,H2.out,H3.out⟩)
 ·clear hbk hcs htk
  have hcm:c≤9223372036854775807:=by unfold maxLen at hcm;omega
  go_enter Tryz.func174,Tryz.ntmps174
  go_wp2_with (at_builtin;refine Lib.wpList_append_run _ rfl _ _ _ _ rfl _ _ rfl rfl _ _ hr ?_)
  all_goals (go_ret;exact⟨q,cap,rfl,H1.out,H2.out,H3.out⟩)
set_option maxHeartbeats 4000000 in
set_option maxRecDepth 100000 in
theorem aFe (b n c i vb voff m vc:Nat) (cur:Array Value) (vs:List Value) (w:World) (hi:i<n) (hm:0<m) (hnc:n≤c) (hroom:c<n+m) (hbig:(n+m)*32≤140737488355328)
  (hg:w.heap[b]? =some (.cells cur 144 (0,0))) (hcs:cur.size=c*2) (hvl:vs.length=m*2)
  (hvs: ∀j v,vs[j]? =some v→w.cell? ⟨vb,voff+j,none⟩=some v) (h1: ∀v∈cur.toList.take (n*2),v.oneCell'=true) (h1v: ∀v∈vs,v.oneCell'=true):
  Calls Tryz.prog 174 #[.slice (some ⟨b,0,none⟩) n c,.int .i64 i,.slice (some ⟨vb,voff,none⟩) m vc] w fun e w'=>
   ∃G,e= .returned (.slice (some ⟨w.heap.size,0,none⟩) (n+m) G)∧w'.ownsRow 0 144 2 (.slice (some ⟨w.heap.size,0,none⟩) (n+m) G) (n+m) (cur.toList.take (i*2)++vs++(cur.toList.drop (i*2)).take ((n-i)*2))∧w.grownBy w' none:=by
 have u24:=run_underlying Tryz.underlying24
 have mixed:Tryz.prog.follows .mixedOrders=true:=by kernel_rfl
 obtain⟨inf,hinf,hzs,hz⟩:=CA a7j
 have hzb:inf.bytes=32:=by
  have:(Tryz.prog.info? 144).map (·.bytes)=some 32:=by kernel_rfl
  rw[hinf] at this
  exact Option.some.inj this
 have hsz:(Tryz.prog.info? 144).map (·.size)=some 2:=by kernel_rfl
 have hz1: ¬((m:Int)=0):=by omega
 have hz2: ¬((i:Int)=(n:Int)):=by omega
 have hz3:(c:Int)<(n:Int)+(m:Int):=by omega
 have hbw:b<w.heap.size:=by
  rcases Nat.lt_or_ge b w.heap.size with h|h
  ·exact h
  ·rw[Array.getElem?_eq_none h] at hg;cases hg
 have hvw:vb<w.heap.size:=block_lt_of_cell (hvs 0 _ (List.getElem?_eq_getElem (by omega)))
 have hkk:(n:Int)+(m:Int)- (i:Int)=((n+m-i:Nat):Int):=by omega
 have hik:i+(n+m-i)=n+m:=by omega
 have hold:(Builtin.firstCells inf.size i (.slice (some ⟨b,0,none⟩) i c)).run Tryz.prog w.drew= .ok (cur.toList.take (i*2)).toArray w.drew:=by
  rw[hzs]
  exact run_firstCells_some w.drew 2 i ⟨b,0,none⟩ i c (cur.toList.take (i*2)) (by rw[List.length_take,Array.length_toList];omega) (fun j v hj=>by
   rw[Addr.add_lit,Nat.zero_add]
   rw[List.getElem?_take] at hj
   split at hj
   ·rw[Array.getElem?_toList] at hj
    show w.cell? ⟨b,j,none⟩=_
    rw[Lib.cell_of_heap hg]
    exact hj
   ·cases hj)
 have hrz: ∀ty,(Builtin.append_ #[24,3] ty #[.slice (some ⟨b,0,none⟩) i c,.int .i64 ((n:Int)+(m:Int)- (i:Int))]).run Tryz.prog w=
   .ok (.slice (some ⟨w.heap.size,0,none⟩) (n+m) (grownCap w (n+m) c 144)) (w.drew.alloc (.cells ((cur.toList.take (i*2)).toArray++Builtin.zeroCells (uD (.pair .str (.pair .str .unit))).cells (n+m-i)++Builtin.zeroCells (uD (.pair .str (.pair .str .unit))).cells (grownCap w (n+m) c 144- (n+m))) 144)):=fun ty=>by
  have h:=Lib.run_append_grow_zeros (P:=Tryz.prog) w 24 3 ty 144 inf _ .i64 .i64 Tryz.underlying24 Tryz.underlying3 hinf hz (some ⟨b,0,none⟩) i c (cur.toList.take (i*2)) hold (n+m-i) (by omega) (by rw[hzs];decide) (by omega) (by omega) (by rw[hzb];omega) (by rw[hzb,hik];exact growslice_fits hroom hbig)
  rw[hik] at h
  rw[hkk]
  exact h
 obtain⟨G,hG⟩: ∃G,G=grownCap w (n+m) c 144:=⟨_,rfl⟩
 obtain⟨ROW,hROW⟩: ∃ROW:Array Value,ROW=(cur.toList.take (i*2)).toArray++Builtin.zeroCells (uD (.pair .str (.pair .str .unit))).cells (n+m-i)++Builtin.zeroCells (uD (.pair .str (.pair .str .unit))).cells (G- (n+m)):=⟨_,rfl⟩
 rw[←hG] at hrz
 rw[←hROW] at hrz
 have hGn:n+m≤G:=by rw[hG];exact grownCap_ge w _ _ _
 have hGm:G≤maxLen:=by rw[hG];exact grownCap_le_maxLen w (n+m) c _ (by unfold maxLen;omega)
 have hzc:(uD (.pair .str (.pair .str .unit))).cells.size=2:=rfl
 have hRl:ROW.size=G*2:=by
  rw[hROW]
  simp only[Array.size_append,List.size_toArray,size_zeroCells,hzc,List.length_take,Array.length_toList]
  omega
 have hRt:ROW.toList.take (i*2)=cur.toList.take (i*2):=by
  rw[hROW]
  simp only[Array.toList_append,List.append_assoc]
  rw[List.take_append_of_le_length (by rw[List.length_take,Array.length_toList];omega),List.take_take,Nat.min_self]
 obtain⟨q,hq⟩: ∃q,q=w.heap.size:=⟨_,rfl⟩
 obtain⟨mid,hmid⟩: ∃mid,mid=(cur.toList.drop (i*2)).take ((n-i)*2):=⟨_,rfl⟩
 have hml:mid.length=(n-i)*2:=by rw[hmid,List.length_take,List.length_drop,Array.length_toList];omega
 have hmin1:Nat.min m (n+m-i)=m:=by simp only[Nat.min_def];split<;>omega
 have hmin2:Nat.min (n-i) (n+m- (i+m))=n-i:=by simp only[Nat.min_def];split<;>omega
 obtain⟨c1,hc1⟩: ∃c1:Array Value,c1=(ROW.toList.take (i*2)++vs++ROW.toList.drop (i*2+vs.length)).toArray:=⟨_,rfl⟩
 have hc1l:c1.size=G*2:=by rw[hc1];simp only[List.size_toArray,List.length_append,List.length_take,List.length_drop,Array.length_toList,hRl,hvl];omega
 obtain⟨c2,hc2⟩: ∃c2:Array Value,c2=(c1.toList.take ((i+m)*2)++mid++c1.toList.drop ((i+m)*2+mid.length)).toArray:=⟨_,rfl⟩
 have hc2l:c2.size=G*2:=by rw[hc2];simp only[List.size_toArray,List.length_append,List.length_take,List.length_drop,Array.length_toList,hc1l,hml];omega
 obtain⟨W1,hW1⟩: ∃W1,W1=w.drew.alloc (.cells ROW 144):=⟨_,rfl⟩
 rw[←hW1] at hrz
 have hbq:b≠q:=by omega
 have hvq:vb≠q:=by omega
 have hg1:W1.heap[q]? =some (.cells ROW 144 (0,0)):=by rw[hW1,hq];exact heap_alloc_new w.drew _
 have hO1: ∀k,k<w.heap.size→W1.heap[k]? =w.heap[k]? :=fun k hk=>by rw[hW1];exact Below.heap_alloc w.drew _ k hk
 have hcpA: ∀(W:World),W.heap=W1.heap→∀ty dc,(Builtin.copy_ #[24,24] ty #[.slice (some ⟨q,i*2,none⟩) (n+m-i) dc,.slice (some ⟨vb,voff,none⟩) m vc]).run Tryz.prog W= .ok (goInt (m:Nat)) (W.setRow q c1):=fun W hW ty dc=>by
  have h:=PG (P:=Tryz.prog) W 24 24 ty 144 2 q (i*2) (n+m-i) dc ⟨vb,voff,none⟩ m vc ROW 144 vs Tryz.underlying24 hsz (by rw[hW];exact hg1) (by rw[hvl,hmin1]) (fun j v hj=>by
    rw[Addr.add_lit,World.cell?_of_block (w:=w) (a:=⟨vb,voff+j,none⟩) (by rw[hW];exact hO1 vb hvw)]
    exact hvs j v hj) (by rw[hvl,hRl];omega) h1v
  rw[h,hmin1,hc1]
 have hcpB: ∀(W:World),W.heap=(W1.setRow q c1).heap→∀ty dc sc,(Builtin.copy_ #[24,24] ty #[.slice (some ⟨q,(i+m)*2,none⟩) (n+m- (i+m)) dc,.slice (some ⟨b,i*2,none⟩) (n-i) sc]).run Tryz.prog W= .ok (goInt (n-i:Nat)) (W.setRow q c2):=fun W hW ty dc sc=>by
  have h:=PG (P:=Tryz.prog) W 24 24 ty 144 2 q ((i+m)*2) (n+m- (i+m)) dc ⟨b,i*2,none⟩ (n-i) sc c1 144 mid Tryz.underlying24 hsz (by rw[hW];exact setRow_heap W1 q ROW c1 _ _ hg1) (by rw[hml,hmin2]) (fun j v hj=>by
    rw[Addr.add_lit,World.cell?_of_block (w:=w) (a:=⟨b,i*2+j,none⟩) (by rw[hW,setRow_other W1 q b c1 hbq];exact hO1 b hbw),Lib.cell_of_heap hg]
    rw[hmid,List.getElem?_take] at hj
    split at hj
    ·rw[List.getElem?_drop,Array.getElem?_toList] at hj
     exact hj
    ·cases hj) (by rw[hml,hc1l];omega) (fun v hv=>h1 v (a7k (hmid▸hv)))
  rw[h,hmin2,hc2]
 have hGi: ¬(G=i):=by omega
 have hGim: ¬(G=i+m):=by omega
 have hci: ¬(c=i):=by omega
 have hw1:IntKind.i64.wrap ((i:Int)+(m:Int))=(i:Int)+(m:Int):=by rw[IntKind.wrap_i64];omega
 have hw2:IntKind.i64.wrap ((n:Int)+(m:Int))=(n:Int)+(m:Int):=by rw[IntKind.wrap_i64];omega
 have hw3:IntKind.i64.wrap ((n:Int)+(m:Int)- (i:Int))=(n:Int)+(m:Int)- (i:Int):=by rw[IntKind.wrap_i64];omega
 have hb1:(0:Int)≤(i:Int)+(m:Int):=by omega
 have hin:i≤n:=by omega
 have htn:((i:Int)+(m:Int)).toNat=i+m:=by omega
 have hb3:(i:Int)≤(n:Int):=by omega
 have hG63:G≤9223372036854775807:=by unfold maxLen at hGm;omega
 rw[←hq] at hrz⊢
 have hend: ∀W:World,W.heap=((W1.setRow q c1).setRow q c2).heap→W.os=w.os→W.tape=w.tape→W.output=w.output→
   W.ownsRow 0 144 2 (.slice (some ⟨q,0,none⟩) (n+m) G) (n+m) (cur.toList.take (i*2)++vs++mid)∧w.grownBy W none:=fun W hW e1 e2 e3=>by
  have hg2:W.heap[q]? =some (.cells c2 144 (0,0)):=by rw[hW];exact setRow_heap (W1.setRow q c1) q c1 c2 _ _ (setRow_heap W1 q ROW c1 _ _ hg1)
  have hs:w.heap.size≤W.heap.size:=by
   have:=(Array.getElem?_eq_some_iff.1 hg2).1
   omega
  refine⟨⟨?_,.inr ⟨q,G,c2,rfl,Nat.zero_le _,hg2,hGn,hGm,hc2l,?_⟩⟩,⟨e1,e2,e3,hs,fun k hk _=> ?_⟩⟩
  ·simp only[List.length_append,List.length_take,Array.length_toList,hml,hvl];omega
  ·have x1:c1.toList=cur.toList.take (i*2)++vs++ROW.toList.drop (i*2+vs.length):=by rw[hc1,hRt]
   have l1:(cur.toList.take (i*2)++vs).length=(i+m)*2:=by rw[List.length_append,List.length_take,Array.length_toList,hvl];omega
   have x2:c2.toList=cur.toList.take (i*2)++vs++mid++c1.toList.drop ((i+m)*2+mid.length):=by
    rw[hc2]
    show c1.toList.take ((i+m)*2)++mid++_=_
    rw[x1,←l1,List.take_left]
   rw[x2,show (n+m)*2=(cur.toList.take (i*2)++vs++mid).length by rw[List.length_append,l1,hml];omega,List.take_left]
  ·rw[hW,setRow_other _ q k c2 (by omega),setRow_other _ q k c1 (by omega)]
   exact hO1 k hk
 have Hmid:=Lib.hid hmid
 have Hq:=Lib.hid hq
 have Hend:=Lib.hid hend
 have HW1:=Lib.hid hW1
 clear hkk hik hold hROW hG hRl hmid hq hend hW1 hc1 hc2 hc1l hc2l hml hmin1 hmin2 hz hzs hzb hinf hRt hg1 hO1
 go_enter Tryz.func174,Tryz.ntmps174
 go_wp2_with (first
  |(at_builtin;refine Lib.wpList_append_run _ rfl _ _ _ _ rfl _ _ rfl rfl _ _ (hrz _) ?_)
  |(at_builtin;refine wpList_copy_runI _ rfl _ _ 24 24 rfl _ _ rfl rfl (hcpA _ rfl _ _) ?_))
 go_region_law_o (refine step_copy_runI rfl _ _ 24 24 rfl (.slice (some ⟨q,(i+m)*2,none⟩) (n+m- (i+m)) (G- (i+m))) (.slice (some ⟨b,i*2,none⟩) (n-i) (c-i)) (by simp [Act.eval,Act.put]) (by simp [Act.eval,Act.put]) (hcpB (W1.setRow q c1).drew rfl _ (G- (i+m)) (c-i)) ?_)
 go_wp2_with fail
 go_ret
 rw[←Hmid.out]
 exact⟨G,rfl,Hend.out _ rfl (by rw[HW1.out];rfl) (by rw[HW1.out];rfl) (by rw[HW1.out];rfl)⟩
theorem aFf (v:Value) (n i m vc:Nat) (v0:Option Addr) (xs vs:List Value) (w:World) (hin:i≤n) (hown:w.ownsRow 0 144 2 v n xs) (hby:(n+m)*32≤140737488355328)
  (h1: ∀u∈xs,u.oneCell'=true) (hv0:m=0∨∃vb voff,v0=some ⟨vb,voff,none⟩∧v.ownBlock≠some vb∧∀j u,vs[j]? =some u→w.cell? ⟨vb,voff+j,none⟩=some u)
  (hvl:vs.length=m*2) (h1v: ∀v∈vs,v.oneCell'=true):
  Calls Tryz.prog 174 #[v,.int .i64 i,.slice v0 m vc] w fun e w'=>
   ∃v',e= .returned v'∧w'.ownsRow 0 144 2 v' (n+m) (xs.take (i*2)++vs++xs.drop (i*2))∧(m=0→v'=v)∧(∀b,v'.ownBlock=some b→b=w.heap.size∨v.ownBlock=some b)∧w.grownBy w' v.ownBlock:=by
 have h63:n+m≤maxLen:=by unfold maxLen;omega
 rcases Nat.eq_zero_or_pos m with hm|hm
 ·subst hm
  have hvs:vs=[]:=List.length_eq_zero_iff.1 (by omega)
  subst hvs
  have hres:w.ownsRow 0 144 2 v (n+0) (xs.take (i*2)++[]++xs.drop (i*2)):=by
   rw[List.append_nil,List.take_append_drop];exact hown
  obtain⟨base,c,rfl,hnc,hc⟩: ∃base c,v= .slice base n c∧n≤c∧c≤maxLen:=by
   rcases hown.2 with⟨rfl,rfl⟩ |⟨b,c,cur,rfl,_,_,h2,h3,_⟩
   ·exact⟨none,0,rfl,Nat.le_refl _,by unfold maxLen;omega⟩
   ·exact⟨_,c,rfl,h2,h3⟩
  refine(aFc base n c i v0 vc w hin hnc hc).mono ?_
  rintro e w' ⟨rfl,rfl⟩
  exact⟨_,rfl,hres,fun _=>rfl,fun b hb=> .inr hb,World.grownBy.refl _ _⟩
 ·obtain⟨vb,voff,rfl,hvb,hvs⟩: ∃vb voff,v0=some ⟨vb,voff,none⟩∧v.ownBlock≠some vb∧∀j u,vs[j]? =some u→w.cell? ⟨vb,voff+j,none⟩=some u:=by
   rcases hv0 with h|h
   ·omega
   ·exact h
  have hxl:=hown.1
  rcases Nat.lt_or_ge i n with hlt|hge
  ·rcases hown.2 with⟨rfl,rfl⟩ |⟨b,c,cur,rfl,_,hbk,hnc,hcm,hcs,htk⟩
   ·omega
   ·have hb:vb≠b:=fun h=>hvb (by rw[h];rfl)
    have hx1:cur.toList.take (i*2)=xs.take (i*2):=by rw[←htk,List.take_take,Nat.min_eq_left (by omega)]
    have hx2:(cur.toList.drop (i*2)).take ((n-i)*2)=xs.drop (i*2):=by rw[aE9 hin,htk]
    rcases Nat.lt_or_ge c (n+m) with hr|hr
    ·refine(aFe b n c i vb voff m vc cur vs w hlt hm hnc hr hby hbk hcs hvl hvs (by rw[htk];exact h1) h1v).mono ?_
     rintro e w' ⟨G,rfl,ho,hg⟩
     rw[hx1,hx2] at ho
     exact⟨_,rfl,ho,fun h=>by omega,fun b hb=> .inl (by simpa[Value.ownBlock] using hb.symm),⟨hg.os,hg.tape,hg.output,hg.size,fun k hk _=>hg.block k hk (by simp)⟩⟩
    ·refine(aFb b n c i vb voff m vc cur vs w hlt hm hr hcm hb hbk hcs hvl hvs (by rw[htk];exact h1) h1v).mono ?_
     rintro e w' ⟨rfl,cur',rfl,hs,ht⟩
     rw[hx1,hx2] at ht
     refine⟨_,rfl,⟨?_,.inr ⟨b,c,cur',rfl,Nat.zero_le _,setRow_heap w.drew b cur cur' _ _ hbk,hr,hcm,by rw[hs,hcs],ht⟩⟩,fun h=>by omega,fun b' hb'=> .inr hb',⟨rfl,rfl,rfl,by simp,fun k hk hne=>setRow_other w.drew b k cur' (fun h=>hne (by rw[h];rfl))⟩⟩
     simp only[List.length_append,List.length_take,List.length_drop,hxl,hvl];omega
  ·obtain rfl:i=n:=by omega
   refine(aFd v i vb voff m vc xs vs w hm hown h63 hby hvl hvs h1v).mono ?_
   rintro e w' ⟨q,cap,rfl,ho,hq,hg⟩
   refine⟨_,rfl,?_,fun h=>by omega,fun b hb=> ?_,hg⟩
   ·rw[←hxl,List.take_length,List.drop_length,List.append_nil];exact ho
   ·have hb:q=b:=by simpa[Value.ownBlock] using hb
    exact hb▸hq
theorem a7l {α:Type}{R:α→List Value→Prop}{c:Nat}: ∀{l:List α}{cs:List Value}(i:Nat),qS R c l cs→qS R c (l.take i) (cs.take (i*c))
 |_,_,0,_=>by simp [qS]
 |[],_,_+1,h=>by rw[show _=[] from h];simp [qS]
 |x::l,_,i+1,⟨c1,c2,e,h1,h2,h3⟩=>by
  refine⟨c1,c2.take (i*c),?_,h1,h2,a7l i h3⟩
  rw[e,Nat.succ_mul,Nat.add_comm,←h1,List.take_length_add_append]
theorem a7m {α:Type}{R:α→List Value→Prop}{c:Nat}: ∀{l:List α}{cs:List Value}(i:Nat),qS R c l cs→qS R c (l.drop i) (cs.drop (i*c))
 |_,_,0,h=>by simpa using h
 |[],_,_+1,h=>by rw[show _=[] from h];simp [qS]
 |x::l,_,i+1,⟨c1,c2,e,h1,h2,h3⟩=>by
  rw[e,show (i+1)*c=c1.length+i*c by rw[h1,Nat.succ_mul,Nat.add_comm],List.drop_length_add_append]
  exact a7m i h3
def xZ {t:Type}(l:List t) (i:Int) (v:List t):List t:=List.take i.toNat l++v++List.drop i.toNat l
@[go_sem] def VD:List Slot→List Blk→Option Ret
 |[(.own 0 O,none),(.val (.int .i64) Z,none),(.val (.list (.pair .str (.pair .str .unit))) aA,none)],[.row 144 (.pair .str (.pair .str .unit)) aB aC]=>
  some ⟨[O=aC,0≤Z∧Z≤List.length aB,(List.length aB+List.length aA)*32≤140737488355328],[(.own 0 (List.length (xZ aB Z aA)),none)],[.row 144 (.pair .str (.pair .str .unit)) (xZ aB Z aA) (List.length (xZ aB Z aA))]⟩
 |_,_=>none
set_option maxRecDepth 100000 in
theorem aFg:yR Tryz.prog 174 VD:=by
 refine⟨fun _ _=>rfl,fun g w args vals L r hH ha hC hs=> ?_⟩
 unfold VD at hC
 split at hC
 ·rename_i n iI vl l n2
  cases hC
  obtain rfl:n=n2:=hs _ (by simp)
  obtain⟨hi0,hil⟩:=hs (0≤iI∧iI≤List.length l) (by simp)
  have hby:=hs ((List.length l+List.length vl)*32≤140737488355328) (by simp)
  clear hs
  obtain⟨va,_,rfl,ra,vb,_,rfl,rb,vc,_,rfl,rc,hv⟩:=ha
  cases hv
  have hg0:getH (enumH 0 [Blk.row 144 (.pair .str (.pair .str .unit)) l n]) 0=some (.row 144 (.pair .str (.pair .str .unit)) l n):=rfl
  obtain⟨hl,v,xs,hcur,hown,hF,hnone,hseal⟩:=hH.blk 0 _ hg0
  have hva:va=v:=by
   have:=ra.1.1
   rw[hcur] at this
   exact(Option.some.inj this).symm
  subst hva
  obtain⟨i,rfl⟩:=Int.eq_ofNat_of_zero_le hi0
  have hvb:vb= .int .i64 i:=tW rb.1
  subst hvb
  obtain⟨a,cap,rfl,hcap,hlist⟩:=A9 rc.1
  have hRone: ∀(x:(Ty.pair .str (.pair .str .unit)).den) cs,Rd g w (.pair .str (.pair .str .unit)) x cs→∀v∈cs,v.oneCell'=true:=fun x cs h=>xX h
  obtain⟨vs,hFv,hv0⟩: ∃vs,qS (Rd g w (.pair .str (.pair .str .unit))) 2 vl vs∧(vl.length=0∨∃vb voff,a=some ⟨vb,voff,none⟩∧va.ownBlock≠some vb∧∀j u,vs[j]? =some u→w.cell? ⟨vb,voff+j,none⟩=some u):=by
   rcases hlist with rfl|⟨b,o,rfl,hL⟩
   ·exact⟨[],rfl,.inl rfl⟩
   ·obtain⟨cs,h1,h2,h3⟩:=HR hL
    rcases Nat.eq_zero_or_pos vl.length with h0|h0
    ·exact⟨cs,h1,.inl h0⟩
    ·exact⟨cs,h1,.inr ⟨b,o,rfl,fun hb=>hseal b hb _ (h3 0 (Nat.mul_pos h0 (by decide))),h2⟩⟩
  have hvl:=DS hFv
  have hil2:(i:Int)≤(l.length:Int):=hil
  have hil':i≤n:=by omega
  subst hl
  refine(aFf va l.length i vl.length cap a xs vs w (by omega) hown hby (KK hRone hF) hv0 hvl (KK hRone hFv)).mono ?_
  rintro e w' ⟨v',rfl,hown',hm0,hob,hgr⟩
  have hlen:(xZ l (i:Int) vl).length=l.length+vl.length:=by
   simp only[xZ,Int.toNat_natCast,List.length_append,List.length_take,List.length_drop];omega
  have hF':qS (Rd g w (.pair .str (.pair .str .unit))) 2 (xZ l (i:Int) vl) (xs.take (i*2)++vs++xs.drop (i*2)):=by
   unfold xZ
   rw[Int.toNat_natCast]
   exact KC (KC (a7l i hF) hFv) (a7m i hF)
  have hsl: ∀b o,g.S b o→w'.cell? ⟨b,o,none⟩=w.cell? ⟨b,o,none⟩:=fun b o h=>World.cell?_of_block (a:=⟨b,o,none⟩) (hgr.block b (hH.sl b o h) (fun e=>hseal b e.symm o h))
  have hE:=EffOk.row (side:=[]) (rds:=[]) (s:=(.own 0 (xZ l (i:Int) vl).length,none)) (val:=v') (k:=0) (g:=g) (w:=w) (H:=enumH 0 [Blk.row 144 (.pair .str (.pair .str .unit)) l l.length]) hH (e:=144) (t:= .pair .str (.pair .str .unit)) (l:=xZ l (i:Int) vl) (n:=(xZ l (i:Int) vl).length) (v:=v') rfl (by rw[hlen];exact hown') hF'
   (fun m hm=>hnone m (by omega)) (fun u hu=>by
    rcases Nat.eq_zero_or_pos vl.length with h0|h0
    ·rw[hlen,h0,Nat.add_zero,hcur] at hu
     rw[hm0 h0]
     exact(Option.some.inj hu).symm
    ·rw[hnone _ (by omega)] at hu;cases hu)
   (.inr ⟨va.ownBlock,hgr,fun b hb o=>⟨0,_,by simp,hg0,va,hcur,hb⟩⟩) hsl
   (fun b hb o hS=>by
    rcases hob b hb with h|h
    ·have:=hH.sl b o hS;omega
    ·exact hseal b h o hS)
   (fun b hb=>(hob b hb).imp (fun h=>by omega) fun h o=>⟨0,_,by simp,hg0,va,hcur,h⟩)
   ⟨⟨by simp [Gh.tok],by
    rw[hlen]
    rcases hown'.2 with⟨rfl,h⟩ |⟨b,cap',_,rfl,_,_,h,_⟩
    ·exact .inl ⟨rfl,h⟩
    ·exact .inr ⟨b,cap',rfl,h⟩⟩,trivial⟩
  refine⟨v',_,rfl,⟨fun b o h=>⟨hE.le.S b o h,hE.le.cell b o h⟩,hE.heap.ext ?_,hE.slot,hE.fr.mono fun b o ⟨i,blk,_,h1,h2⟩=>⟨i,blk,h1,h2⟩,fun i blk b o hi ho=> ?_,fun i t x ts h=> ?_,fun i t x ts u y us h _=> ?_,fun _ _ _ h=>h,fun i m u hi h=> ?_⟩⟩
  ·intro i
   match i with
   |0=>rfl
   |i+1=>rfl
  ·match i,hi with
   |0,hi=>
    cases hi
    exact(hE.perm 0 _ b o (by simp [idsOf]) rfl ho).imp id fun⟨i,blk,_,h1,h2⟩=>⟨i,blk,h1,h2⟩
   |i+1,hi=>simp at hi
  ·match i,h with
   |0,h=>cases h
   |i+1,h=>simp at h
  ·match i,h with
   |0,h=>cases h
   |i+1,h=>simp at h
  ·exact hE.le.cur i m u h
 ·cases hC
end Go.Proofs.YtfchbnahjcdiiaaGreatDoor
namespace Go.Proofs.YtfchbnahjcdiiaaGreatDoor.Vc
open Go.RowKit
set_option linter.unusedSectionVars false
@[go_sem] def VE (np:Nat):DV→Bool
 | .any=>true
 | .nilS=>true
 | .val .ref (some (i,_))=>decide (i<np)
 | .val .ref none=>true
 | .val t _=>t.pure
 |_=>false
@[go_sem] def PH (np:Nat):Slot→Bool
 |(d,none)=>VE np d
 |(.val (.list t) _,some k)=>t.pure&&decide (k<np)
 |_=>false
@[go_sem] def I3 (np:Nat):List (Nat×Slot)→Bool
 |[]=>true
 |(_,s)::r=>PH np s&&I3 np r
theorem a7n {np:Nat}: ∀{env:List (Nat×Slot)},I3 np env=true→∀t,PH np (lk env t)=true
 |[],_,t=>rfl
 |(k,s)::r,h,t=>by
  simp only[I3,Bool.and_eq_true] at h
  unfold lk
  split
  ·exact h.1
  ·exact a7n h.2 t
theorem aFh {np:Nat}{g g':Gh}{w:World}(hS:g'.S=g.S) (hJ: ∀i,i<np→g'.J i=g.J i) (hC: ∀i n,i<np→g'.cur i n=g.cur i n) {s:Slot}{v:Value}(hp:PH np s=true) (h:RdS g w s v):RdS g' w s v:=by
 have hV: ∀{t:Ty}{x:t.den},t.pure=true→qR g w t x v→qR g' w t x v:=fun ht hv=>by
  rcases hv with⟨h1,cs,h2,h3⟩ |⟨h1,h2⟩
  ·exact .inl ⟨h1,cs,h2,sW hS ht h3⟩
  ·exact .inr ⟨h1,sW hS ht h2⟩
 have hD: ∀d,VE np d=true→wP g w d v→wP g' w d v:=by
  intro d hd hr
  unfold VE at hd
  split at hd
  ·trivial
  ·exact hr
  ·rename_i i o
   have hi:=of_decide_eq_true hd
   rcases hr with⟨h1,_⟩ |⟨h1,h2⟩
   ·cases h1
   ·refine .inr ⟨h1,?_⟩
    obtain⟨p,hp1,hp2⟩:=h2
    exact⟨p,(hJ i hi).trans hp1,hp2⟩
  ·rcases hr with⟨h1,_⟩ |⟨h1,h2⟩
   ·cases h1
   ·exact .inr ⟨h1,h2⟩
  ·exact hV hd hr
  ·cases hd
 obtain⟨d,k⟩:=s
 cases k with
 |none=>exact⟨hD d hp h.1,trivial⟩
 |some k=>
  unfold PH at hp
  split at hp
  ·rename_i heq;cases heq
  ·rename_i t x k' heq
   cases heq
   simp only[Bool.and_eq_true,decide_eq_true_eq] at hp
   exact⟨hV (t:= .list t) hp.1 h.1,(hC k _ hp.2).trans h.2⟩
  ·cases hp
theorem aFi {np:Nat}{g g':Gh}{w w':World}{env:List (Nat×Slot)}{tmps:Array Value}(h:EnvOk g w env tmps) (hp:I3 np env=true) (hS: ∀b o,g.S b o→g'.S b o) (hc: ∀b o,g.S b o→w'.cell? ⟨b,o,none⟩=w.cell? ⟨b,o,none⟩)
  (hJ: ∀i p,i<np→g.J i=some p→g'.J i=some p) (hC: ∀i n v,i<np→g.cur i n=some v→g'.cur i n=some v):EnvOk g' w' env tmps:=fun t=>by
 have le:Le g w ⟨g'.S,fun i=>if i<np then g'.J i else g.J i,fun i n=>if i<np then g'.cur i n else g.cur i n⟩ w':=by
  refine⟨hS,hc,fun i p hi=> ?_,fun i n v hi=> ?_⟩
  ·show (if i<np then _ else _)=_
   split
   ·rename_i hlt;exact hJ i p hlt hi
   ·exact hi
  ·show (if i<np then _ else _)=_
   split
   ·rename_i hlt;exact hC i n v hlt hi
   ·exact hi
 exact aFh (np:=np) (g:=⟨g'.S,fun i=>if i<np then g'.J i else g.J i,fun i n=>if i<np then g'.cur i n else g.cur i n⟩) (g':=g') rfl (fun i hi=>(if_pos hi).symm) (fun i n hi=>by show g'.cur i n=(if i<np then g'.cur i n else g.cur i n);rw[if_pos hi]) (a7n hp t) (xW le (h t))
theorem Good.inner {A A':Nat→Nat→Prop}{L L':List Blk}{g0 g g':Gh}{w0 w w':World}{H H':Heap}(h:Good A L g0 w0 g w H) (k:Good A' L' g w g' w' H') (hA: ∀b o,A' b o→w.heap.size≤b∨ownsAny g H b o) (hl:L.length≤L'.length)
  (hL: ∀i,i<L.length→∀b,L'[i]? =some b→getH H i=some b):Good A L g0 w0 g' w' H':=by
 have own: ∀b o,A' b o→w0.heap.size≤b∨A b o:=fun b o x=>by
  rcases hA b o x with h1|⟨i,blk,h1,h2⟩
  ·exact .inl (Nat.le_trans h.fr.size h1)
  ·exact h.perm i blk b o h1 h2
 refine⟨fun b o x=> ?_,h.fr.trans k.fr own,fun i blk b o h1 h2=> ?_,fun i p hi hp=>k.J i p (by omega) (h.J i p hi hp),fun i hi=>k.live i (by omega),fun i u y us hi hg=> ?_,fun i n v hi hv=>k.cur i n v (by omega) (h.cur i n v hi hv)⟩
 ·obtain⟨h1,h2⟩:=h.shut b o x
  obtain⟨k1,k2⟩:=k.shut b o h1
  exact⟨k1,k2.trans h2⟩
 ·rcases k.perm i blk b o h1 h2 with h3|h3
  ·exact .inl (Nat.le_trans h.fr.size h3)
  ·exact own b o h3
 ·obtain⟨x,ts,hx⟩:=k.ty i u y us (by omega) hg
  exact h.ty i u x ts hi (hL i hi _ hx)
theorem Good.start {g:Gh}{w:World}{H:Heap}{L':List Blk}(hH:HeapOk g w H) (hL: ∀i b,L'[i]? =some b→getH H i=some b∧b≠.dead) (hty: ∀i,i<L'.length→∀b,getH H i=some b→L'[i]? =some b):Good (ownsAny g H) L' g w g w H:=by
 refine⟨fun b o h=>⟨h,rfl⟩,Fr.refl _ _ _,fun i blk b o hg ho=> .inr ⟨i,blk,hg,ho⟩,fun _ _ _ h=>h,fun i hi=> ?_,fun i u y us hi hg=>⟨y,us,hty i hi _ hg⟩,fun _ _ _ _ h=>h⟩
 obtain⟨h1,h2⟩:=hL i L'[i] (by simp)
 have hbk:=hH.blk i _ h1
 generalize L'[i]=blk at hbk h2
 cases blk with
 |cells t x ts=>obtain⟨p,cs,hp,_⟩:=hbk;exact .inl ⟨p,hp⟩
 |grow e c n=>obtain⟨v,xs,hv,_⟩:=hbk;exact .inr ⟨n,v,hv⟩
 |row e t l n=>obtain⟨_,v,xs,hv,_⟩:=hbk;exact .inr ⟨n,v,hv⟩
 |map k v l=>obtain⟨p,es,cl,hp,_⟩:=hbk;exact .inl ⟨p,hp⟩
 |iter s n=>obtain⟨p,hp,_⟩:=hbk;exact .inl ⟨p,hp⟩
 |dead=>exact absurd rfl h2
@[go_sem] def I4 (env:List (Nat×Slot)):List Nat→List Slot→List (Nat×Slot)
 |p::ps,s::ss=>I4 (rH (some p) s env) ps ss
 |_,_=>env
theorem a7o {g:Gh}{w:World}: ∀{ps:List Nat}{ss:List Slot}{vs:List Value}{env:List (Nat×Slot)}{tmps:Array Value},EnvOk g w env tmps→(∀p∈ps,p<tmps.size)→ArgsOk g w ss vs→ps.length=ss.length→
  EnvOk g w (I4 env ps ss) ((ps.zip vs).foldl (fun t (q:Nat×Value)=>t.setIfInBounds q.1 q.2) tmps)∧((ps.zip vs).foldl (fun t (q:Nat×Value)=>t.setIfInBounds q.1 q.2) tmps).size=tmps.size
 |[],[],vs,env,tmps,h,_,ha,_=>by
  have:vs=[]:=ha
  subst this
  exact⟨h,rfl⟩
 |p::ps,s::ss,vs,env,tmps,h,hp,ha,hl=>by
  obtain⟨v,vs',rfl,h1,h2⟩:=ha
  have hput:EnvOk g w (rH (some p) s env) (tmps.setIfInBounds p v):=UL (a:={tmps:=tmps,defers:=[]}) (o:=⟨some p,.move (.tmp 0),0, "",#[],none⟩) (N:=tmps.size) h (Le.refl g w) h1 rfl (by simpa[dstOk] using hp p (by simp))
  have:=a7o (tmps:=tmps.setIfInBounds p v) hput (fun q hq=>by simpa using hp q (List.mem_cons_of_mem _ hq)) h2 (by simpa using hl)
  exact⟨this.1,by rw[List.zip_cons_cons,List.foldl_cons];rw[this.2];simp⟩
def a7p (P:Program) (gf:Nat) (u:Ty) {ι:Type}(pre:u.den→Prop) (items:u.den→List ι) (vl:ι→List Value):Prop:=
 (∀args w,(callFunc gf args).run P w= .ok (.enter gf args) w)∧
 ∀(l b o:Nat) (x:u.den) (cs:List Value) (g:Gh) (W0:World) (J:Nat→World→Prop) (Jx:World→Prop),pre x→Rd g W0 u x cs→
  (∀i W,J i W→W.rangeAt b o cs∧∀b o,g.S b o→W.cell? ⟨b,o,none⟩=W0.cell? ⟨b,o,none⟩)→
  (∀i W d,J i W→J i {W with drawn:=d})→(∀W d,Jx W→Jx {W with drawn:=d})→
  (∀i it W,(items x)[i]? =some it→J i W→YieldAt Fence.wide 0 P l (vl it).toArray W fun e W'=>(e= .returned (.bool true)∧J (i+1) W')∨(e= .returned (.bool false)∧Jx W'))→
  ∀W,J 0 W→Calls P gf #[.func (.yield l) #[] #[],.pointer (some ⟨b,o,none⟩)] W fun e W'=>(∃v,e= .returned v)∧(J (items x).length W'∨Jx W')
def uZ {ι σ ρ:Type}(f:ι→σ→Option (σ⊕ρ)):List ι→σ→Option (σ⊕ρ)
 |[],x=>some (.inl x)
 |it::r,x=>(f it x).bind fun w=>match w with
  | .inl x'=>uZ f r x'
  | .inr y=>some (.inr y)
theorem aFj {ι σ ρ:Type}{f:ι→σ→Option (σ⊕ρ)}{it:ι}{r:List ι}{x:σ}{y:σ⊕ρ}(h:uZ f (it::r) x=some y): ∃w,f it x=some w∧(∀x',w= .inl x'→uZ f r x'=some y)∧(∀z,w= .inr z→y= .inr z):=by
 unfold uZ at h
 cases hf:f it x with
 |none=>rw[hf] at h;cases h
 |some w=>
  rw[hf] at h
  refine⟨w,rfl,fun x' e=> ?_,fun z e=> ?_⟩
  ·subst e;exact h
  ·subst e;exact(Option.some.inj h).symm
def qA (st:St):Ex→St→Prop
 | .normal,s=> ∃k:Keep,s.keep k=st
 |_,_=>False
def qF {σ ρ:Type}(encH:σ→List Blk) (E0:List (Nat×Slot)) (N np np':Nat) (w:σ⊕ρ) (Q:Ex→St→Prop):Ex→St→Prop
 | .normal,s=> ∃(k:Keep) (x:σ),w= .inl x∧s.keep k=⟨[],enumH 0 (encH x),pB (encH x),N,np'⟩
 |e,s=> ∃(k:Keep) (B:List Blk),s.keep k=⟨[],enumH 0 B,pB B,N,np'⟩∧(∃z,w= .inr z)∧Q e ⟨E0,enumH 0 B,pB B,N,np⟩
section
variable {B:Nat}{A:Nat→Nat→Prop}{L:List Blk}{g0 g:Gh}{w0 w:World}{b0 o0 n0:Nat}{cs:List Value}{E0:List (Nat×Slot)}{tmps:Array Value}{ds:List Deferred}
structure RInv (B:Nat) (A:Nat→Nat→Prop) (L:List Blk) (g0:Gh) (w0:World) (g:Gh) (w:World) (b0 o0 n0:Nat) (cs:List Value) (E0:List (Nat×Slot)) (tmps:Array Value) (ds:List Deferred) (g1:Gh) (W:World) (H:Heap):Prop where
 env:EnvOk g1 W E0 tmps
 heap:HeapOk g1 W H
 good:Good A L g0 w0 g1 W H
 sld: ∀b o,g.S b o→g1.S b o∧W.cell? ⟨b,o,none⟩=w.cell? ⟨b,o,none⟩
 rng:W.rangeAt b0 o0 cs
 len:cs.length=n0
 lt:0<n0→b0<W.heap.size
 out: ∀o,o0≤o→o<o0+n0→¬ownsAny g1 H b0 o
 defs:DefsOk B W ds
theorem RInv.turn {g1:Gh}{W W2:World}{H:Heap}(h:RInv B A L g0 w0 g w b0 o0 n0 cs E0 tmps ds g1 W H) (t:Turn w0.heap.size W W2) {ds':List Deferred}(hd:DefsOk B W2 ds'):RInv B A L g0 w0 g w b0 o0 n0 cs E0 tmps ds' g1 W2 H:=by
 refine⟨fun x=>xW (t.le h.heap.sl) (h.env x),t.heapOk h.heap,h.good.turn h.heap.sl t,fun b o x=>⟨(h.sld b o x).1,(t.cell (h.heap.sl b o (h.sld b o x).1) o).1.trans (h.sld b o x).2⟩,fun j v hv=> ?_,h.len,fun x=>Nat.lt_of_lt_of_le (h.lt x) t.size,h.out,hd⟩
 have hj:j<cs.length:=(List.getElem?_eq_some_iff.1 hv).1
 have:=h.len
 exact(t.cell (h.lt (by omega)) _).1.trans (h.rng j v hv)
theorem RInv.inner {g1 g2:Gh}{W W2:World}{H H2:Heap}{L':List Blk}{np':Nat}(h:RInv B A L g0 w0 g w b0 o0 n0 cs E0 tmps ds g1 W H) (k:Good (ownsAny g1 H) L' g1 W g2 W2 H2) (hH:HeapOk g2 W2 H2) (hpin:I3 np' E0=true) (hnp:np'=L'.length) (hl:L.length≤L'.length)
  (hL: ∀i,i<L.length→∀b,L'[i]? =some b→getH H i=some b):RInv B A L g0 w0 g w b0 o0 n0 cs E0 tmps ds g2 W2 H2:=by
 subst hnp
 refine⟨aFi h.env hpin (fun b o x=>(k.shut b o x).1) (fun b o x=>(k.shut b o x).2) (fun i p hi x=>k.J i p hi x) (fun i n v hi x=>k.cur i n v hi x),hH,h.good.inner k (fun b o x=> .inr x) hl hL,fun b o x=> ?_,fun j v hv=> ?_,h.len,fun x=>Nat.lt_of_lt_of_le (h.lt x) k.fr.size,fun o h1 h2 ⟨i,blk,h3,h4⟩=> ?_,h.defs.same fun D hD=> ?_⟩
 ·obtain⟨h1,h2⟩:=h.sld b o x
  exact⟨(k.shut b o h1).1,(k.shut b o h1).2.trans h2⟩
 ·have hj:j<cs.length:=(List.getElem?_eq_some_iff.1 hv).1
  have:=h.len
  exact(k.fr.cell _ _ (h.lt (by omega)) (h.out _ (by omega) (by omega))).1.trans (h.rng j v hv)
 ·rcases k.perm i blk _ _ h3 h4 with h5|h5
  ·have:=h.lt (by omega);omega
  ·exact h.out o h1 h2 h5
 ·rw[k.fr.blk D (Array.getElem?_eq_some_iff.1 hD).1 (fun o ⟨i,blk,h1,h2⟩=>P2 (h.heap.blk i blk h1) h2 hD rfl)]
  exact hD
theorem a7q {g1 g2:Gh}{W W2:World}{H H2:Heap}{L':List Blk}(hH:HeapOk g1 W H) (k:Good (ownsAny g1 H) L' g1 W g2 W2 H2) {D:Nat}{ob:Obj}(hD:W.heap[D]? =some ob) (hm:markObj ob=true):W2.heap[D]? =some ob:=by
 rw[k.fr.blk D (Array.getElem?_eq_some_iff.1 hD).1 (fun o ⟨i,blk,h1,h2⟩=>P2 (hH.blk i blk h1) h2 hD hm)]
 exact hD
end
theorem Turn.put {B:Nat}{W:World}{l:Nat}{o o':Obj}(h:W.heap[l]? =some o) (hB:B≤l) (hN:NG≤l) (hm:markObj o=true) (hm':markObj o'=true):Turn B W (W.putObj l o'):=by
 have hlt:=(Array.getElem?_eq_some_iff.1 h).1
 refine⟨rfl,rfl,rfl,by simp [World.putObj],fun b hb=> ?_⟩
 by_cases e:b=l
 ·subst e
  exact .inr ⟨hB,hN,_,_,h,World.putObj_heap_same hlt,hm,hm'⟩
 ·exact .inl (World.putObj_heap_other e)
theorem Turn.new (B:Nat) (W:World) (o:Obj):Turn B W (W.alloc o):=by
 refine⟨rfl,rfl,rfl,by simp,fun b hb=> .inl ?_⟩
 exact Below.heap_alloc W o b hb
theorem a7r {e:Ex}{x:Exit}(h:BA x=some e):(x= .normal∧e= .normal)∨(x= .ret∧e= .ret)∨∃id,x= .exit id∧e= .exit id:=by
 cases x<;>simp only[BA,Option.some.injEq] at h
 ·exact .inl ⟨rfl,h.symm⟩
 ·exact .inr (.inr ⟨_,rfl,h.symm⟩)
 ·cases h
 ·exact .inr (.inl ⟨rfl,h.symm⟩)
 ·cases h
 ·cases h
def aFk:Ex→Option Code
 | .normal=>none
 | .ret=>some .ret
 | .exit id=>some (.exit id)
theorem a7s {P:Program}{gf:Nat}{u:Ty}{ι:Type}{pre:u.den→Prop}{items:u.den→List ι}{vl:ι→List Value}(hit:a7p P gf u pre items vl) {sl:ι→List Slot}(hsl: ∀it g w,ArgsOk g w (sl it) (vl it))
  {fo:Operand}{ps:Array Tmp}{assign body:Code}{s:St}{Q:Ex→St→Prop}{c:Nat}{k0:Option Nat}(hf:rF s.env fo=(.val .clo (some (gf,[(c,0)])),k0)) {xc:u.den}{toks:List (Nat×Nat)}(hc:getH s.H c=some (.cells u xc toks)) (hpre:pre xc)
  {σ ρ:Type}{f:ι→σ→Option (σ⊕ρ)}{x0:σ}{y:σ⊕ρ}(hy:uZ f (items xc) x0=some y)
  (E0:List (Nat×Slot)) (E1:ι→List (Nat×Slot)) (encH:σ→List Blk) (np':Nat) (k:Keep) (hk:uR s.np k.ids=true) (h0:s.keep k=⟨E0,enumH 0 (encH x0),pB (encH x0),s.N,s.np⟩)
  (hcd:k.ids.all (fun q=>decide (q.2≠c))=true) (hpin:I3 np' E0=true) (hnp:s.np≤np') (hlen: ∀x,np'≤pB (encH x)) (hdead: ∀x,((encH x).take np').all (fun b=>match b with| .dead=>false|_=>true)=true)
  (hps: ∀it,ps.toList.length=(sl it).length) (hpN:(ps.toList.all fun p=>decide (p<s.N))=true)
  (hround: ∀it x w,f it x=some w→(∀z,w= .inr z→y= .inr z)→Ev true P assign ⟨I4 E0 ps.toList (sl it),enumH 0 (encH x),pB (encH x),s.N,np'⟩ (qA ⟨E1 it,enumH 0 (encH x),pB (encH x),s.N,np'⟩)∧
   Ev true P body ⟨E1 it,enumH 0 (encH x),pB (encH x),s.N,np'⟩ (qF encH E0 s.N s.np np' w Q))
  (hdone: ∀x,y= .inl x→Q .normal ⟨E0,enumH 0 (encH x),pB (encH x),s.N,s.np⟩):Ev false P (.rangeFunc fo ps assign body) s Q:=by
 intro ro hro A L g0 w0 g a w B hB hr hg hn
 have hN:ro=none:=by cases ro<;>first|rfl|cases hro
 subst hN
 have hfv:=wT hr.env fo
 rw[hf] at hfv
 obtain⟨p,hpJ,hev⟩: ∃p,g.J c=some p∧a.eval fo= .func (.func gf) #[] #[.pointer (some ⟨p.1,p.2,none⟩)]:=by
  rcases hfv.1 with⟨h1,_⟩ |⟨_,vs,⟨p,vs',h4,h5,h6⟩,h3⟩
  ·cases h1
  ·rw[show vs'=[] from h6] at h5
   subst h5
   simp only[List.cons.injEq,and_true] at h3
   exact⟨p,h4,h3⟩
 obtain⟨p',cs,hp',hRc,hra,hth,hns,htk⟩:=hr.heap.blk c _ hc
 rw[hpJ] at hp'
 obtain rfl:=Option.some.inj hp'
 have hcl:=qE hRc
 obtain⟨hr1,hg1,hn1,_⟩:=UK hr hg hn k hk
 have hout: ∀o,p.2≤o→o<p.2+u.cells→¬ownsAny (rQ g s.np k.ids) (s.keep k).H p.1 o:=by
  rintro o h1 h2 ⟨i,blk,h3,h4⟩
  have h3':getH (K6 s k (uR s.np k.ids)).H i=some blk:=h3
  rw[hk] at h3'
  obtain⟨o',h5,rfl⟩:=DY h3'
  obtain⟨c1,h6,h7⟩:=(FW hk h5 fun c1 hc1=>hr.heap.blk o' c1 hc1).2 _ _ h4
  have h8:=List.all_eq_true.1 hcd _ h5
  exact hr.heap.dis o' c c1 _ p.1 o (of_decide_eq_true h8) h6 hc h7 ⟨p,hpJ,rfl,h1,h2⟩
 rw[h0] at hr1 hg1 hout
 have inv0:RInv B A L g0 w0 g w p.1 p.2 u.cells cs E0 a.tmps a.defers (rQ g s.np k.ids) w (enumH 0 (encH x0)):=
  ⟨hr1.env,hr1.heap,hg1,fun b o h=>⟨h,rfl⟩,hra,hcl,fun hpos=>by
   obtain⟨v,hv⟩:=Option.isSome_iff_exists.1 (hth.1 0 hpos).1
   exact TB hv,hout,hr.def_⟩
 have hNG:NG≤w.heap.size:=hr.heap.tab.1.1
 have hBw:w0.heap.size≤w.heap.size:=hg.fr.size
 refine wpIn_rangeFunc fun fn _=> ?_
 obtain⟨rec,hrec⟩: ∃rec:LoopState→Option Code→Loop,rec=fun st pe=>{state:=st,pending:=pe,fn,tmps:=a.tmps,params:=ps,assign,body,defers:=w.heap.size}:=⟨_,rfl⟩
 obtain⟨W1,hW1⟩: ∃W1,(w.alloc (.deferred (some []))).alloc (.loop (rec .ready none))=W1:=⟨_,rfl⟩
 have hL1:W1.heap[w.heap.size+1]? =some (.loop (rec .ready none)):=by
  rw[←hW1];have:=World.alloc_heap_new (w.alloc (.deferred (some []))) (.loop (rec .ready none));rwa [World.size_alloc] at this
 have hK1:W1.heap[w.heap.size]? =some (.deferred (some [])):=by
  rw[←hW1];exact(Below.heap_alloc _ _ _ (by simp)).trans (World.alloc_heap_new w _)
 have t1:Turn w0.heap.size w W1:=by rw[←hW1];exact(Turn.new _ _ _).trans (Turn.new _ _ _)
 obtain⟨ds,hds⟩: ∃ds:List Deferred,{target:= .collected w.heap.size,args:= #[]}::a.defers=ds:=⟨_,rfl⟩
 have hd1:DefsOk B W1 ds:=by
  rw[←hds]
  refine⟨List.nodup_cons.2 ⟨fun hm=> ?_,hr.def_.1⟩,fun d hd=> ?_⟩
  ·obtain⟨D,h1,_,_,h4⟩:=hr.def_.2 _ hm
   have h5:w.heap.size=D:=by injection h1 with h1;injection h1
   have:=(Array.getElem?_eq_some_iff.1 h4).1
   omega
  ·rcases List.mem_cons.1 hd with rfl|hd
   ·exact⟨_,rfl,by omega,hNG,hK1⟩
   ·obtain⟨D,h1,h2,h3,h4⟩:=hr.def_.2 _ hd
    have hlt:=(Array.getElem?_eq_some_iff.1 h4).1
    refine⟨D,h1,h2,h3,?_⟩
    rw[←hW1]
    exact(Below.heap_alloc _ _ D (by simp;omega)).trans ((Below.heap_alloc _ _ D hlt).trans h4)
 let l:=w.heap.size+1
 let J:Nat→World→Prop:=fun i W=> ∃g1 x,uZ f ((items xc).drop i) x=some y∧RInv B A L g0 w0 g w p.1 p.2 u.cells cs E0 a.tmps ds g1 W (enumH 0 (encH x))∧
  (∀j,pB (encH x)≤j→g1.J j=none∧∀n,g1.cur j n=none)∧W.heap[l]? =some (.loop (rec .ready none))
 let Jx:World→Prop:=fun W=> ∃g1 Bl e cd z,aFk e=some cd∧y= .inr z∧Q e ⟨E0,enumH 0 Bl,pB Bl,s.N,s.np⟩∧RInv B A L g0 w0 g w p.1 p.2 u.cells cs E0 a.tmps ds g1 W (enumH 0 Bl)∧
  (∀j,pB Bl≤j→g1.J j=none∧∀n,g1.cur j n=none)∧s.np≤pB Bl∧W.heap[l]? =some (.loop (rec .done (some cd)))
 have tdrawn: ∀(W:World) (d:Nat),Turn w0.heap.size W {W with drawn:=d}:=fun W d=>⟨rfl,rfl,rfl,Nat.le_refl _,fun _ _=> .inl rfl⟩
 have hJd: ∀i W d,J i W→J i {W with drawn:=d}:=fun i W d ⟨g1,x,h1,h2,h3,h4⟩=>⟨g1,x,h1,h2.turn (tdrawn W d) (h2.defs.same fun _ h=>h),h3,h4⟩
 have hJxd: ∀W d,Jx W→Jx {W with drawn:=d}:=fun W d ⟨g1,Bl,e,cd,z,h1,h2,h3,h4,h5,h6,h7⟩=>⟨g1,Bl,e,cd,z,h1,h2,h3,h4.turn (tdrawn W d) (h4.defs.same fun _ h=>h),h5,h6,h7⟩
 have hround2: ∀i it W,(items xc)[i]? =some it→J i W→YieldAt Fence.wide 0 P l (vl it).toArray W fun e W'=>(e= .returned (.bool true)∧J (i+1) W')∨(e= .returned (.bool false)∧Jx W'):=by
  rintro i it W hi ⟨g1,x,hfold,inv,nb,hl⟩
  have hil:i<(items xc).length:=(List.getElem?_eq_some_iff.1 hi).1
  have hdrop:(items xc).drop i=it::(items xc).drop (i+1):=by
   rw[List.drop_eq_getElem_cons hil]
   congr 1
   exact(List.getElem?_eq_some_iff.1 hi).2
  rw[hdrop] at hfold
  obtain⟨wv,hw,hinl,hinr⟩:=aFj hfold
  obtain⟨evA,evB⟩:=hround it x wv hw hinr
  have hvl:(vl it).toArray.size=ps.size:=by
   rw[List.size_toArray,(PB (hsl it g1 W)).1,←hps it,Array.length_toList]
  have hyl:=run_yield (P:=P) (args:=(vl it).toArray) hl (by rw[hrec];exact hvl)
  rw[hrec] at hyl
  refine⟨fn,_,assign,body,hyl,roundIn_of_wpIn trivial ?_⟩
  have hz:(ps.zip (vl it).toArray).foldl (fun tmps (t,v)=>tmps.setIfInBounds t v) a.tmps=(ps.toList.zip (vl it)).foldl (fun t (q:Nat×Value)=>t.setIfInBounds q.1 q.2) a.tmps:=by
   rw[←Array.foldl_toList,Array.toList_zip]
  rw[hz]
  obtain⟨henv,hsz⟩:=a7o inv.env (fun q hq=>by rw[hr.size];exact of_decide_eq_true (List.all_eq_true.1 hpN q hq)) (hsl it g1 W) (hps it)
  have hL'len:((encH x).take np').length=np':=by
   rw[List.length_take]
   have:=hlen x
   rw[PC] at this
   omega
  have hLget: ∀i b,((encH x).take np')[i]? =some b→getH (enumH 0 (encH x)) i=some b:=fun i b h=>by
   rw[uY]
   exact(List.getElem?_take_of_lt (by have:=(List.getElem?_eq_some_iff.1 h).1;omega)).symm.trans h
  have hLget2: ∀i b,((encH x).take np')[i]? =some b→getH (enumH 0 (encH x)) i=some b∧b≠.dead:=fun i b h=>⟨hLget i b h,fun e=>by
   have:=List.all_eq_true.1 (hdead x) b (List.mem_of_getElem? h)
   subst e
   cases this⟩
  have hLty: ∀i,i<((encH x).take np').length→∀b,getH (enumH 0 (encH x)) i=some b→((encH x).take np')[i]? =some b:=fun i hi b h=>by
   rw[uY] at h
   exact(List.getElem?_take_of_lt (by omega)).trans h
  have gs:=Good.start inv.heap hLget2 hLty
  have rA:Rel W.heap.size g1 W ⟨I4 E0 ps.toList (sl it),enumH 0 (encH x),pB (encH x),s.N,np'⟩ {tmps:=(ps.toList.zip (vl it)).foldl (fun t (q:Nat×Value)=>t.setIfInBounds q.1 q.2) a.tmps,defers:=[]}:=⟨henv,inv.heap,hsz.trans hr.size,nb,a6e _ _,hlen x⟩
  have hlow:L.length≤((encH x).take np').length:=by rw[hL'len,←hn];exact hnp
  refine wpIn_mono (evA (some l) rfl _ _ g1 W g1 _ W _ (Nat.le_refl _) rA gs hL'len.symm) fun e a1 wa hp=> ?_
  obtain⟨e',g2,s2,e1,e2,e3,e4,e5⟩:=hp
  rcases a7r e1 with⟨rfl,rfl⟩ |⟨rfl,rfl⟩ |⟨id,rfl,rfl⟩
  ·obtain⟨kA,hkA⟩:=e2
   obtain⟨g3,k1,k2,k3,_⟩:=CC e3 e4 e5 kA
   rw[hkA] at k1 k2
   have inva:=inv.inner k2 k1.heap hpin hL'len.symm hlow (fun i hi b h=>hLget i b h)
   have hla:=a7q inv.heap k2 hl rfl
   refine⟨_,run_beginRound hla (by rw[hrec]),?_⟩
   obtain⟨Wb,hWb⟩: ∃Wb,wa.putObj l (.loop {rec .ready none with state:= .busy})=Wb:=⟨_,rfl⟩
   have tb:Turn w0.heap.size wa Wb:=by rw[←hWb];exact Turn.put hla (by show w0.heap.size≤w.heap.size+1;omega) (by show NG≤w.heap.size+1;omega) rfl rfl
   have hlt:=(Array.getElem?_eq_some_iff.1 hla).1
   have other: ∀{W:World}{o o':Obj}{D:Nat},W.heap[l]? =some (.loop (rec .ready none))∨W.heap[l]? =some (.loop {rec .ready none with state:= .busy})→W.heap[D]? =some (.deferred (some []))→(W.putObj l o').heap[D]? =some (.deferred (some [])):=by
    intro W o o' D h1 h2
    rw[World.putObj_heap_other (fun e=>by subst e;rcases h1 with h1|h1<;>(rw[h1] at h2;cases h2))]
    exact h2
   have invb:=inva.turn tb (inva.defs.same fun D hD=>by rw[←hWb];exact other (o:= .loop (rec .ready none)) (.inl hla) hD)
   have hlb:Wb.heap[l]? =some (.loop {rec .ready none with state:= .busy}):=by rw[←hWb];exact World.putObj_heap_same hlt
   rw[hWb]
   have gsb:=Good.start invb.heap hLget2 hLty
   have rB:Rel W.heap.size g3 Wb ⟨E1 it,enumH 0 (encH x),pB (encH x),s.N,np'⟩ a1:=⟨fun t=>xW (tb.le k1.heap.sl) (k1.env t),invb.heap,k1.size,k1.nb,k1.def_.same fun D hD=>by rw[←hWb];exact other (o:= .loop (rec .ready none)) (.inl hla) hD,hlen x⟩
   have hWW:W.heap.size≤Wb.heap.size:=Nat.le_trans k2.fr.size tb.size
   refine wpIn_mono (evB (some l) rfl _ _ g3 Wb g3 a1 Wb _ hWW rB gsb hL'len.symm) fun e a2 wc hp=> ?_
   obtain⟨e',g4,s4,e1,e2,e3,e4,e5⟩:=hp
   have uA: ∀(kB:Keep) (Bl:List Blk),s4.keep kB=⟨[],enumH 0 Bl,pB Bl,s.N,np'⟩→∀jump:Option Code,∃g5,RInv B A L g0 w0 g w p.1 p.2 u.cells cs E0 a.tmps ds g5 (wc.putObj l (.loop (rec (if jump.isNone then .ready else .done) jump))) (enumH 0 Bl)∧
     (∀j,pB Bl≤j→g5.J j=none∧∀n,g5.cur j n=none)∧np'≤pB Bl∧(wc.putObj l (.loop (rec (if jump.isNone then .ready else .done) jump))).heap[l]? =some (.loop (rec (if jump.isNone then .ready else .done) jump))∧
     (Instr.endRound l jump).run P wc= .ok (.bool jump.isNone) (wc.putObj l (.loop (rec (if jump.isNone then .ready else .done) jump))):=by
    intro kB Bl hkB jump
    obtain⟨g5,j1,j2,j3,_⟩:=CC e3 e4 e5 kB
    rw[hkB] at j1 j2
    have invc:=invb.inner j2 j1.heap hpin hL'len.symm hlow (fun i hi b h=>hLget i b h)
    have hlc:=a7q invb.heap j2 hlb rfl
    have hltc:=(Array.getElem?_eq_some_iff.1 hlc).1
    have tc:Turn w0.heap.size wc (wc.putObj l (.loop (rec (if jump.isNone then .ready else .done) jump))):=Turn.put hlc (by show w0.heap.size≤w.heap.size+1;omega) (by show NG≤w.heap.size+1;omega) rfl rfl
    refine⟨g5,invc.turn tc (invc.defs.same fun D hD=>other (o:= .loop (rec .ready none)) (.inr hlc) hD),j1.nb,j1.np,World.putObj_heap_same hltc,?_⟩
    have:=run_endRound (P:=P) jump hlc
    rw[this,hrec]
   rcases a7r e1 with⟨rfl,rfl⟩ |⟨rfl,rfl⟩ |⟨id,rfl,rfl⟩
   ·obtain⟨kB,x',rfl,hkB⟩:=e2
    obtain⟨g5,q1,q2,q3,q4,q5⟩:=uA kB _ hkB none
    exact⟨_,_,q5,.inl ⟨rfl,g5,x',hinl x' rfl,q1,q2,q4⟩⟩
   ·obtain⟨kB,Bl,hkB,⟨z,rfl⟩,hq⟩:=e2
    obtain⟨g5,q1,q2,q3,q4,q5⟩:=uA kB _ hkB (some .ret)
    exact⟨_,_,q5,.inr ⟨rfl,g5,Bl,.ret,.ret,z,rfl,hinr z rfl,hq,q1,q2,Nat.le_trans hnp q3,q4⟩⟩
   ·obtain⟨kB,Bl,hkB,⟨z,rfl⟩,hq⟩:=e2
    obtain⟨g5,q1,q2,q3,q4,q5⟩:=uA kB _ hkB (some (.exit id))
    exact⟨_,_,q5,.inr ⟨rfl,g5,Bl,.exit id,.exit id,z,rfl,hinr z rfl,hq,q1,q2,Nat.le_trans hnp q3,q4⟩⟩
  ·exact e2.elim
  ·exact e2.elim
 refine⟨l,[{target:= .collected w.heap.size,args:= #[]}],W1,{target:= .fn (.func gf) #[.pointer (some ⟨p.1,p.2,none⟩)],args:= #[.func (.yield l) #[] #[]]},W1,gf,#[.func (.yield l) #[] #[]]++ #[.pointer (some ⟨p.1,p.2,none⟩)],W1,?_,?_,fun _ _=>trivial,?_,fun h=>(by cases h),?_⟩
 ·rw[←hW1,hrec];exact run_enterLoop_outer _ _ _ _ _
 ·simp only[resolve,hev]
  simp [go_sem]
 ·simp [invoke,go_sem,hit.1]
 ·have inv1:=inv0.turn t1 hd1
  refine(a6m (ro:=none) (n:=0-1) (hit.2 l p.1 p.2 xc cs g w J Jx hpre hRc (fun i W ⟨g1,x,_,h2,_⟩=>⟨h2.rng,fun b o hb=>(h2.sld b o hb).2⟩) hJd hJxd hround2 W1 ⟨_,x0,hy,inv1,hr1.nb,hL1⟩)).mono ?_
  have hend: ∀{W:World}{r:Loop},W.heap[l]? =some (.loop r)→∀{ds0:List Deferred},DefsOk B W ds0→DefsOk B (W.putObj l (.loop {r with state:= .exhausted})) ds0:=by
   intro W r h1 ds0 h2
   refine h2.same fun D hD=> ?_
   rw[World.putObj_heap_other (fun e=>by subst e;rw[h1] at hD;cases hD)]
   exact hD
  rintro e W2 ⟨⟨v,rfl⟩,(⟨g1,x,h1,h2,h3,h4⟩ |⟨g1,Bl,e,cd,z,h1,h2,h3,h4,h5,h6,h7⟩)⟩
  ·rw[List.drop_length] at h1
   have hyx:y= .inl x:=(Option.some.inj h1).symm
   have hin:=h2.turn (Turn.put (o':= .loop {rec .ready none with state:= .exhausted}) h4 (by show w0.heap.size≤w.heap.size+1;omega) (by show NG≤w.heap.size+1;omega) rfl rfl) (hend h4 h2.defs)
   refine⟨none,W2.putObj l (.loop {rec .ready none with state:= .exhausted}),by have:=run_endLoop (P:=P) h4 (by rw[hrec];simp);rw[hrec] at this⊢;exact this,?_⟩
   refine⟨.normal,g1,_,rfl,hdone x hyx,⟨hin.env,hin.heap,hr.size,h3,?_,Nat.le_trans hnp (hlen x)⟩,hin.good,hn⟩
   have:=hin.defs
   rw[←hds] at this
   exact this
  ·have hin:=h4.turn (Turn.put (o':= .loop {rec .done (some cd) with state:= .exhausted}) h7 (by show w0.heap.size≤w.heap.size+1;omega) (by show NG≤w.heap.size+1;omega) rfl rfl) (hend h7 h4.defs)
   refine⟨some cd,W2.putObj l (.loop {rec .done (some cd) with state:= .exhausted}),by have:=run_endLoop (P:=P) h7 (by rw[hrec];simp);rw[hrec] at this⊢;exact this,?_⟩
   have hdef:=hin.defs
   rw[←hds] at hdef
   have hrel:Rel B g1 (W2.putObj l (.loop {rec .done (some cd) with state:= .exhausted})) ⟨E0,enumH 0 Bl,pB Bl,s.N,s.np⟩ {a with defers:=[{target:= .collected w.heap.size,args:= #[]}]++a.defers}:=⟨hin.env,hin.heap,hr.size,h5,hdef,h6⟩
   cases e with
   |normal=>cases h1
   |ret=>
    obtain rfl:=Option.some.inj h1
    exact wpIn_ret ⟨.ret,g1,_,rfl,h3,hrel,hin.good,hn⟩
   |exit id=>
    obtain rfl:=Option.some.inj h1
    exact wpIn_exit ⟨.exit id,g1,_,rfl,h3,hrel,hin.good,hn⟩
section
variable {σ ρ:Type}{encH:σ→List Blk}{E0:List (Nat×Slot)}{N np np':Nat}{w:σ⊕ρ}{Q:Ex→St→Prop}{st s:St}
theorem a7t (k:Keep) (h:s.keep k=st):qA st .normal s:=⟨k,h⟩
theorem a7u (k:Keep) (x:σ) (hw:w= .inl x) (h:s.keep k=⟨[],enumH 0 (encH x),pB (encH x),N,np'⟩):qF encH E0 N np np' w Q .normal s:=⟨k,x,hw,h⟩
theorem aFl (k:Keep) (B:List Blk) (z:ρ) (hw:w= .inr z) (h:s.keep k=⟨[],enumH 0 B,pB B,N,np'⟩) (hq:Q .ret ⟨E0,enumH 0 B,pB B,N,np⟩):qF encH E0 N np np' w Q .ret s:=⟨k,B,h,⟨z,hw⟩,hq⟩
end
end Go.Proofs.YtfchbnahjcdiiaaGreatDoor.Vc
namespace Go.Proofs.YtfchbnahjcdiiaaGreatDoor
open Go.RowKit Go.Shelf Vc
section
attribute [local go_sem] Oper.semAt_some
def VF (it:Int×List UInt8):List Value:=[.int .i64 it.1,.string ⟨it.2.toArray⟩]
@[go_sem] def VG (it:Int×List UInt8):List Slot:=[(.val (.int .i64) it.1,none),(.val .str it.2,none)]
theorem a7v (it:Int×List UInt8) (g:Gh) (w:World):ArgsOk g w (VG it) (VF it):=⟨_,_,rfl,⟨tX _ _ _ _,trivial⟩,_,_,rfl,⟨DT _ _ _,trivial⟩,rfl⟩
def sF (s:List UInt8) (i:Nat):Nat:=if 0≤Lib.indexByte (s.drop i) 10 then i+(Lib.indexByte (s.drop i) 10).toNat+1 else s.length
def sN (s:List UInt8):Nat→Nat→List (Int×List UInt8)
 |0,_=>[]
 |n+1,i=>if i<s.length then((i:Int),(s.drop i).take (sF s i-i))::sN s n (sF s i) else[]
def tC (s:Ty.str.den):List (Int×List UInt8):=sN s (List.length s) 0
theorem VH: ∀(s:List UInt8) (c:UInt8),Lib.indexByte s c<s.length∧ -1≤Lib.indexByte s c
 |[],_=>by simp [Lib.indexByte]
 |b::l,c=>by
  have:=VH l c
  unfold Lib.indexByte
  split
  ·simp
  ·split
   ·simp;omega
   ·simp only[List.length_cons];omega
theorem a7w {s:List UInt8}{i:Nat}(h:i<s.length):i<sF s i∧sF s i≤s.length:=by
 have:=VH (s.drop i) 10
 rw[List.length_drop] at this
 unfold sF
 split<;>omega
theorem VI (l:List UInt8) (m n:Nat):(⟨l.toArray⟩:ByteArray).extract m n=⟨((l.drop m).take (n-m)).toArray⟩:=by
 apply ByteArray.ext
 apply Array.toList_inj.1
 simp
set_option maxRecDepth 100000 in
set_option maxHeartbeats 4000000 in
theorem a7x:a7p Tryz.prog 83 .str (fun s=>List.length s≤4611686018427387904) tC VF:=by
 refine⟨fun _ _=>rfl,?_⟩
 intro l b o (d:List UInt8) cs g W0 J Jx hpre hR hrd hJd hJxd hY W h0
 rw[show cs=[.string ⟨d.toArray⟩] from hR] at hrd
 have r0: ∀i W,J i W→W.cell? ⟨b,o,none⟩=some (.string ⟨d.toArray⟩):=fun i W h=>by simpa using(hrd i W h).1 0 _ rfl
 have hlen:(tC d)=sN d d.length 0:=rfl
 refine(callsIn_wide (n:=0)).1 (callsIn_of_wp Tryz.func83 rfl trivial ?_)
 simp only[Tryz.ntmps83,List.size_toArray,List.length_cons,List.length_nil,Nat.reduceAdd,Nat.reduceSub,Array.replicate_succ,Array.replicate_zero,List.push_toArray,List.append_toArray,List.nil_append,List.cons_append]
 gi_wp2
 gi_loopw [3] (fun p wr=> ∃i k n:Nat,i≤d.length∧p= .int .i64 i∧d.length≤n+i∧(tC d).drop k=sN d n i∧k≤(tC d).length∧J k wr) (fun p _=>d.length- (RowKit.intOf p).toNat)
 case atStart=>exact⟨0,0,d.length,Nat.zero_le _,rfl,Nat.le_refl _,rfl,Nat.zero_le _,h0⟩
 case round=>
  obtain⟨i,k,n,hi,rfl,hn,hdrop,hk,hJs⟩:=hrel
  have s1:=r0 _ _ hJs
  by_cases hlt:i<d.length
  ·obtain⟨n',rfl⟩: ∃n',n=n'+1:=⟨n-1,by omega⟩
   have hu:sN d (n'+1) i=((i:Int),(d.drop i).take (sF d i-i))::sN d n' (sF d i):=by rw[sN,if_pos hlt]
   rw[hu] at hdrop
   have hq:(tC d)[k]? =some ((i:Int),(d.drop i).take (sF d i-i)):=by
    have:=congrArg (·[0]?) hdrop
    simpa using this
   have hd2:(tC d).drop (k+1)=sN d n' (sF d i):=by
    have:=congrArg (List.drop 1) hdrop
    simpa[List.drop_drop,Nat.add_comm] using this
   have hk2:k+1≤(tC d).length:=(List.getElem?_eq_some_iff.1 hq).1
   obtain⟨fn,tmps,assign,body,hy,hQ⟩:=hY _ _ wr hq hJs
   dsimp only[VF] at hy
   obtain⟨t1,t2⟩:=a7w hlt
   gi_wp2
   refine⟨trivial,rfl,(callsIn_wide.2 (Any.strings_IndexByte Tryz.lays137 _ 10 wr)).mono ?_⟩
   rintro e w' ⟨rfl,rfl⟩
   have hext:((⟨d.toArray⟩:ByteArray).extract i d.length).data.toList=d.drop i:=by
    rw[VI]
    show (d.drop i).take (d.length-i)=d.drop i
    exact List.take_of_length_le (by simp)
   rw[hext,show (10:Int).toNat.toUInt8=10 from rfl]
   have hib:=VH (d.drop i) 10
   rw[List.length_drop] at hib
   unfold sF at hy t1 t2 hd2
   generalize hkk:Lib.indexByte (d.drop i) 10=kk at hib hy t1 t2 hd2
   clear hext hu hdrop
   by_cases hkp:0≤kk
   ·rw[if_pos hkp] at hy t1 t2 hd2
    obtain⟨m,rfl⟩: ∃m:Nat,kk=m:=⟨kk.toNat,by omega⟩
    rw[Int.toNat_natCast] at hy t1 t2 hd2
    rw[←VI] at hy
    have hz:((i:Int)+m+1).toNat=i+m+1:=by omega
    gi_wp2
    refine⟨rfl,hQ.mono ?_⟩
    clear hQ hy
    rintro e W2 (⟨rfl,hJ2⟩ |⟨rfl,hJx⟩)
    ·gi_wp2
     go_roundw
     case rel=>exact⟨i+m+1,k+1,n',by omega,by simp,by omega,hd2,hk2,hJ2⟩
     case measure=>
      show d.length- (i+m+1)<d.length-i
      omega
    ·gi_wp2
     refine bodyPost_ret (results_none rfl _ _ _) rfl ?_
     exact⟨⟨_,rfl⟩,.inr hJx⟩
   ·rw[if_neg hkp] at hy t1 t2 hd2
    rw[←VI] at hy
    gi_wp2
    refine⟨rfl,hQ.mono ?_⟩
    clear hQ hy
    rintro e W2 (⟨rfl,hJ2⟩ |⟨rfl,hJx⟩)
    ·gi_wp2
     go_roundw
     case rel=>exact⟨d.length,k+1,n',by omega,by simp,by omega,hd2,hk2,hJ2⟩
     case measure=>
      show d.length-d.length<d.length-i
      omega
    ·gi_wp2
     refine bodyPost_ret (results_none rfl _ _ _) rfl ?_
     exact⟨⟨_,rfl⟩,.inr hJx⟩
  ·obtain rfl:i=d.length:=by omega
   have hkk:k=(tC d).length:=by
    have h1:=congrArg List.length hdrop
    have h2:sN d n d.length=[]:=by
     cases n with
     |zero=>rfl
     |succ n=>rw[sN,if_neg (Nat.lt_irrefl _)]
    rw[h2,List.length_drop,List.length_nil] at h1
    omega
   gi_wp2
   go_end0
   exact⟨⟨_,rfl⟩,.inl (hkk▸hJs)⟩
end
end Go.Proofs.YtfchbnahjcdiiaaGreatDoor
namespace Go.Proofs.YtfchbnahjcdiiaaGreatDoor
open Vc
set_option maxRecDepth 100000
set_option maxHeartbeats 4000000
set_option linter.unusedSimpArgs false
set_option linter.unusedVariables false
noncomputable section
@[reducible] def p8:Type:=((List UInt8)×((List UInt8)×Unit))
@[reducible] def dT1:Type:=((List UInt8)×((List UInt8)×((List UInt8)×((List (List UInt8))×((List (List UInt8))×(Int×((List p8)×Unit)))))))
@[reducible,go_sem] def BC:Ty:=(.pair .str (.pair .str (.pair .str (.pair (.list .str) (.pair (.list .str) (.pair (.int .i64) (.pair (.list (.pair .str (.pair .str .unit))) .unit)))))))
@[reducible,go_sem] def v6:Ty:=(.pair .str (.pair (.list .str) (.pair (.list (.pair .str (.pair .str .unit))) (.pair (.list BC) .unit))))
@[reducible,go_sem] def vM:Ty:=(.pair .str (.pair (.list .str) (.pair .str .unit)))
@[reducible] def uF:Type:=((List UInt8)×((List (List UInt8))×((List UInt8)×Unit)))
@[reducible,go_sem] def vU:Ty:=(.pair .mref (.pair (.list (.int .u8)) .unit))
@[reducible,go_sem] def g7:Ty:=(.pair .str (.pair .str (.pair .str (.pair (.list .str) (.pair (.rl 9 .str) (.pair (.int .i64) (.pair (.list (.pair .str (.pair .str .unit))) .unit)))))))
@[reducible,go_sem] def uG:Ty:=(.pair (.list .str) (.pair .mp (.pair .mp (.pair .mp (.pair g7 (.pair (.int .i64) .unit))))))
@[reducible,go_sem] def BD:Ty:=(.pair (.int .i64) (.pair .str (.pair .str .unit)))
@[reducible,go_sem] def wF:Ty:=(.pair v6 (.pair .ref (.pair .bool (.pair .mp (.pair (.list (.int .i64)) .unit)))))
@[reducible,go_sem] def yS:Ty:=(.pair BC (.pair .bool (.pair .bool (.pair (.int .i64) .unit))))
@[reducible,go_sem] def E3:Ty:=(.pair (.int .i64) (.pair .str (.pair .str (.pair .bool .unit))))
@[reducible] def rO:Type:=((List UInt8)×((List (List UInt8))×((List p8)×((List dT1)×Unit))))
@[reducible,go_sem] def L3:Ty:=(.pair (.int .i64) (.pair .str .unit))
@[reducible] def CH:Type:=(dT1×(Bool×(Bool×(Int×Unit))))
@[reducible] def CI:Type:=(Int×((List UInt8)×((List UInt8)×(Bool×Unit))))
@[reducible] def CJ:Type:=(Int×((List UInt8)×((List UInt8)×Unit)))
@[reducible,go_sem] def q7:Nat×TI:=(9,⟨.str,0,0,false,[]⟩)
theorem q8:qT Tryz.prog q7.1 q7.2:=⟨by kernel_rfl,(show Tryz.prog.underlying _=_ from by kernel_rfl)⟩
@[reducible,go_sem] def v8:Nat×TI:=(23,⟨(.list .str),9,16,false,[]⟩)
theorem vV:qT Tryz.prog v8.1 v8.2:=⟨by kernel_rfl,(show _∧_∧_ from⟨by kernel_rfl,by kernel_rfl,by kernel_rfl⟩)⟩
@[reducible,go_sem] def G1:Nat×TI:=(34,⟨vM,0,0,false,[(1,9,1)]⟩)
theorem L4:qT Tryz.prog G1.1 G1.2:=⟨by kernel_rfl,(show ((_∧∃_,_∧_)∨_)∧_ from⟨.inl ⟨rfl,_,Tryz.underlying34,(show _∧_∧_∧_ from⟨rfl,by kernel_rfl,by kernel_rfl,(show _∧_∧_∧_ from⟨rfl,by kernel_rfl,by kernel_rfl,(show _∧_∧_∧_ from⟨rfl,by kernel_rfl,by kernel_rfl,trivial⟩)⟩)⟩)⟩,(fun h=>absurd h (by decide))⟩)⟩
@[reducible,go_sem] def BE:Nat×TI:=(37,⟨vM,0,0,false,[(1,9,1)]⟩)
theorem E6:qT Tryz.prog BE.1 BE.2:=⟨by kernel_rfl,(show ((_∧∃_,_∧_)∨_)∧_ from⟨.inl ⟨rfl,_,Tryz.underlying37,(show _∧_∧_∧_ from⟨rfl,by kernel_rfl,by kernel_rfl,(show _∧_∧_∧_ from⟨rfl,by kernel_rfl,by kernel_rfl,(show _∧_∧_∧_ from⟨rfl,by kernel_rfl,by kernel_rfl,trivial⟩)⟩)⟩)⟩,(fun h=>absurd h (by decide))⟩)⟩
@[reducible,go_sem] def AC:Nat×TI:=(42,⟨(.list (.int .u8)),5,1,false,[]⟩)
theorem CK:qT Tryz.prog AC.1 AC.2:=⟨by kernel_rfl,(show _∧_∧_ from⟨by kernel_rfl,by kernel_rfl,by kernel_rfl⟩)⟩
@[reducible,go_sem] def G2:Nat×TI:=(77,⟨vU,0,0,false,[(1,5,1)]⟩)
theorem L5:qT Tryz.prog G2.1 G2.2:=⟨by kernel_rfl,(show ((_∧∃_,_∧_)∨_)∧_ from⟨.inl ⟨rfl,_,Tryz.underlying77,(show _∧_∧_∧_ from⟨rfl,by kernel_rfl,by kernel_rfl,(show _∧_∧_∧_ from⟨rfl,by kernel_rfl,by kernel_rfl,trivial⟩)⟩)⟩,(fun h=>absurd h (by decide))⟩)⟩
@[reducible,go_sem] def CL:Nat×TI:=(24,⟨(.list (.pair .str (.pair .str .unit))),144,32,false,[]⟩)
theorem G3:qT Tryz.prog CL.1 CL.2:=⟨by kernel_rfl,(show _∧_∧_ from⟨by kernel_rfl,by kernel_rfl,by kernel_rfl⟩)⟩
@[reducible,go_sem] def CM:Nat×TI:=(144,⟨(.pair .str (.pair .str .unit)),0,1,false,[]⟩)
theorem G4:qT Tryz.prog CM.1 CM.2:=⟨by kernel_rfl,(show ((_∧∃_,_∧_)∨_)∧_ from⟨.inl ⟨rfl,_,Tryz.underlying144,(show _∧_∧_∧_ from⟨rfl,by kernel_rfl,by kernel_rfl,(show _∧_∧_∧_ from⟨rfl,by kernel_rfl,by kernel_rfl,trivial⟩)⟩)⟩,(fun _=>⟨by kernel_rfl,1,by decide,(.struct rfl Tryz.underlying144 (by kernel_rfl) (.cons (by decide) rfl (by kernel_rfl) (by kernel_rfl) (.str Tryz.underlying9) (.cons (by decide) rfl (by kernel_rfl) (by kernel_rfl) (.str Tryz.underlying9) .nil)))⟩)⟩)⟩
@[reducible,go_sem] def tK:Nat×TI:=(3,⟨(.int .i64),0,0,false,[]⟩)
theorem uH:qT Tryz.prog tK.1 tK.2:=⟨by kernel_rfl,(show Tryz.prog.underlying _=_ from by kernel_rfl)⟩
@[reducible,go_sem] def E8:Nat×TI:=(52,⟨BC,0,0,false,[(3,9,1),(4,9,1),(6,144,2)]⟩)
theorem I5:qT Tryz.prog E8.1 E8.2:=⟨by kernel_rfl,(show ((_∧∃_,_∧_)∨_)∧_ from⟨.inl ⟨rfl,_,Tryz.underlying52,(show _∧_∧_∧_ from⟨rfl,by kernel_rfl,by kernel_rfl,(show _∧_∧_∧_ from⟨rfl,by kernel_rfl,by kernel_rfl,(show _∧_∧_∧_ from⟨rfl,by kernel_rfl,by kernel_rfl,(show _∧_∧_∧_ from⟨rfl,by kernel_rfl,by kernel_rfl,(show _∧_∧_∧_ from⟨rfl,by kernel_rfl,by kernel_rfl,(show _∧_∧_∧_ from⟨rfl,by kernel_rfl,by kernel_rfl,(show _∧_∧_∧_ from⟨rfl,by kernel_rfl,by kernel_rfl,trivial⟩)⟩)⟩)⟩)⟩)⟩)⟩)⟩,(fun h=>absurd h (by decide))⟩)⟩
@[reducible,go_sem] def yT:Nat×TI:=(4,⟨.bool,0,0,false,[]⟩)
theorem AD:qT Tryz.prog yT.1 yT.2:=⟨by kernel_rfl,(show Tryz.prog.underlying _=_ from by kernel_rfl)⟩
@[reducible,go_sem] def G5:Nat×TI:=(59,⟨.mp,9,4,false,[]⟩)
theorem L6:qT Tryz.prog G5.1 G5.2:=⟨by kernel_rfl,(show Tryz.prog.underlying _=_ from by kernel_rfl)⟩
@[reducible,go_sem] def L7:Nat×TI:=(112,⟨.mp,3,4,false,[]⟩)
theorem VJ:qT Tryz.prog L7.1 L7.2:=⟨by kernel_rfl,(show Tryz.prog.underlying _=_ from by kernel_rfl)⟩
@[reducible,go_sem] def E9:Nat×TI:=(114,⟨uG,0,0,false,[(0,9,1),(7,9,1),(10,144,2)]⟩)
theorem I6:qT Tryz.prog E9.1 E9.2:=⟨by kernel_rfl,(show ((_∧∃_,_∧_)∨_)∧_ from⟨.inl ⟨rfl,_,Tryz.underlying114,(show _∧_∧_∧_ from⟨rfl,by kernel_rfl,by kernel_rfl,(show _∧_∧_∧_ from⟨rfl,by kernel_rfl,by kernel_rfl,(show _∧_∧_∧_ from⟨rfl,by kernel_rfl,by kernel_rfl,(show _∧_∧_∧_ from⟨rfl,by kernel_rfl,by kernel_rfl,(show _∧_∧_∧_ from⟨rfl,by kernel_rfl,by kernel_rfl,(show _∧_∧_∧_ from⟨rfl,by kernel_rfl,by kernel_rfl,trivial⟩)⟩)⟩)⟩)⟩)⟩)⟩,(fun h=>absurd h (by decide))⟩)⟩
@[reducible,go_sem] def AE:Nat×TI:=(5,⟨(.int .u8),0,0,false,[]⟩)
theorem CN:qT Tryz.prog AE.1 AE.2:=⟨by kernel_rfl,(show Tryz.prog.underlying _=_ from by kernel_rfl)⟩
@[reducible,go_sem] def L8:Nat×TI:=(21,⟨(.int .i32),0,0,false,[]⟩)
theorem VK:qT Tryz.prog L8.1 L8.2:=⟨by kernel_rfl,(show Tryz.prog.underlying _=_ from by kernel_rfl)⟩
@[reducible,go_sem] def I7:Nat×TI:=(28,⟨(.int .i64),0,0,false,[]⟩)
theorem PI:qT Tryz.prog I7.1 I7.2:=⟨by kernel_rfl,(show Tryz.prog.underlying _=_ from by kernel_rfl)⟩
@[reducible,go_sem] def G6:Nat×TI:=(25,⟨(.list BC),52,128,false,[]⟩)
theorem L9:qT Tryz.prog G6.1 G6.2:=⟨by kernel_rfl,(show _∧_∧_ from⟨by kernel_rfl,by kernel_rfl,by kernel_rfl⟩)⟩
@[reducible,go_sem] def y3:Nat×TI:=(27,⟨v6,0,0,false,[(1,9,1),(2,144,2),(3,52,7)]⟩)
theorem zK:qT Tryz.prog y3.1 y3.2:=⟨by kernel_rfl,(show ((_∧∃_,_∧_)∨_)∧_ from⟨.inl ⟨rfl,_,Tryz.underlying27,(show _∧_∧_∧_ from⟨rfl,by kernel_rfl,by kernel_rfl,(show _∧_∧_∧_ from⟨rfl,by kernel_rfl,by kernel_rfl,(show _∧_∧_∧_ from⟨rfl,by kernel_rfl,by kernel_rfl,(show _∧_∧_∧_ from⟨rfl,by kernel_rfl,by kernel_rfl,trivial⟩)⟩)⟩)⟩)⟩,(fun h=>absurd h (by decide))⟩)⟩
@[reducible,go_sem] def LA:Nat×TI:=(24,⟨(.list (.pair .str (.pair .str .unit))),144,32,true,[]⟩)
theorem VL:qT Tryz.prog LA.1 LA.2:=⟨by kernel_rfl,(show _∧_∧_ from⟨by kernel_rfl,by kernel_rfl,by kernel_rfl⟩)⟩
@[reducible,go_sem] def AF:Nat×TI:=(60,⟨(.list (.int .i64)),3,8,false,[]⟩)
theorem CO:qT Tryz.prog AF.1 AF.2:=⟨by kernel_rfl,(show _∧_∧_ from⟨by kernel_rfl,by kernel_rfl,by kernel_rfl⟩)⟩
@[reducible,go_sem] def PJ:Nat×TI:=(212,⟨(.int .u32),0,0,false,[]⟩)
theorem a7z:qT Tryz.prog PJ.1 PJ.2:=⟨by kernel_rfl,(show Tryz.prog.underlying _=_ from by kernel_rfl)⟩
@[reducible,go_sem] def PL:Nat×TI:=(67,⟨(.list L3),100,24,false,[]⟩)
theorem a7A:qT Tryz.prog PL.1 PL.2:=⟨by kernel_rfl,(show _∧_∧_ from⟨by kernel_rfl,by kernel_rfl,by kernel_rfl⟩)⟩
@[reducible,go_sem] def VM:Nat×TI:=(100,⟨L3,0,1,false,[]⟩)
theorem aFm:qT Tryz.prog VM.1 VM.2:=⟨by kernel_rfl,(show ((_∧∃_,_∧_)∨_)∧_ from⟨.inl ⟨rfl,_,Tryz.underlying100,(show _∧_∧_∧_ from⟨rfl,by kernel_rfl,by kernel_rfl,(show _∧_∧_∧_ from⟨rfl,by kernel_rfl,by kernel_rfl,trivial⟩)⟩)⟩,(fun _=>⟨by kernel_rfl,1,by decide,(.struct rfl Tryz.underlying100 (by kernel_rfl) (.cons (by decide) rfl (by kernel_rfl) (by kernel_rfl) (.int Tryz.underlying3) (.cons (by decide) rfl (by kernel_rfl) (by kernel_rfl) (.str Tryz.underlying9) .nil)))⟩)⟩)⟩
@[reducible,go_sem] def I8:Nat×TI:=(116,⟨yS,0,0,false,[(3,9,1),(4,9,1),(6,144,2)]⟩)
theorem PM:qT Tryz.prog I8.1 I8.2:=⟨by kernel_rfl,(show ((_∧∃_,_∧_)∨_)∧_ from⟨.inl ⟨rfl,_,Tryz.underlying116,(show _∧_∧_∧_ from⟨rfl,by kernel_rfl,by kernel_rfl,(show _∧_∧_∧_ from⟨rfl,by kernel_rfl,by kernel_rfl,(show _∧_∧_∧_ from⟨rfl,by kernel_rfl,by kernel_rfl,(show _∧_∧_∧_ from⟨rfl,by kernel_rfl,by kernel_rfl,trivial⟩)⟩)⟩)⟩)⟩,(fun h=>absurd h (by decide))⟩)⟩
@[reducible,go_sem] def EA:Nat×TI:=(118,⟨E3,0,1,false,[]⟩)
theorem I9:qT Tryz.prog EA.1 EA.2:=⟨by kernel_rfl,(show ((_∧∃_,_∧_)∨_)∧_ from⟨.inl ⟨rfl,_,Tryz.underlying118,(show _∧_∧_∧_ from⟨rfl,by kernel_rfl,by kernel_rfl,(show _∧_∧_∧_ from⟨rfl,by kernel_rfl,by kernel_rfl,(show _∧_∧_∧_ from⟨rfl,by kernel_rfl,by kernel_rfl,(show _∧_∧_∧_ from⟨rfl,by kernel_rfl,by kernel_rfl,trivial⟩)⟩)⟩)⟩)⟩,(fun _=>⟨by kernel_rfl,1,by decide,(.struct rfl Tryz.underlying118 (by kernel_rfl) (.cons (by decide) rfl (by kernel_rfl) (by kernel_rfl) (.int Tryz.underlying3) (.cons (by decide) rfl (by kernel_rfl) (by kernel_rfl) (.str Tryz.underlying9) (.cons (by decide) rfl (by kernel_rfl) (by kernel_rfl) (.str Tryz.underlying9) (.cons (by decide) rfl (by kernel_rfl) (by kernel_rfl) (.bool Tryz.underlying4) .nil)))))⟩)⟩)⟩
@[reducible,go_sem] def LB:Nat×TI:=(52,⟨g7,0,0,false,[(3,9,1),(6,144,2)]⟩)
theorem VN:qT Tryz.prog LB.1 LB.2:=⟨by kernel_rfl,(show ((_∧∃_,_∧_)∨_)∧_ from⟨.inl ⟨rfl,_,Tryz.underlying52,(show _∧_∧_∧_ from⟨rfl,by kernel_rfl,by kernel_rfl,(show _∧_∧_∧_ from⟨rfl,by kernel_rfl,by kernel_rfl,(show _∧_∧_∧_ from⟨rfl,by kernel_rfl,by kernel_rfl,(show _∧_∧_∧_ from⟨rfl,by kernel_rfl,by kernel_rfl,(show _∧_∧_∧_ from⟨rfl,by kernel_rfl,by kernel_rfl,(show _∧_∧_∧_ from⟨rfl,by kernel_rfl,by kernel_rfl,(show _∧_∧_∧_ from⟨rfl,by kernel_rfl,by kernel_rfl,trivial⟩)⟩)⟩)⟩)⟩)⟩)⟩)⟩,(fun h=>absurd h (by decide))⟩)⟩
@[reducible,go_sem] def CP:Nat×TI:=(107,⟨BD,0,1,false,[]⟩)
theorem G7:qT Tryz.prog CP.1 CP.2:=⟨by kernel_rfl,(show ((_∧∃_,_∧_)∨_)∧_ from⟨.inl ⟨rfl,_,Tryz.underlying107,(show _∧_∧_∧_ from⟨rfl,by kernel_rfl,by kernel_rfl,(show _∧_∧_∧_ from⟨rfl,by kernel_rfl,by kernel_rfl,(show _∧_∧_∧_ from⟨rfl,by kernel_rfl,by kernel_rfl,trivial⟩)⟩)⟩)⟩,(fun _=>⟨by kernel_rfl,1,by decide,(.struct rfl Tryz.underlying107 (by kernel_rfl) (.cons (by decide) rfl (by kernel_rfl) (by kernel_rfl) (.int Tryz.underlying3) (.cons (by decide) rfl (by kernel_rfl) (by kernel_rfl) (.str Tryz.underlying9) (.cons (by decide) rfl (by kernel_rfl) (by kernel_rfl) (.str Tryz.underlying9) .nil))))⟩)⟩)⟩
@[reducible,go_sem] def AG:Nat×TI:=(88,⟨wF,0,0,false,[(1,9,1),(2,144,2),(3,52,7),(7,3,1)]⟩)
theorem CQ:qT Tryz.prog AG.1 AG.2:=⟨by kernel_rfl,(show ((_∧∃_,_∧_)∨_)∧_ from⟨.inl ⟨rfl,_,Tryz.underlying88,(show _∧_∧_∧_ from⟨rfl,by kernel_rfl,by kernel_rfl,(show _∧_∧_∧_ from⟨rfl,by kernel_rfl,by kernel_rfl,(show _∧_∧_∧_ from⟨rfl,by kernel_rfl,by kernel_rfl,(show _∧_∧_∧_ from⟨rfl,by kernel_rfl,by kernel_rfl,(show _∧_∧_∧_ from⟨rfl,by kernel_rfl,by kernel_rfl,trivial⟩)⟩)⟩)⟩)⟩)⟩,(fun h=>absurd h (by decide))⟩)⟩
@[reducible,go_sem] def IA:Nat×TI:=(86,⟨.ref,0,0,false,[]⟩)
theorem PN:qT Tryz.prog IA.1 IA.2:=⟨by kernel_rfl,(show∃_,_ from⟨_,Tryz.underlying86⟩)⟩
@[reducible,go_sem] def IB:Nat×TI:=(83,⟨.ref,0,0,false,[]⟩)
theorem PO:qT Tryz.prog IB.1 IB.2:=⟨by kernel_rfl,(show∃_,_ from⟨_,Tryz.underlying83⟩)⟩
theorem pM:Tryz.prog.follows .mixedOrders=true:=by kernel_rfl
@[reducible,go_sem] def PP:Nat×Sig:=(84,⟨[.v,.v],V6,[],[],none⟩)
theorem VO:pN Tryz.prog PP:=⟨aES,fun _ h=>by cases h⟩
@[reducible,go_sem] def LC:Nat×Sig:=(56,⟨[.v,.v],V7,[],[],none⟩)
theorem a7B:pN Tryz.prog LC:=⟨aET,fun _ h=>by cases h⟩
@[reducible,go_sem] def a7C:Nat×Sig:=(185,⟨[.v],V8,[],[],none⟩)
theorem aFn:pN Tryz.prog a7C:=⟨aEU,fun _ h=>by cases h⟩
@[reducible,go_sem] def PQ:Nat×Sig:=(52,⟨[.p vU [1]],V9,[],[],none⟩)
theorem VP:pN Tryz.prog PQ:=⟨aEZ,fun _ h=>by cases h⟩
@[reducible,go_sem] def VQ:Nat×Sig:=(37,⟨[.p vU [1]],VB,[],[],none⟩)
theorem a7D:pN Tryz.prog VQ:=⟨aE7,fun _ h=>by cases h⟩
@[reducible,go_sem] def a7E:Nat×Sig:=(174,⟨[.r,.v,.v],VD,[],[],none⟩)
theorem aFo:pN Tryz.prog a7E:=⟨aFg,fun _ h=>by cases h⟩
@[reducible,go_sem] def VR:Nat×Sig:=(96,⟨[.v],g6,[],[],some a7e⟩)
theorem aFp:pN Tryz.prog VR:=aEW
end
end Go.Proofs.YtfchbnahjcdiiaaGreatDoor
namespace Go.Proofs.YtfchbnahjcdiiaaGreatDoor
open Vc
theorem vN {σ ρ:Type}(f:σ→Option (σ⊕ρ)) (x:σ):pF f x=(f x).bind fun w=>match w with
  | .inl y=>pF f y
  | .inr r=>some r:=by
 cases h:f x with
 |none=>
  cases h2:pF f x with
  |none=>rfl
  |some r=>
   obtain⟨n,hn⟩:=PE h2
   cases n with
   |zero=>cases hn
   |succ n=>unfold iter at hn;rw[h] at hn;cases hn
 |some w=>
  cases w with
  |inl y=>exact CF h
  |inr r=>exact tH h
theorem vO {t:Ty}{l:List t.den}{i:Nat}(h:i<l.length):pX t l (i:Int)=l[i]:=by
 unfold pX
 rw[Int.toNat_natCast,List.getD_eq_getElem?_getD,List.getElem?_eq_getElem h];rfl
theorem uI {l:List UInt8}{i:Nat}(h:i<l.length):p9 l (i:Int)=(l[i].toNat:Int):=by
 unfold p9
 rw[Int.toNat_natCast,List.getD_eq_getElem?_getD,List.getElem?_eq_getElem h];rfl
def sP {β:Type}(f:Nat→β) (b:β):Option Nat→β
 |some k=>f k
 |none=>b
theorem VS {α ρ:Type}{f:Int→Option (Int⊕(Unit⊕ρ))}{l:List α}(p:α→Bool) (g:Nat→ρ)
  (hf: ∀(i:Nat) (h:i<l.length),f i=if p l[i]=true then some (.inr (.inr (g i))) else some (.inl (i+1)))
  (he:f l.length=some (.inr (.inl ()))): ∀(n j:Nat),j+n=l.length→pF f j=some (sP (fun k=> .inr (g (j+k))) (.inl ()) ((l.drop j).findIdx? p))
 |0,j,hj=>by
  have:j=l.length:=by omega
  subst this
  rw[List.drop_length,vN,he]
  rfl
 |n+1,j,hj=>by
  have hlt:j<l.length:=by omega
  rw[vN,hf j hlt,List.drop_eq_getElem_cons hlt,List.findIdx?_cons]
  by_cases hp:p l[j]=true
  ·rw[if_pos hp,if_pos hp]
   rfl
  ·rw[if_neg hp,if_neg hp]
   show pF f ((j:Int)+1)=_
   have:=VS p g hf he n (j+1) (by omega)
   rw[show ((j:Int)+1)=((j+1:Nat):Int) by omega,this]
   cases(l.drop (j+1)).findIdx? p with
   |none=>rfl
   |some k=>
    show some (Sum.inr (g (j+1+k)))=some (Sum.inr (g (j+(k+1))))
    rw[show j+1+k=j+(k+1) by omega]
theorem AH {α ρ:Type}{f:Int→Option (Int⊕(Unit⊕ρ))}{l:List α}(p:α→Bool) (g:Nat→ρ)
  (hf: ∀(i:Nat) (h:i<l.length),f i=if p l[i]=true then some (.inr (.inr (g i))) else some (.inl (i+1)))
  (he:f l.length=some (.inr (.inl ()))):pF f 0=some (sP (fun k=> .inr (g k)) (.inl ()) (l.findIdx? p)):=by
 have:=VS p g hf he l.length 0 (by omega)
 simpa using this
theorem a7F {s:List UInt8}{i:Nat}(h:i<s.length) (ha:s[i].toNat<128):sE s i=(s[i].toNat:Int)∧wN s i=i+1:=by
 have h1:=Lib.decodeL_drop ⟨s.toArray⟩ i
 have h2:(⟨s.toArray⟩:ByteArray).data.toList.drop i=s[i]::s.drop (i+1):=by
  show s.drop i=_
  rw[List.drop_eq_getElem_cons h]
 rw[h2,Lib.decodeL_ascii _ _ ha] at h1
 unfold sE wN T2
 rw[←h1,if_pos h]
 exact⟨rfl,rfl⟩
theorem aFq {n b0 b1 b2 b3:Nat}(h:128≤b0):128≤(Lib.decodeN n b0 b1 b2 b3).1:=by
 unfold Lib.decodeN
 repeat' split
 all_goals first|omega|(dsimp only;omega)
theorem a7G {s:List UInt8}{i:Nat}(h:i<s.length) (ha:128≤s[i].toNat):128≤sE s i:=by
 unfold sE
 rw[Lib.decode_at]
 have:(⟨s.toArray⟩:ByteArray).get! i=s[i]:=by
  show s.toArray[i]! =_
  simp [h]
 rw[this]
 exact Int.ofNat_le.2 (aFq ha)
theorem a7H {ρ:Type}{f:Nat→Option (Nat⊕(Unit⊕ρ))}{s:List UInt8}(p:Int→Bool) (g:Nat→ρ) (hb: ∀c,128≤c→p c=true)
  (hf: ∀(i:Nat) (h:i<s.length),f i=if p (sE s i)=true then some (.inr (.inr (g i))) else some (.inl (wN s i)))
  (he:f s.length=some (.inr (.inl ()))): ∀(n j:Nat),j+n=s.length→pF f j=some (sP (fun k=> .inr (g (j+k))) (.inl ()) ((s.drop j).findIdx? (fun b=>p b.toNat)))
 |0,j,hj=>by
  have:j=s.length:=by omega
  subst this
  rw[List.drop_length,vN,he]
  rfl
 |n+1,j,hj=>by
  have hlt:j<s.length:=by omega
  rw[vN,hf j hlt,List.drop_eq_getElem_cons hlt,List.findIdx?_cons]
  by_cases ha:s[j].toNat<128
  ·obtain⟨e1,e2⟩:=a7F hlt ha
   rw[e1,e2]
   by_cases hp:p (s[j].toNat:Int)=true
   ·rw[if_pos hp,if_pos hp]
    rfl
   ·rw[if_neg hp,if_neg hp]
    show pF f (j+1)=_
    rw[a7H p g hb hf he n (j+1) (by omega)]
    cases(s.drop (j+1)).findIdx? (fun b=>p b.toNat) with
    |none=>rfl
    |some k=>
     show some (Sum.inr (g (j+1+k)))=some (Sum.inr (g (j+(k+1))))
     rw[show j+1+k=j+(k+1) by omega]
  ·rw[if_pos (hb _ (a7G hlt (by omega))),if_pos (hb _ (by omega))]
   rfl
theorem a7I {ρ:Type}{f:Nat→Option (Nat⊕(Unit⊕ρ))}{s:List UInt8}(p:Int→Bool) (g:Nat→ρ) (hb: ∀c,128≤c→p c=true)
  (hf: ∀(i:Nat) (h:i<s.length),f i=if p (sE s i)=true then some (.inr (.inr (g i))) else some (.inl (wN s i)))
  (he:f s.length=some (.inr (.inl ()))):pF f 0=some (sP (fun k=> .inr (g k)) (.inl ()) (s.findIdx? (fun b=>p b.toNat))):=by
 have:=a7H p g hb hf he s.length 0 (by omega)
 simpa using this
def fit {α:Type}(l:List α):Prop:=l.length≤1000000
end Go.Proofs.YtfchbnahjcdiiaaGreatDoor
namespace Go.Proofs.YtfchbnahjcdiiaaGreatDoor
open Vc
set_option maxRecDepth 100000
set_option maxHeartbeats 4000000
set_option linter.unusedSimpArgs false
set_option linter.unusedVariables false
noncomputable section
def EB (O:(List UInt8)):((List (List UInt8))×Int×Int)→Option (((List (List UInt8))×Int×Int)⊕((List (List UInt8))×Int)):=fun(Z,aA,aB)=>
 if (decide (aB<(List.length O:Int)))=true then
  if 0≤aB∧aB<(List.length O:Int) then
   if (decide ((p9 O aB)=(10:Int)))=true then
    if i64 (aB+(1:Int)) then
     if 0≤aA∧aA≤(aB+(1:Int))∧(aB+(1:Int))≤(List.length O:Int) then
      if (List.length Z+List.length ([(oV O aA (aB+(1:Int)))]:List (List UInt8)))*16≤140737488355328 then
       if i64 (aB+(1:Int)) then
        if i64 (aB+(1:Int)) then
         some (.inl ((Z++([(oV O aA (aB+(1:Int)))]:List (List UInt8))),(aB+(1:Int)),(aB+(1:Int))))
        else none
       else none
      else none
     else none
    else none
   else
    if i64 (aB+(1:Int)) then
     some (.inl (Z,aA,(aB+(1:Int))))
    else none
  else none
 else
  some (.inr (Z,aA))
def EC (O:(List UInt8)):Option (List (List UInt8)):=
 pW (pF (EB O) (([]:List (List UInt8)),(0:Int),(0:Int))) fun(Z,aA)=>
 if (decide (aA<(List.length O:Int)))=true then
  if 0≤aA∧aA≤(List.length O:Int)∧(List.length O:Int)≤(List.length O:Int) then
   if (List.length Z+List.length ([(oV O aA (List.length O:Int))]:List (List UInt8)))*16≤140737488355328 then
    some ((Z++([(oV O aA (List.length O:Int))]:List (List UInt8))))
   else none
  else none
 else
  some (Z)
section
variable (O:(List UInt8))
@[reducible] def VT:List Slot:=[(.val .str O,none)]
@[reducible] def VU:List Blk:=[]
@[go_sem] def VV:Ret:=⟨[((EC O)).isSome=true],[(.val (.list .str) (val (EC O)),some 0)],[.grow 9 1 (List.length (val (EC O)))]⟩
def a7J:List Slot→List Blk→Option Ret:=pR (V:=(List UInt8)) (fun x=>VT x) (fun x=>VU) fun x=>VV x
@[go_sem] theorem aJD:a7J (no_index (VT O)) (no_index VU)=some (VV O):=pT (fun a0 b0 h1 h2=>by cases h1;cases h2;rfl) O
end
@[reducible,go_sem] def a7K:Nat×Sig:=(23,⟨[.v],a7J,[],[],none⟩)
theorem xF:Env Tryz.prog [q7,v8] (pK []):=⟨⟨q8,⟨vV,trivial⟩⟩,pS,pM⟩
theorem aFr:pN Tryz.prog a7K:=by
 refine pU xF Tryz.func23 (c:=_) rfl (N:=37) (by kernel_rfl) (ts:=[(2,none)]) rfl (fun _ _=>rfl) ?_
 intro O hs hrow
 dsimp only[VT,VU,VV,pP,enumH,pB,pL,pQ,Nat.reduceAdd] at hs hrow⊢
 have hz:=hs
 obtain⟨z0,hC0⟩:=Option.isSome_iff_exists.1 hz
 try rw[pY hC0]
 clear hz hs
 unfold EC at hC0
 refine oU xF ?_
 refine oU xF ?_
 refine oU xF ?_
 refine p5 ?_
 refine oU xF ?_
 refine pV ?_
 obtain⟨y1,hy1,hC0⟩:=oX hC0
 refine s9 0 (fun s=>s=(fun x=>⟨[(0,(.val .str O,none)),(3,(.val (.list .str) x.1,some 0)),(4,(.val (.int .i64) x.2,none))],[(0,.grow 9 1 (List.length x.1))],1,37,0⟩) y1) ?_ ?_
 ·refine s8 hy1 (fun x=>⟨[(0,(.val .str O,none)),(3,(.val (.list .str) x.1,some 0)),(4,(.val (.int .i64) x.2.1,none)),(5,(.val (.int .i64) x.2.2,none))],[(0,.grow 9 1 (List.length x.1))],1,37,0⟩) ⟨[0,3,4,5],[(0,32)]⟩ (by rfl) ?_
  intro x1 w1 n1 hC1 hN1
  obtain⟨Z,aA,aB⟩:=x1
  unfold EB at hC1
  dsimp only at hC1⊢
  refine p5 ?_
  refine oU xF ?_
  refine oZ hC1 (fun hC1 hc1=> ?_) (fun hC1 hc1=> ?_)
  ·refine p7 (p4 (p5 (pV ?_)))
   obtain⟨hg1,hC1⟩:=oY hC1
   refine oU xF ?_ (hp:=by exact hg1)
   refine oZ hC1 (fun hC1 hc2=> ?_) (fun hC1 hc2=> ?_)
   ·obtain⟨hg2,hC1⟩:=oY hC1
    obtain⟨hg3,hC1⟩:=oY hC1
    obtain⟨hg4,hC1⟩:=oY hC1
    refine oU xF ?_ (hp:=by exact And.intro hg2 (And.intro hg3 (And.intro (by first|exact rfl|exact trivial) (hg4))))
    obtain⟨hg5,hC1⟩:=oY hC1
    refine pH xF ?_ (hp:=by exact hg5)
    refine pE (p4 ?_)
    obtain⟨hg6,hC1⟩:=oY hC1
    refine pH xF ?_ (hp:=by exact hg6)
    cases hC1
    exact qV ⟨⟨[0,3,4,5],[(0,0)]⟩,_,by rfl,hN1⟩
   ·refine p7 (pE (p4 ?_))
    obtain⟨hg7,hC1⟩:=oY hC1
    refine pH xF ?_ (hp:=by exact hg7)
    cases hC1
    exact qV ⟨⟨[0,3,4,5],[(0,0)]⟩,_,by rfl,hN1⟩
  ·refine s7 (s3 (sB ?_))
   cases hC1
   cases hN1
   exact sA ⟨⟨[0,3,4],[(0,0)]⟩,by rfl⟩
 ·rintro _ rfl
  obtain⟨aC,aD⟩:=y1
  dsimp only at hC0⊢
  refine s5 (p4 (p5 ?_))
  refine oU xF ?_
  refine oZ hC0 (fun hC0 hc3=> ?_) (fun hC0 hc3=> ?_)
  ·obtain⟨hg8,hC0⟩:=oY hC0
   obtain⟨hg9,hC0⟩:=oY hC0
   refine pH xF ?_ (hp:=by exact And.intro hg8 (And.intro (by first|exact rfl|exact trivial) (hg9)))
   refine p4 ?_
   refine oU xF ?_
   refine oW ?_
   cases hC0
   exact⟨[(0,0)],by rfl,by rfl,by rfl⟩
  ·refine p7 (p4 ?_)
   refine oU xF ?_
   refine oW ?_
   cases hC0
   exact⟨[(0,0)],by rfl,by rfl,by rfl⟩
attribute [irreducible] EC
def a7L (O:uF):Unit:=
 ()
section
variable (O:uF)
@[reducible] def VW:List Slot:=[(.val vM O,none)]
@[reducible] def VX:List Blk:=[]
@[go_sem] def VY:Ret:=⟨[],[(.val vM (O.1,(O.2.1,(O.2.2.1,()))),none)],[]⟩
def a7M:List Slot→List Blk→Option Ret:=pR (V:=uF) (fun x=>VW x) (fun x=>VX) fun x=>VY x
@[go_sem] theorem aJE:a7M (no_index (VW O)) (no_index VX)=some (VY O):=pT (fun a0 b0 h1 h2=>by cases h1;cases h2;rfl) O
end
@[reducible,go_sem] def a7N:Nat×Sig:=(26,⟨[.v],a7M,[],[],none⟩)
theorem VZ:Env Tryz.prog [q7,v8,G1,BE] (pK []):=⟨⟨q8,⟨vV,⟨L4,⟨E6,trivial⟩⟩⟩⟩,pS,pM⟩
theorem aFs:pN Tryz.prog a7N:=by
 refine pU VZ Tryz.func26 (c:=_) rfl (N:=10) (by kernel_rfl) (ts:=[(2,some 37)]) rfl (fun _ _=>rfl) ?_
 intro O hs hrow
 dsimp only[VW,VX,VY,pP,enumH,pB,pL,pQ,Nat.reduceAdd] at hs hrow⊢
 obtain⟨z0,hC0⟩: ∃z,(a7L O)=z:=⟨_,rfl⟩
 try rw[hC0]
 unfold a7L at hC0
 refine oU VZ ?_
 refine oU VZ ?_
 refine oW ?_
 cases hC0
 exact⟨[],by rfl,by rfl,by rfl⟩
def G8 (O:((List Int)×Unit)) (Z:(List UInt8)):Option Unit:=
 if List.length O.1+List.length Z≤140737488355328 then
  some (())
 else none
section
variable (O:(List UInt8)) (Z:((List Int)×Unit)) (aA:Nat)
@[reducible] def W3:List Slot:=[(.val .ref (some (0,0)),none),(.val .str O,none)]
@[reducible] def W4:List Blk:=[.cells vU ((some (0,0)),Z) [(1,1)],.grow 5 1 aA]
@[go_sem] def W5:Ret:=⟨[aA=(List.length Z.1),((G8 Z O)).isSome=true],[(.val (.int .i64) (List.length O:Int),none),(.any,none)],[.cells vU ((some (0,0)),((Z.1++sD O),())) [(1,1)],.grow 5 1 (List.length (Z.1++sD O))]⟩
def a7O:List Slot→List Blk→Option Ret:=pR (V:=((List UInt8)×((List Int)×Unit)×Nat)) (fun x=>W3 x.1) (fun x=>W4 x.2.1 x.2.2) fun x=>W5 x.1 x.2.1 x.2.2
@[go_sem] theorem aJF:a7O (no_index (W3 O)) (no_index (W4 Z aA))=some (W5 O Z aA):=pT (fun⟨a0,a1,a2⟩ ⟨b0,b1,b2⟩ h1 h2=>by cases h1;cases h2;rfl) (O,Z,aA)
end
@[reducible,go_sem] def a7P:Nat×Sig:=(36,⟨[.p vU [1],.v],a7O,[],[],none⟩)
theorem LD:Env Tryz.prog [q7,AC,G2] (pK [PQ]):=⟨⟨q8,⟨CK,⟨L5,trivial⟩⟩⟩,pA VP pS,pM⟩
theorem aFt:pN Tryz.prog a7P:=by
 refine pU LD Tryz.func36 (c:=_) rfl (N:=19) (by kernel_rfl) (ts:=[(4,none),(5,none)]) rfl (fun _ _=>rfl) ?_
 intro⟨O,Z,aA⟩ hs hrow
 dsimp only[W3,W4,W5,pP,enumH,pB,pL,pQ,Nat.reduceAdd] at hs hrow⊢
 obtain⟨rfl,hz⟩:=hs
 obtain⟨z0,hC0⟩:=Option.isSome_iff_exists.1 hz
 try rw[pY hC0]
 clear hz
 unfold G8 at hC0
 refine oU LD ?_
 refine oU LD ?_ (hp:=by exact(by first|exact rfl|exact trivial))
 obtain⟨hg1,hC0⟩:=oY hC0
 refine oU LD ?_ (hp:=by exact And.intro (by first|exact rfl|exact trivial) (hg1))
 refine oU LD ?_
 refine oW ?_
 cases hC0
 exact⟨[(0,0),(1,1)],by rfl,by rfl,by rfl⟩
attribute [irreducible] G8
end
end Go.Proofs.YtfchbnahjcdiiaaGreatDoor
namespace Go.Proofs.YtfchbnahjcdiiaaGreatDoor
open Vc
set_option maxRecDepth 100000
set_option maxHeartbeats 4000000
set_option linter.unusedSimpArgs false
set_option linter.unusedVariables false
noncomputable section
def IC (O:(List (List UInt8))):Option Unit:=
 if i64 ((List.length O:Int)- (1:Int)) then
  if 0≤(0:Int)∧(0:Int)<(List.length O:Int) then
   if 0≤(1:Int)∧(1:Int)≤((List.length O:Int)- (1:Int))∧((List.length O:Int)- (1:Int))≤(List.length O:Int) then
    if (List.length ([]:List (List UInt8))+List.length (oV O (1:Int) ((List.length O:Int)- (1:Int))))*16≤140737488355328 then
     if 0≤((List.length O:Int)- (1:Int))∧((List.length O:Int)- (1:Int))<(List.length O:Int) then
      some (())
     else none
    else none
   else none
  else none
 else none
section
variable (O:(List (List UInt8)))
@[reducible] def W6:List Slot:=[(.val (.list .str) O,none)]
@[reducible] def W7:List Blk:=[]
@[go_sem] def W8:Ret:=⟨[((IC O)).isSome=true],[(.val vM ((pX .str O (0:Int)),((([]:List (List UInt8))++(oV O (1:Int) ((List.length O:Int)- (1:Int)))),((pX .str O ((List.length O:Int)- (1:Int))),()))),none)],[]⟩
def a7Q:List Slot→List Blk→Option Ret:=pR (V:=(List (List UInt8))) (fun x=>W6 x) (fun x=>W7) fun x=>W8 x
@[go_sem] theorem aJG:a7Q (no_index (W6 O)) (no_index W7)=some (W8 O):=pT (fun a0 b0 h1 h2=>by cases h1;cases h2;rfl) O
end
@[reducible,go_sem] def a7R:Nat×Sig:=(49,⟨[.v],a7Q,[],[],none⟩)
theorem PR:Env Tryz.prog [q7,v8,BE] (pK []):=⟨⟨q8,⟨vV,⟨E6,trivial⟩⟩⟩,pS,pM⟩
theorem aFu:pN Tryz.prog a7R:=by
 refine pU PR Tryz.func49 (c:=_) rfl (N:=20) (by kernel_rfl) (ts:=[(2,some 37)]) rfl (fun _ _=>rfl) ?_
 intro O hs hrow
 dsimp only[W6,W7,W8,pP,enumH,pB,pL,pQ,Nat.reduceAdd] at hs hrow⊢
 have hz:=hs
 obtain⟨z0,hC0⟩:=Option.isSome_iff_exists.1 hz
 try rw[pY hC0]
 clear hz hs
 unfold IC at hC0
 refine oU PR ?_
 obtain⟨hg1,hC0⟩:=oY hC0
 refine oU PR ?_ (hp:=by exact hg1)
 obtain⟨hg2,hC0⟩:=oY hC0
 obtain⟨hg3,hC0⟩:=oY hC0
 obtain⟨hg4,hC0⟩:=oY hC0
 obtain⟨hg5,hC0⟩:=oY hC0
 refine rG PR ?_ (hp:=by exact And.intro hg2 (And.intro hg3 (And.intro (by first|exact rfl|exact trivial) (And.intro hg4 (hg5)))))
 refine oW ?_
 cases hC0
 exact⟨[],by rfl,by rfl,by rfl⟩
attribute [irreducible] IC
def G9 (O:uF):Option Unit:=
 if (List.length ([O.1]:List (List UInt8))+List.length O.2.1)*16≤140737488355328 then
  if (List.length (([O.1]:List (List UInt8))++O.2.1)+List.length ([O.2.2.1]:List (List UInt8)))*16≤140737488355328 then
   some (())
  else none
 else none
section
variable (O:uF)
@[reducible] def W9:List Slot:=[(.val vM O,none)]
@[reducible] def WA:List Blk:=[]
@[go_sem] def WB:Ret:=⟨[((G9 O)).isSome=true],[(.val (.list .str) ((([O.1]:List (List UInt8))++O.2.1)++([O.2.2.1]:List (List UInt8))),some 0)],[.grow 9 1 (List.length ((([O.1]:List (List UInt8))++O.2.1)++([O.2.2.1]:List (List UInt8))))]⟩
def a7S:List Slot→List Blk→Option Ret:=pR (V:=uF) (fun x=>W9 x) (fun x=>WA) fun x=>WB x
@[go_sem] theorem aJH:a7S (no_index (W9 O)) (no_index WA)=some (WB O):=pT (fun a0 b0 h1 h2=>by cases h1;cases h2;rfl) O
end
@[reducible,go_sem] def a7T:Nat×Sig:=(50,⟨[.v],a7S,[],[],none⟩)
theorem WC:Env Tryz.prog [q7,v8,BE] (pK []):=⟨⟨q8,⟨vV,⟨E6,trivial⟩⟩⟩,pS,pM⟩
theorem aFv:pN Tryz.prog a7T:=by
 refine pU WC Tryz.func50 (c:=_) rfl (N:=13) (by kernel_rfl) (ts:=[(2,none)]) rfl (fun _ _=>rfl) ?_
 intro O hs hrow
 dsimp only[W9,WA,WB,pP,enumH,pB,pL,pQ,Nat.reduceAdd] at hs hrow⊢
 have hz:=hs
 obtain⟨z0,hC0⟩:=Option.isSome_iff_exists.1 hz
 try rw[pY hC0]
 clear hz hs
 unfold G9 at hC0
 refine oU WC ?_
 obtain⟨hg1,hC0⟩:=oY hC0
 obtain⟨hg2,hC0⟩:=oY hC0
 refine rG WC ?_ (hp:=by exact And.intro (by first|exact rfl|exact trivial) (And.intro hg1 (And.intro (by first|exact rfl|exact trivial) (hg2))))
 refine oW ?_
 cases hC0
 exact⟨[(0,128)],by rfl,by rfl,by rfl⟩
attribute [irreducible] G9
def a7U:Unit:=
 ()
section
@[reducible] def WD:List Slot:=[]
@[reducible] def WE:List Blk:=[]
@[go_sem] def WF:Ret:=⟨[],[(.val .ref (some (0,0)),none)],[.cells uG (([]:List (List UInt8)),((some 1),((some 2),((some 3),((([]:List UInt8),(([]:List UInt8),(([]:List UInt8),(([]:List (List UInt8)),((some (4,0)),((0:Int),(([]:List p8),()))))))),((-1:Int),())))))) [(0,5),(7,6),(10,7)],.map (.int .i64) .bool ([]:List (Int×Bool)),.map .str .bool ([]:List ((List UInt8)×Bool)),.map .str .bool ([]:List ((List UInt8)×Bool)),.row 9 .str ([]:List (List UInt8)) 0,.grow 9 1 (List.length ([]:List (List UInt8))),.grow 9 1 (List.length ([]:List (List UInt8))),.grow 144 2 (List.length ([]:List p8))]⟩
def a7V:List Slot→List Blk→Option Ret:=pR (V:=Unit) (fun x=>WD) (fun x=>WE) fun x=>WF
@[go_sem] theorem aJI:a7V (no_index WD) (no_index WE)=some WF:=pT (fun _ _ h1 h2=>by cases h1;cases h2;rfl) ()
end
@[reducible,go_sem] def CR:Nat×Sig:=(53,⟨[],a7V,[],[],none⟩)
theorem WG:Env Tryz.prog [] (pK []):=⟨trivial,pS,pM⟩
theorem aFw:Env Tryz.prog [tK,yT,q7,G5,L7,E9] (pK []):=⟨⟨uH,⟨AD,⟨q8,⟨L6,⟨VJ,⟨I6,trivial⟩⟩⟩⟩⟩⟩,WG.Γ,pM⟩
theorem PT:pN Tryz.prog CR:=by
 refine pU WG Tryz.func53 (c:=_) rfl (N:=6) (by kernel_rfl) (ts:=[(0,none)]) rfl (fun _ _=>rfl) ?_
 intro⟨⟩ hs hrow
 dsimp only[WD,WE,WF,pP,enumH,pB,pL,pQ,Nat.reduceAdd] at hs hrow⊢
 obtain⟨z0,hC0⟩: ∃z,a7U=z:=⟨_,rfl⟩
 try rw[hC0]
 unfold a7U at hC0
 refine oU WG ?_
 refine oU aFw ?_
 refine oW ?_
 cases hC0
 exact⟨[(0,160),(1,32),(2,64),(3,96),(4,164),(5,161),(6,162),(7,163)],by rfl,by rfl,by rfl⟩
def a7W (O:(List UInt8)):Unit:=
 ()
section
variable (O:(List UInt8))
@[reducible] def WH:List Slot:=[(.val .str O,none)]
@[reducible] def WI:List Blk:=[]
@[go_sem] def WJ:Ret:=⟨[],[(.val .clo (some (83,[(0,0)])),none)],[.cells .str O []]⟩
def a7X:List Slot→List Blk→Option Ret:=pR (V:=(List UInt8)) (fun x=>WH x) (fun x=>WI) fun x=>WJ x
@[go_sem] theorem aJJ:a7X (no_index (WH O)) (no_index WI)=some (WJ O):=pT (fun a0 b0 h1 h2=>by cases h1;cases h2;rfl) O
end
@[reducible,go_sem] def LE:Nat×Sig:=(54,⟨[.v],a7X,[],[],none⟩)
theorem WK:Env Tryz.prog [q7] (pK []):=⟨⟨q8,trivial⟩,pS,pM⟩
theorem a7Y:pN Tryz.prog LE:=by
 refine pU WK Tryz.func54 (c:=_) rfl (N:=4) (by kernel_rfl) (ts:=[(2,none)]) rfl (fun _ _=>rfl) ?_
 intro O hs hrow
 dsimp only[WH,WI,WJ,pP,enumH,pB,pL,pQ,Nat.reduceAdd] at hs hrow⊢
 obtain⟨z0,hC0⟩: ∃z,(a7W O)=z:=⟨_,rfl⟩
 try rw[hC0]
 unfold a7W at hC0
 refine oU WK ?_
 refine oU WK ?_
 refine oW ?_
 cases hC0
 exact⟨[(0,0)],by rfl,by rfl,by rfl⟩
def LF (O:(List UInt8)):Nat→Option (Nat⊕(Unit⊕Bool)):=fun Z=>
 if (decide (Z<List.length O))=true then
  if (decide (Z<List.length O))=true then
   if (((((decide ((sE O Z)<(97:Int)))||(decide ((122:Int)<(sE O Z))))&&((decide ((sE O Z)<(65:Int)))||(decide ((90:Int)<(sE O Z)))))&&((decide ((sE O Z)<(48:Int)))||(decide ((57:Int)<(sE O Z)))))&&(!decide ((sE O Z)=(45:Int))))=true then
    some (.inr (.inr (false)))
   else
    some (.inl (wN O Z))
  else none
 else
  some (.inr (.inl ()))
def ED (O:(List UInt8)):Option Bool:=
 qP (pF (LF O) 0) fun _=>
 some (((decide ((1:Int)≤(List.length O:Int)))&&(decide ((List.length O:Int)≤(40:Int)))))
section
variable (O:(List UInt8))
@[reducible] def WL:List Slot:=[(.val .str O,none)]
@[reducible] def WM:List Blk:=[]
@[go_sem] def WN:Ret:=⟨[((ED O)).isSome=true],[(.val .bool (val (ED O)),none)],[]⟩
def a7Z:List Slot→List Blk→Option Ret:=pR (V:=(List UInt8)) (fun x=>WL x) (fun x=>WM) fun x=>WN x
@[go_sem] theorem aJK:a7Z (no_index (WL O)) (no_index WM)=some (WN O):=pT (fun a0 b0 h1 h2=>by cases h1;cases h2;rfl) O
end
@[reducible,go_sem] def a71:Nat×Sig:=(71,⟨[.v],a7Z,[],[],none⟩)
theorem EE:Env Tryz.prog [q7] (pK []):=⟨⟨q8,trivial⟩,pS,pM⟩
theorem aFx:pN Tryz.prog a71:=by
 refine pU EE Tryz.func71 (c:=_) rfl (N:=44) (by kernel_rfl) (ts:=[(2,none)]) rfl (fun _ _=>rfl) ?_
 intro O hs hrow
 dsimp only[WL,WM,WN,pP,enumH,pB,pL,pQ,Nat.reduceAdd] at hs hrow⊢
 have hz:=hs
 obtain⟨z0,hC0⟩:=Option.isSome_iff_exists.1 hz
 try rw[pY hC0]
 clear hz hs
 unfold ED at hC0
 refine oU EE ?_
 refine p5 ?_
 refine oU EE ?_
 refine pV ?_
 obtain⟨y1,hy1,hC0⟩:=t8 hC0
 refine s9 0 (fun s=> ∃v,y1= .inl v∧s=(fun _=>⟨[(0,(.val .str O,none))],[],0,44,0⟩) v) ?_ ?_
 ·refine s8 hy1 (fun x=>⟨[(0,(.val .str O,none)),(6,(.val .ref (some (0,0)),none))],[(0,.iter O x)],1,44,0⟩) ⟨[0,6],[(0,64)]⟩ (by rfl) ?_
  intro Z w1 n1 hC1 hN1
  unfold LF at hC1
  dsimp only at hC1⊢
  refine oU EE ?_
  refine p5 ?_
  refine oZ hC1 (fun hC1 hc1=> ?_) (fun hC1 hc1=> ?_)
  ·refine p7 (p4 (pV ?_))
   obtain⟨hg1,hC1⟩:=oY hC1
   refine oU EE ?_ (hp:=by exact hg1)
   refine oU EE ?_ (hp:=by exact And.intro (fun hh=>hh) (And.intro (fun hh=>tZ hh) (And.intro (fun hh=>hh) (And.intro (fun hh=>hh) (And.intro (fun hh=>hh) (And.intro (fun hh=>hh) (And.intro (fun hG hh=>BB hG hh) (And.intro (fun hh=>pZ hh) (And.intro (fun hh=>hh) (And.intro (fun hh=>hh) (And.intro (fun hh=>hh) (And.intro (fun hh=>hh) (And.intro (fun hG hh=>BB hG hh) (And.intro (fun hh=>pZ hh) (And.intro (fun hh=>hh) ((fun hh=>pZ hh)))))))))))))))))
   refine oZ hC1 (fun hC1 hc2=> ?_) (fun hC1 hc2=> ?_)
   ·refine oU EE ?_
    refine oW (pC (tJ (tI (pC (p6 ?_)))))
    cases hC1
    cases hN1
    dsimp only at hC0
    cases hC0
    exact⟨[],by rfl,by rfl,by rfl⟩
   ·refine p7 (pE ?_)
    cases hC1
    exact qV ⟨⟨[0,6],[(0,0)]⟩,_,by rfl,hN1⟩
  ·refine s7 (s3 (sB ?_))
   cases hC1
   cases hN1
   exact sA ⟨⟨[0],[]⟩,_,rfl,by rfl⟩
 ·rintro _ ⟨v,rfl,rfl⟩
  dsimp only at hC0⊢
  refine s5 (p4 ?_)
  refine oU EE ?_ (hp:=by exact And.intro (fun hh=>hh) (And.intro (fun hh=>hh) ((fun hh=>pZ hh))))
  refine oW ?_
  cases hC0
  exact⟨[],by rfl,by rfl,by rfl⟩
attribute [irreducible] ED
end
end Go.Proofs.YtfchbnahjcdiiaaGreatDoor
namespace Go.Proofs.YtfchbnahjcdiiaaGreatDoor
open Vc
set_option maxRecDepth 100000
set_option maxHeartbeats 4000000
set_option linter.unusedSimpArgs false
set_option linter.unusedVariables false
noncomputable section
def LG (O:rO) (Z:(List UInt8)):Int→Option (Int⊕(Unit⊕(Int×Bool))):=fun aA=>
 if (decide (aA<(List.length O.2.2.2.1:Int)))=true then
  if 0≤aA∧aA<(List.length O.2.2.2.1:Int) then
   if (decide ((pX BC O.2.2.2.1 aA).1=Z))=true then
    some (.inr (.inr ((aA,true))))
   else
    if i64 (aA+(1:Int)) then
     some (.inl (aA+(1:Int)))
    else none
  else none
 else
  some (.inr (.inl ()))
def CS (O:rO) (Z:(List UInt8)):Option (Int×Bool):=
 qP (pF (LG O Z) (0:Int)) fun _=>
 some (((0:Int),false))
section
variable (O:rO) (Z:(List UInt8))
@[reducible] def WO:List Slot:=[(.val v6 O,none),(.val .str Z,none)]
@[reducible] def WP:List Blk:=[]
@[go_sem] def WQ:Ret:=⟨[((CS O Z)).isSome=true],[(.val (.int .i64) ((val (CS O Z)).1),none),(.val .bool ((val (CS O Z)).2),none)],[]⟩
def a73:List Slot→List Blk→Option Ret:=pR (V:=(rO×(List UInt8))) (fun x=>WO x.1 x.2) (fun x=>WP) fun x=>WQ x.1 x.2
@[go_sem] theorem aJL:a73 (no_index (WO O Z)) (no_index WP)=some (WQ O Z):=pT (fun⟨a0,a1⟩ ⟨b0,b1⟩ h1 h2=>by cases h1;cases h2;rfl) (O,Z)
end
@[reducible,go_sem] def a74:Nat×Sig:=(81,⟨[.v,.v],a73,[],[],none⟩)
theorem EF:Env Tryz.prog [q7,G6,y3,E8] (pK []):=⟨⟨q8,⟨L9,⟨zK,⟨I5,trivial⟩⟩⟩⟩,pS,pM⟩
theorem aFy:pN Tryz.prog a74:=by
 refine pU EF Tryz.func81 (c:=_) rfl (N:=23) (by kernel_rfl) (ts:=[(4,none),(5,none)]) rfl (fun _ _=>rfl) ?_
 intro⟨O,Z⟩ hs hrow
 dsimp only[WO,WP,WQ,pP,enumH,pB,pL,pQ,Nat.reduceAdd] at hs hrow⊢
 have hz:=hs
 obtain⟨z0,hC0⟩:=Option.isSome_iff_exists.1 hz
 try rw[pY hC0]
 clear hz hs
 unfold CS at hC0
 refine oU EF ?_
 refine p5 ?_
 refine oU EF ?_
 refine pV ?_
 obtain⟨y1,hy1,hC0⟩:=t8 hC0
 refine s9 0 (fun s=> ∃v,y1= .inl v∧s=(fun _=>⟨[],[],0,23,0⟩) v) ?_ ?_
 ·refine s8 hy1 (fun x=>⟨[(1,(.val .str Z,none)),(2,(.val .ref (some (0,0)),none)),(6,(.val (.int .i64) x,none))],[(0,.cells v6 O [])],1,23,0⟩) ⟨[1,2,6],[(0,0)]⟩ (by rfl) ?_
  intro aA w1 n1 hC1 hN1
  unfold LG at hC1
  dsimp only at hC1⊢
  refine p5 ?_
  refine oU EF ?_
  refine oZ hC1 (fun hC1 hc1=> ?_) (fun hC1 hc1=> ?_)
  ·refine p7 (p4 (p5 (pV ?_)))
   obtain⟨hg1,hC1⟩:=oY hC1
   refine oU EF ?_ (hp:=by exact hg1)
   refine oZ hC1 (fun hC1 hc2=> ?_) (fun hC1 hc2=> ?_)
   ·refine oU EF ?_
    refine oW (pC (p6 (tJ (tI (pC (p6 ?_))))))
    cases hC1
    cases hN1
    dsimp only at hC0
    cases hC0
    exact⟨[],by rfl,by rfl,by rfl⟩
   ·refine p7 (pE (p4 ?_))
    obtain⟨hg2,hC1⟩:=oY hC1
    refine pH EF ?_ (hp:=by exact hg2)
    cases hC1
    exact qV ⟨⟨[1,2,6],[(0,0)]⟩,_,by rfl,hN1⟩
  ·refine s7 (s3 (sB ?_))
   cases hC1
   cases hN1
   exact sA ⟨⟨[],[]⟩,_,rfl,by rfl⟩
 ·rintro _ ⟨v,rfl,rfl⟩
  dsimp only at hC0⊢
  refine s5 (p4 ?_)
  refine oU EF ?_
  refine oW ?_
  cases hC0
  exact⟨[],by rfl,by rfl,by rfl⟩
attribute [irreducible] CS
def IE (O:(List UInt8)):Int→Option (Int⊕Int):=fun Z=>
 if (((decide (Z<(List.length O:Int)))==true)=true→0≤Z∧Z<(List.length O:Int)) then
  if ((((decide (Z<(List.length O:Int)))==true)&&((decide ((p9 O Z)=(32:Int)))==false))=true→0≤Z∧Z<(List.length O:Int)) then
   if ((decide (Z<(List.length O:Int)))&&((decide ((p9 O Z)=(32:Int)))||(decide ((p9 O Z)=(9:Int)))))=true then
    if i64 (Z+(1:Int)) then
     some (.inl (Z+(1:Int)))
    else none
   else
    some (.inr Z)
  else none
 else none
def GA (O:(List UInt8)):Option (List UInt8):=
 if (((decide ((0:Int)<(List.length O:Int)))==true)=true→i64 ((List.length O:Int)- (1:Int))) then
  if (((decide ((0:Int)<(List.length O:Int)))==true)=true→0≤((List.length O:Int)- (1:Int))∧((List.length O:Int)- (1:Int))<(List.length O:Int)) then
   pW (σ:=(List UInt8)) (
     if ((decide ((0:Int)<(List.length O:Int)))&&(decide ((p9 O ((List.length O:Int)- (1:Int)))=(10:Int))))=true then
      if i64 ((List.length O:Int)- (1:Int)) then
       if 0≤(0:Int)∧(0:Int)≤((List.length O:Int)- (1:Int))∧((List.length O:Int)- (1:Int))≤(List.length O:Int) then
        some ((oV O (0:Int) ((List.length O:Int)- (1:Int))))
       else none
      else none
     else
      some (O)
    ) fun Z=>
   pW (pF (IE Z) (0:Int)) fun aA=>
   if 0≤aA∧aA≤(List.length Z:Int)∧(List.length Z:Int)≤(List.length Z:Int) then
    some ((oV Z aA (List.length Z:Int)))
   else none
  else none
 else none
section
variable (O:(List UInt8))
@[reducible] def WR:List Slot:=[(.val .str O,none)]
@[reducible] def WS:List Blk:=[]
@[go_sem] def WT:Ret:=⟨[((GA O)).isSome=true],[(.val .str (val (GA O)),none)],[]⟩
def a75:List Slot→List Blk→Option Ret:=pR (V:=(List UInt8)) (fun x=>WR x) (fun x=>WS) fun x=>WT x
@[go_sem] theorem aJM:a75 (no_index (WR O)) (no_index WS)=some (WT O):=pT (fun a0 b0 h1 h2=>by cases h1;cases h2;rfl) O
end
@[reducible,go_sem] def a76:Nat×Sig:=(98,⟨[.v],a75,[],[],none⟩)
theorem EG:Env Tryz.prog [q7] (pK []):=⟨⟨q8,trivial⟩,pS,pM⟩
theorem aFz:pN Tryz.prog a76:=by
 refine pU EG Tryz.func98 (c:=_) rfl (N:=41) (by kernel_rfl) (ts:=[(2,none)]) rfl (fun _ _=>rfl) ?_
 intro O hs hrow
 dsimp only[WR,WS,WT,pP,enumH,pB,pL,pQ,Nat.reduceAdd] at hs hrow⊢
 have hz:=hs
 obtain⟨z0,hC0⟩:=Option.isSome_iff_exists.1 hz
 try rw[pY hC0]
 clear hz hs
 unfold GA at hC0
 refine oU EG ?_
 refine p5 ?_
 obtain⟨hg1,hC0⟩:=oY hC0
 obtain⟨hg2,hC0⟩:=oY hC0
 refine oU EG ?_ (hp:=by exact And.intro (fun hh=>hh) (And.intro (fun hh=>hh) (And.intro hg1 (And.intro (fun hh=>hh) (And.intro (fun hh=>hh) (And.intro hg2 (And.intro (fun hh=>hh) ((fun hh=>pZ hh)))))))))
 obtain⟨Z,hC1,hC0⟩:=oX hC0
 refine vL (fun s=>s=(fun x=>⟨[(0,(.val .str x,none))],[],0,41,0⟩) Z) ?_ ?_
 ·refine oZ hC1 (fun hC1 hc1=> ?_) (fun hC1 hc1=> ?_)
  ·obtain⟨hg3,hC1⟩:=oY hC1
   obtain⟨hg4,hC1⟩:=oY hC1
   refine pH EG ?_ (hp:=by exact And.intro hg3 (hg4))
   cases hC1
   exact qG ⟨⟨[0],[]⟩,by rfl⟩
  ·refine p7 ?_
   cases hC1
   exact qG ⟨⟨[0],[]⟩,by rfl⟩
 ·rintro _ rfl
  dsimp only at hC0⊢
  refine p4 ?_
  refine oU EG ?_
  refine p5 (pV ?_)
  obtain⟨aA,hy1,hC0⟩:=oX hC0
  refine s9 0 (fun s=>s=(fun x=>⟨[(0,(.val .str Z,none)),(3,(.val (.int .i64) x,none))],[],0,41,0⟩) aA) ?_ ?_
  ·refine s8 hy1 (fun x=>⟨[(0,(.val .str Z,none)),(3,(.val (.int .i64) x,none))],[],0,41,0⟩) ⟨[0,3],[]⟩ (by rfl) ?_
   intro aB w1 n1 hC1 hN1
   unfold IE at hC1
   dsimp only at hC1⊢
   refine p5 ?_
   obtain⟨hg5,hC1⟩:=oY hC1
   obtain⟨hg6,hC1⟩:=oY hC1
   refine oU EG ?_ (hp:=by exact And.intro (fun hh=>hh) (And.intro (fun hh=>hh) (And.intro hg5 (And.intro (fun hh=>hh) (And.intro (fun hh=>hh) (And.intro (fun hh=>hh) (And.intro (fun hh=>hh) (And.intro hg6 (And.intro (fun hh=>hh) (And.intro (fun hh=>hh) (And.intro (fun hG hh=>BB hG hh) ((fun hh=>pZ hh)))))))))))))
   refine oZ hC1 (fun hC1 hc2=> ?_) (fun hC1 hc2=> ?_)
   ·refine p7 (p4 (pV ?_))
    obtain⟨hg7,hC1⟩:=oY hC1
    refine pH EG ?_ (hp:=by exact hg7)
    refine pE ?_
    cases hC1
    exact qV ⟨⟨[0,3],[]⟩,_,by rfl,hN1⟩
   ·refine s7 (s3 (sB ?_))
    cases hC1
    cases hN1
    exact sA ⟨⟨[0,3],[]⟩,by rfl⟩
  ·rintro _ rfl
   dsimp only at hC0⊢
   refine s5 (p4 ?_)
   obtain⟨hg8,hC0⟩:=oY hC0
   refine oU EG ?_ (hp:=by exact hg8)
   refine oW ?_
   cases hC0
   exact⟨[],by rfl,by rfl,by rfl⟩
attribute [irreducible] GA
def zL (O:(List UInt8)) (Z:(List UInt8)):Option Unit:=
 if (((decide ((List.length Z:Int)≤(List.length O:Int)))==true)=true→0≤(0:Int)∧(0:Int)≤(List.length Z:Int)∧(List.length Z:Int)≤(List.length O:Int)) then
  some (())
 else none
section
variable (O:(List UInt8)) (Z:(List UInt8))
@[reducible] def WU:List Slot:=[(.val .str O,none),(.val .str Z,none)]
@[reducible] def WV:List Blk:=[]
@[go_sem] def WW:Ret:=⟨[((zL O Z)).isSome=true],[(.val .bool ((decide ((List.length Z:Int)≤(List.length O:Int)))&&(decide ((oV O (0:Int) (List.length Z:Int))=Z))),none)],[]⟩
def a77:List Slot→List Blk→Option Ret:=pR (V:=((List UInt8)×(List UInt8))) (fun x=>WU x.1 x.2) (fun x=>WV) fun x=>WW x.1 x.2
@[go_sem] theorem aJN:a77 (no_index (WU O Z)) (no_index WV)=some (WW O Z):=pT (fun⟨a0,a1⟩ ⟨b0,b1⟩ h1 h2=>by cases h1;cases h2;rfl) (O,Z)
end
@[reducible,go_sem] def PU:Nat×Sig:=(99,⟨[.v,.v],a77,[],[],none⟩)
theorem WX:Env Tryz.prog [q7] (pK []):=⟨⟨q8,trivial⟩,pS,pM⟩
theorem WY:pN Tryz.prog PU:=by
 refine pU WX Tryz.func99 (c:=_) rfl (N:=18) (by kernel_rfl) (ts:=[(4,none)]) rfl (fun _ _=>rfl) ?_
 intro⟨O,Z⟩ hs hrow
 dsimp only[WU,WV,WW,pP,enumH,pB,pL,pQ,Nat.reduceAdd] at hs hrow⊢
 have hz:=hs
 obtain⟨z0,hC0⟩:=Option.isSome_iff_exists.1 hz
 try rw[pY hC0]
 clear hz hs
 unfold zL at hC0
 refine oU WX ?_
 obtain⟨hg1,hC0⟩:=oY hC0
 refine oU WX ?_ (hp:=by exact And.intro (fun hh=>hh) (And.intro (fun hh=>hh) (And.intro (fun hh=>hh) (And.intro hg1 (And.intro (fun hh=>hh) (And.intro (fun hh=>hh) ((fun hh=>pZ hh))))))))
 refine oW ?_
 cases hC0
 exact⟨[],by rfl,by rfl,by rfl⟩
attribute [irreducible] zL
def LH (O:(List (List UInt8))) (Z:(List UInt8)):Int→Option (Int⊕(Unit⊕Bool)):=fun aA=>
 if (decide (aA<(List.length O:Int)))=true then
  if 0≤aA∧aA<(List.length O:Int) then
   if (decide ((pX .str O aA)=Z))=true then
    some (.inr (.inr (true)))
   else
    if i64 (aA+(1:Int)) then
     some (.inl (aA+(1:Int)))
    else none
  else none
 else
  some (.inr (.inl ()))
def GB (O:(List (List UInt8))) (Z:(List UInt8)):Option Bool:=
 qP (pF (LH O Z) (0:Int)) fun _=>
 some (false)
section
variable (O:(List (List UInt8))) (Z:(List UInt8))
@[reducible] def WZ:List Slot:=[(.val (.list .str) O,none),(.val .str Z,none)]
@[reducible] def X0:List Blk:=[]
@[go_sem] def X1:Ret:=⟨[((GB O Z)).isSome=true],[(.val .bool (val (GB O Z)),none)],[]⟩
def a78:List Slot→List Blk→Option Ret:=pR (V:=((List (List UInt8))×(List UInt8))) (fun x=>WZ x.1 x.2) (fun x=>X0) fun x=>X1 x.1 x.2
@[go_sem] theorem aJO:a78 (no_index (WZ O Z)) (no_index X0)=some (X1 O Z):=pT (fun⟨a0,a1⟩ ⟨b0,b1⟩ h1 h2=>by cases h1;cases h2;rfl) (O,Z)
end
@[reducible,go_sem] def a79:Nat×Sig:=(105,⟨[.v,.v],a78,[],[],none⟩)
theorem EH:Env Tryz.prog [q7,v8] (pK []):=⟨⟨q8,⟨vV,trivial⟩⟩,pS,pM⟩
theorem aFA:pN Tryz.prog a79:=by
 refine pU EH Tryz.func105 (c:=_) rfl (N:=18) (by kernel_rfl) (ts:=[(4,none)]) rfl (fun _ _=>rfl) ?_
 intro⟨O,Z⟩ hs hrow
 dsimp only[WZ,X0,X1,pP,enumH,pB,pL,pQ,Nat.reduceAdd] at hs hrow⊢
 have hz:=hs
 obtain⟨z0,hC0⟩:=Option.isSome_iff_exists.1 hz
 try rw[pY hC0]
 clear hz hs
 unfold GB at hC0
 refine oU EH ?_
 refine p5 ?_
 refine oU EH ?_
 refine pV ?_
 obtain⟨y1,hy1,hC0⟩:=t8 hC0
 refine s9 0 (fun s=> ∃v,y1= .inl v∧s=(fun _=>⟨[],[],0,18,0⟩) v) ?_ ?_
 ·refine s8 hy1 (fun x=>⟨[(0,(.val (.list .str) O,none)),(1,(.val .str Z,none)),(5,(.val (.int .i64) x,none))],[],0,18,0⟩) ⟨[0,1,5],[]⟩ (by rfl) ?_
  intro aA w1 n1 hC1 hN1
  unfold LH at hC1
  dsimp only at hC1⊢
  refine p5 ?_
  refine oU EH ?_
  refine oZ hC1 (fun hC1 hc1=> ?_) (fun hC1 hc1=> ?_)
  ·refine p7 (p4 (p5 (pV ?_)))
   obtain⟨hg1,hC1⟩:=oY hC1
   refine oU EH ?_ (hp:=by exact hg1)
   refine oZ hC1 (fun hC1 hc2=> ?_) (fun hC1 hc2=> ?_)
   ·refine oU EH ?_
    refine oW (pC (p6 (tJ (tI (pC (p6 ?_))))))
    cases hC1
    cases hN1
    dsimp only at hC0
    cases hC0
    exact⟨[],by rfl,by rfl,by rfl⟩
   ·refine p7 (pE (p4 ?_))
    obtain⟨hg2,hC1⟩:=oY hC1
    refine pH EH ?_ (hp:=by exact hg2)
    cases hC1
    exact qV ⟨⟨[0,1,5],[]⟩,_,by rfl,hN1⟩
  ·refine s7 (s3 (sB ?_))
   cases hC1
   cases hN1
   exact sA ⟨⟨[],[]⟩,_,rfl,by rfl⟩
 ·rintro _ ⟨v,rfl,rfl⟩
  dsimp only at hC0⊢
  refine s5 (p4 ?_)
  refine oU EH ?_
  refine oW ?_
  cases hC0
  exact⟨[],by rfl,by rfl,by rfl⟩
attribute [irreducible] GB
def LI (O:(List p8)) (Z:(List UInt8)):Int→Option (Int⊕(Unit⊕((List UInt8)×Bool))):=fun aA=>
 if (decide (aA<(List.length O:Int)))=true then
  if 0≤aA∧aA<(List.length O:Int) then
   if (decide ((pX (.pair .str (.pair .str .unit)) O aA).1=Z))=true then
    if 0≤aA∧aA<(List.length O:Int) then
     some (.inr (.inr (((pX (.pair .str (.pair .str .unit)) O aA).2.1,true))))
    else none
   else
    if i64 (aA+(1:Int)) then
     some (.inl (aA+(1:Int)))
    else none
  else none
 else
  some (.inr (.inl ()))
def CT (O:(List p8)) (Z:(List UInt8)):Option ((List UInt8)×Bool):=
 qP (pF (LI O Z) (0:Int)) fun _=>
 some ((([]:List UInt8),false))
section
variable (O:(List p8)) (Z:(List UInt8))
@[reducible] def X2:List Slot:=[(.val (.list (.pair .str (.pair .str .unit))) O,none),(.val .str Z,none)]
@[reducible] def X3:List Blk:=[]
@[go_sem] def X4:Ret:=⟨[((CT O Z)).isSome=true],[(.val .str ((val (CT O Z)).1),none),(.val .bool ((val (CT O Z)).2),none)],[]⟩
def a8a:List Slot→List Blk→Option Ret:=pR (V:=((List p8)×(List UInt8))) (fun x=>X2 x.1 x.2) (fun x=>X3) fun x=>X4 x.1 x.2
@[go_sem] theorem aJP:a8a (no_index (X2 O Z)) (no_index X3)=some (X4 O Z):=pT (fun⟨a0,a1⟩ ⟨b0,b1⟩ h1 h2=>by cases h1;cases h2;rfl) (O,Z)
end
@[reducible,go_sem] def a8b:Nat×Sig:=(107,⟨[.v,.v],a8a,[],[],none⟩)
theorem EI:Env Tryz.prog [q7,CL,CM] (pK []):=⟨⟨q8,⟨G3,⟨G4,trivial⟩⟩⟩,pS,pM⟩
theorem aFB:pN Tryz.prog a8b:=by
 refine pU EI Tryz.func107 (c:=_) rfl (N:=25) (by kernel_rfl) (ts:=[(4,none),(5,none)]) rfl (fun _ _=>rfl) ?_
 intro⟨O,Z⟩ hs hrow
 dsimp only[X2,X3,X4,pP,enumH,pB,pL,pQ,Nat.reduceAdd] at hs hrow⊢
 have hz:=hs
 obtain⟨z0,hC0⟩:=Option.isSome_iff_exists.1 hz
 try rw[pY hC0]
 clear hz hs
 unfold CT at hC0
 refine oU EI ?_
 refine p5 ?_
 refine oU EI ?_
 refine pV ?_
 obtain⟨y1,hy1,hC0⟩:=t8 hC0
 refine s9 0 (fun s=> ∃v,y1= .inl v∧s=(fun _=>⟨[],[],0,25,0⟩) v) ?_ ?_
 ·refine s8 hy1 (fun x=>⟨[(0,(.val (.list (.pair .str (.pair .str .unit))) O,none)),(1,(.val .str Z,none)),(6,(.val (.int .i64) x,none))],[],0,25,0⟩) ⟨[0,1,6],[]⟩ (by rfl) ?_
  intro aA w1 n1 hC1 hN1
  unfold LI at hC1
  dsimp only at hC1⊢
  refine p5 ?_
  refine oU EI ?_
  refine oZ hC1 (fun hC1 hc1=> ?_) (fun hC1 hc1=> ?_)
  ·refine p7 (p4 (p5 (pV ?_)))
   obtain⟨hg1,hC1⟩:=oY hC1
   refine oU EI ?_ (hp:=by exact hg1)
   refine oZ hC1 (fun hC1 hc2=> ?_) (fun hC1 hc2=> ?_)
   ·obtain⟨hg2,hC1⟩:=oY hC1
    refine oU EI ?_ (hp:=by exact hg2)
    refine oW (pC (p6 (tJ (tI (pC (p6 ?_))))))
    cases hC1
    cases hN1
    dsimp only at hC0
    cases hC0
    exact⟨[],by rfl,by rfl,by rfl⟩
   ·refine p7 (pE (p4 ?_))
    obtain⟨hg3,hC1⟩:=oY hC1
    refine pH EI ?_ (hp:=by exact hg3)
    cases hC1
    exact qV ⟨⟨[0,1,6],[]⟩,_,by rfl,hN1⟩
  ·refine s7 (s3 (sB ?_))
   cases hC1
   cases hN1
   exact sA ⟨⟨[],[]⟩,_,rfl,by rfl⟩
 ·rintro _ ⟨v,rfl,rfl⟩
  dsimp only at hC0⊢
  refine s5 (p4 ?_)
  refine oU EI ?_
  refine oW ?_
  cases hC0
  exact⟨[],by rfl,by rfl,by rfl⟩
attribute [irreducible] CT
end
end Go.Proofs.YtfchbnahjcdiiaaGreatDoor
namespace Go.Proofs.YtfchbnahjcdiiaaGreatDoor
open Vc
set_option maxRecDepth 100000
set_option maxHeartbeats 4000000
set_option linter.unusedSimpArgs false
set_option linter.unusedVariables false
noncomputable section
def GC (O:(List (List UInt8))) (Z:(List UInt8)):Int→Option (Int⊕Int):=fun aA=>
 if (((decide (aA<(List.length O:Int)))==true)=true→0≤aA∧aA<(List.length O:Int)) then
  if ((decide (aA<(List.length O:Int)))&&(Op.bytesLess (pX .str O aA) Z))=true then
   if i64 (aA+(1:Int)) then
    some (.inl (aA+(1:Int)))
   else none
  else
   some (.inr aA)
 else none
def EJ (O:(List (List UInt8))) (Z:(List UInt8)):Option (List (List UInt8)):=
 pW (pF (GC O Z) (0:Int)) fun aA=>
 if 0≤(0:Int)∧(0:Int)≤aA∧aA≤(List.length O:Int) then
  if (List.length ([]:List (List UInt8))+List.length (oV O (0:Int) aA))*16≤140737488355328 then
   if (List.length (([]:List (List UInt8))++(oV O (0:Int) aA))+List.length ([Z]:List (List UInt8)))*16≤140737488355328 then
    if 0≤aA∧aA≤(List.length O:Int)∧(List.length O:Int)≤(List.length O:Int) then
     if (List.length ((([]:List (List UInt8))++(oV O (0:Int) aA))++([Z]:List (List UInt8)))+List.length (oV O aA (List.length O:Int)))*16≤140737488355328 then
      some ((((([]:List (List UInt8))++(oV O (0:Int) aA))++([Z]:List (List UInt8)))++(oV O aA (List.length O:Int))))
     else none
    else none
   else none
  else none
 else none
section
variable (O:(List (List UInt8))) (Z:(List UInt8))
@[reducible] def X5:List Slot:=[(.val (.list .str) O,none),(.val .str Z,none)]
@[reducible] def X6:List Blk:=[]
@[go_sem] def X7:Ret:=⟨[((EJ O Z)).isSome=true],[(.val (.list .str) (val (EJ O Z)),some 0)],[.grow 9 1 (List.length (val (EJ O Z)))]⟩
def a8c:List Slot→List Blk→Option Ret:=pR (V:=((List (List UInt8))×(List UInt8))) (fun x=>X5 x.1 x.2) (fun x=>X6) fun x=>X7 x.1 x.2
@[go_sem] theorem aJQ:a8c (no_index (X5 O Z)) (no_index X6)=some (X7 O Z):=pT (fun⟨a0,a1⟩ ⟨b0,b1⟩ h1 h2=>by cases h1;cases h2;rfl) (O,Z)
end
@[reducible,go_sem] def a8d:Nat×Sig:=(106,⟨[.v,.v],a8c,[],[],none⟩)
theorem IF:Env Tryz.prog [q7,v8] (pK []):=⟨⟨q8,⟨vV,trivial⟩⟩,pS,pM⟩
theorem aFC:pN Tryz.prog a8d:=by
 refine pU IF Tryz.func106 (c:=_) rfl (N:=32) (by kernel_rfl) (ts:=[(4,none)]) rfl (fun _ _=>rfl) ?_
 intro⟨O,Z⟩ hs hrow
 dsimp only[X5,X6,X7,pP,enumH,pB,pL,pQ,Nat.reduceAdd] at hs hrow⊢
 have hz:=hs
 obtain⟨z0,hC0⟩:=Option.isSome_iff_exists.1 hz
 try rw[pY hC0]
 clear hz hs
 unfold EJ at hC0
 refine oU IF ?_
 refine oU IF ?_
 refine p5 (pV ?_)
 obtain⟨aA,hy1,hC0⟩:=oX hC0
 refine s9 0 (fun s=>s=(fun x=>⟨[(0,(.val (.list .str) O,none)),(1,(.val .str Z,none)),(5,(.val (.int .i64) x,none))],[],0,32,0⟩) aA) ?_ ?_
 ·refine s8 hy1 (fun x=>⟨[(0,(.val (.list .str) O,none)),(1,(.val .str Z,none)),(5,(.val (.int .i64) x,none))],[],0,32,0⟩) ⟨[0,1,5],[]⟩ (by rfl) ?_
  intro aB w1 n1 hC1 hN1
  unfold GC at hC1
  dsimp only at hC1⊢
  refine p5 ?_
  obtain⟨hg1,hC1⟩:=oY hC1
  refine oU IF ?_ (hp:=by exact And.intro (fun hh=>hh) (And.intro (fun hh=>hh) (And.intro hg1 (And.intro (fun hh=>hh) (And.intro (fun hh=>hh) (And.intro (fun hh=>hh) ((fun hh=>pZ hh))))))))
  refine oZ hC1 (fun hC1 hc1=> ?_) (fun hC1 hc1=> ?_)
  ·refine p7 (p4 (pV ?_))
   obtain⟨hg2,hC1⟩:=oY hC1
   refine pH IF ?_ (hp:=by exact hg2)
   refine pE ?_
   cases hC1
   exact qV ⟨⟨[0,1,5],[]⟩,_,by rfl,hN1⟩
  ·refine s7 (s3 (sB ?_))
   cases hC1
   cases hN1
   exact sA ⟨⟨[0,1,5],[]⟩,by rfl⟩
 ·rintro _ rfl
  dsimp only at hC0⊢
  refine s5 (p4 ?_)
  obtain⟨hg3,hC0⟩:=oY hC0
  obtain⟨hg4,hC0⟩:=oY hC0
  obtain⟨hg5,hC0⟩:=oY hC0
  obtain⟨hg6,hC0⟩:=oY hC0
  obtain⟨hg7,hC0⟩:=oY hC0
  refine rG IF ?_ (hp:=by exact And.intro hg3 (And.intro (by first|exact rfl|exact trivial) (And.intro hg4 (And.intro (by first|exact rfl|exact trivial) (And.intro hg5 (And.intro hg6 (And.intro (by first|exact rfl|exact trivial) (hg7))))))))
  refine oW ?_
  cases hC0
  exact⟨[(0,0)],by rfl,by rfl,by rfl⟩
attribute [irreducible] EJ
def LJ (O:(List p8)) (Z:(List UInt8)) (aA:(List UInt8)):Int→Option (Int⊕(Unit⊕(List p8))):=fun aB=>
 if (decide (aB<(((List.length (([]:List p8)++O)):Nat):Int)))=true then
  if 0≤aB∧aB<(((List.length (([]:List p8)++O)):Nat):Int) then
   if (decide ((pX (.pair .str (.pair .str .unit)) (([]:List p8)++O) aB).1=Z))=true then
    if 0≤aB∧aB<(((List.length (([]:List p8)++O)):Nat):Int) then
     some (.inr (.inr ((List.set (([]:List p8)++O) (Int.toNat aB) ((pX (.pair .str (.pair .str .unit)) (([]:List p8)++O) aB).1,(aA,(pX (.pair .str (.pair .str .unit)) (([]:List p8)++O) aB).2.2))))))
    else none
   else
    if i64 (aB+(1:Int)) then
     some (.inl (aB+(1:Int)))
    else none
  else none
 else
  some (.inr (.inl ()))
def GD (O:(List p8)) (Z:(List UInt8)):Int→Option (Int⊕Int):=fun aA=>
 if (((decide (aA<(List.length O:Int)))==true)=true→0≤aA∧aA<(List.length O:Int)) then
  if ((decide (aA<(List.length O:Int)))&&(Op.bytesLess (pX (.pair .str (.pair .str .unit)) O aA).1 Z||decide ((pX (.pair .str (.pair .str .unit)) O aA).1=Z)))=true then
   if i64 (aA+(1:Int)) then
    some (.inl (aA+(1:Int)))
   else none
  else
   some (.inr aA)
 else none
def CU (O:(List p8)) (Z:(List UInt8)) (aA:(List UInt8)):Option (List p8):=
 if (0+List.length O)*32≤140737488355328 then
  qP (pF (LJ O Z aA) (0:Int)) fun _=>
  pW (pF (GD O Z) (0:Int)) fun aB=>
  if 0≤(0:Int)∧(0:Int)≤aB∧aB≤(List.length O:Int) then
   if (0+List.length (oV O (0:Int) aB))*32≤140737488355328 then
    if ((List.length (([]:List p8)++(oV O (0:Int) aB)))+List.length ([(Z,(aA,()))]:List p8))*32≤140737488355328 then
     if 0≤aB∧aB≤(List.length O:Int)∧(List.length O:Int)≤(List.length O:Int) then
      if ((List.length ((([]:List p8)++(oV O (0:Int) aB))++([(Z,(aA,()))]:List p8)))+List.length (oV O aB (List.length O:Int)))*32≤140737488355328 then
       some ((((([]:List p8)++(oV O (0:Int) aB))++([(Z,(aA,()))]:List p8))++(oV O aB (List.length O:Int))))
      else none
     else none
    else none
   else none
  else none
 else none
section
variable (O:(List p8)) (Z:(List UInt8)) (aA:(List UInt8))
@[reducible] def X8:List Slot:=[(.val (.list (.pair .str (.pair .str .unit))) O,none),(.val .str Z,none),(.val .str aA,none)]
@[reducible] def X9:List Blk:=[]
@[go_sem] def XA:Ret:=⟨[((CU O Z aA)).isSome=true],[(.val (.list (.pair .str (.pair .str .unit))) (val (CU O Z aA)),some 0)],[.grow 144 2 (List.length (val (CU O Z aA)))]⟩
def a8e:List Slot→List Blk→Option Ret:=pR (V:=((List p8)×(List UInt8)×(List UInt8))) (fun x=>X8 x.1 x.2.1 x.2.2) (fun x=>X9) fun x=>XA x.1 x.2.1 x.2.2
@[go_sem] theorem aJR:a8e (no_index (X8 O Z aA)) (no_index X9)=some (XA O Z aA):=pT (fun⟨a0,a1,a2⟩ ⟨b0,b1,b2⟩ h1 h2=>by cases h1;cases h2;rfl) (O,Z,aA)
end
@[reducible,go_sem] def a8f:Nat×Sig:=(108,⟨[.v,.v,.v],a8e,[],[],none⟩)
theorem yU:Env Tryz.prog [q7,LA,CM] (pK []):=⟨⟨q8,⟨VL,⟨G4,trivial⟩⟩⟩,pS,pM⟩
theorem aFD:pN Tryz.prog a8f:=by
 refine pU yU Tryz.func108 (c:=_) rfl (N:=61) (by kernel_rfl) (ts:=[(6,none)]) rfl (fun _ _=>rfl) ?_
 intro⟨O,Z,aA⟩ hs hrow
 dsimp only[X8,X9,XA,pP,enumH,pB,pL,pQ,Nat.reduceAdd] at hs hrow⊢
 have hz:=hs
 obtain⟨z0,hC0⟩:=Option.isSome_iff_exists.1 hz
 try rw[pY hC0]
 clear hz hs
 unfold CU at hC0
 refine oU yU ?_
 obtain⟨hg1,hC0⟩:=oY hC0
 refine oU yU ?_ (hp:=by exact And.intro (by first|exact rfl|exact trivial) (hg1))
 refine p5 ?_
 refine oU yU ?_
 refine pV ?_
 obtain⟨y1,hy1,hC0⟩:=t8 hC0
 refine s9 0 (fun s=> ∃v,y1= .inl v∧s=(fun _=>⟨[(0,(.val (.list (.pair .str (.pair .str .unit))) O,none)),(1,(.val .str Z,none)),(2,(.val .str aA,none))],[],0,61,0⟩) v) ?_ ?_
 ·refine s8 hy1 (fun x=>⟨[(0,(.val (.list (.pair .str (.pair .str .unit))) O,none)),(1,(.val .str Z,none)),(2,(.val .str aA,none)),(7,(.own 0 (List.length (([]:List p8)++O)),none)),(8,(.val (.int .i64) x,none))],[(0,.row 144 (.pair .str (.pair .str .unit)) (([]:List p8)++O) (List.length (([]:List p8)++O)))],1,61,0⟩) ⟨[0,1,2,7,8],[(0,32)]⟩ (by rfl) ?_
  intro aB w1 n1 hC1 hN1
  unfold LJ at hC1
  dsimp only at hC1⊢
  refine p5 ?_
  refine oU yU ?_
  refine oZ hC1 (fun hC1 hc1=> ?_) (fun hC1 hc1=> ?_)
  ·refine p7 (p4 (p5 (pV ?_)))
   obtain⟨hg2,hC1⟩:=oY hC1
   refine oU yU ?_ (hp:=by exact And.intro hg2 ((by first|exact rfl|exact trivial)))
   refine oZ hC1 (fun hC1 hc2=> ?_) (fun hC1 hc2=> ?_)
   ·obtain⟨hg3,hC1⟩:=oY hC1
    refine oU yU ?_ (hp:=by exact And.intro hg3 ((by first|exact rfl|exact trivial)))
    refine oU yU ?_
    refine KW 0 rfl (by repeat' (first|exact trivial|apply And.intro|exact(fun _=>rfl) |exact(fun h=>absurd h (by decide)))) ?_
    refine oW (pC (p6 (tJ (tI (pC (p6 ?_))))))
    cases hC1
    cases hN1
    dsimp only at hC0
    cases hC0
    exact⟨[(0,0)],by rfl,by rfl,by rfl⟩
   ·refine p7 (pE (p4 ?_))
    obtain⟨hg4,hC1⟩:=oY hC1
    refine pH yU ?_ (hp:=by exact hg4)
    cases hC1
    exact qV ⟨⟨[0,1,2,7,8],[(0,0)]⟩,_,by rfl,hN1⟩
  ·refine s7 (s3 (sB ?_))
   cases hC1
   cases hN1
   exact sA ⟨⟨[0,1,2],[]⟩,_,rfl,by rfl⟩
 ·rintro _ ⟨v,rfl,rfl⟩
  dsimp only at hC0⊢
  refine s5 (p4 ?_)
  refine oU yU ?_
  refine p5 (pV ?_)
  obtain⟨aC,hy1,hC0⟩:=oX hC0
  refine s9 2 (fun s=>s=(fun x=>⟨[(0,(.val (.list (.pair .str (.pair .str .unit))) O,none)),(1,(.val .str Z,none)),(2,(.val .str aA,none)),(9,(.val (.int .i64) x,none))],[],0,61,0⟩) aC) ?_ ?_
  ·refine s8 hy1 (fun x=>⟨[(0,(.val (.list (.pair .str (.pair .str .unit))) O,none)),(1,(.val .str Z,none)),(2,(.val .str aA,none)),(9,(.val (.int .i64) x,none))],[],0,61,0⟩) ⟨[0,1,2,9],[]⟩ (by rfl) ?_
   intro aD w1 n1 hC1 hN1
   unfold GD at hC1
   dsimp only at hC1⊢
   refine p5 ?_
   obtain⟨hg5,hC1⟩:=oY hC1
   refine oU yU ?_ (hp:=by exact And.intro (fun hh=>hh) (And.intro (fun hh=>hh) (And.intro hg5 (And.intro (fun hh=>hh) (And.intro (fun hh=>hh) (And.intro (fun hh=>hh) (And.intro (fun hh=>hh) ((fun hh=>pZ hh)))))))))
   refine oZ hC1 (fun hC1 hc3=> ?_) (fun hC1 hc3=> ?_)
   ·refine p7 (p4 (pV ?_))
    obtain⟨hg6,hC1⟩:=oY hC1
    refine pH yU ?_ (hp:=by exact hg6)
    refine pE ?_
    cases hC1
    exact qV ⟨⟨[0,1,2,9],[]⟩,_,by rfl,hN1⟩
   ·refine s7 (s3 (sB ?_))
    cases hC1
    cases hN1
    exact sA ⟨⟨[0,1,2,9],[]⟩,by rfl⟩
  ·rintro _ rfl
   dsimp only at hC0⊢
   refine s5 (p4 ?_)
   obtain⟨hg7,hC0⟩:=oY hC0
   obtain⟨hg8,hC0⟩:=oY hC0
   obtain⟨hg9,hC0⟩:=oY hC0
   obtain⟨hg10,hC0⟩:=oY hC0
   obtain⟨hg11,hC0⟩:=oY hC0
   refine rG yU ?_ (hp:=by exact And.intro hg7 (And.intro (by first|exact rfl|exact trivial) (And.intro hg8 (And.intro (by first|exact rfl|exact trivial) (And.intro hg9 (And.intro hg10 (And.intro (by first|exact rfl|exact trivial) (hg11))))))))
   refine UY ⟨[0,1,2,9,48,49,50,52,53,54,55,57,58,59,60,6],[(0,0),(256,256)]⟩ ?_
   simp only[go_sem,Nat.max_def]
   refine KW 0 rfl (by repeat' (first|exact trivial|apply And.intro|exact(fun _=>rfl) |exact(fun h=>absurd h (by decide)))) ?_
   refine oW ?_
   cases hC0
   exact⟨[(0,0)],by rfl,by rfl,by rfl⟩
attribute [irreducible] CU
def a8g (O:Int):Unit:=
 ()
section
variable (O:Int)
@[reducible] def XB:List Slot:=[(.val (.int .u8) O,none)]
@[reducible] def XC:List Blk:=[]
@[go_sem] def XD:Ret:=⟨[],[(.val .bool ((decide ((97:Int)≤O))&&(decide (O≤(122:Int)))),none)],[]⟩
def a8h:List Slot→List Blk→Option Ret:=pR (V:=Int) (fun x=>XB x) (fun x=>XC) fun x=>XD x
@[go_sem] theorem aJS:a8h (no_index (XB O)) (no_index XC)=some (XD O):=pT (fun a0 b0 h1 h2=>by cases h1;cases h2;rfl) O
end
@[reducible,go_sem] def XE:Nat×Sig:=(118,⟨[.v],a8h,[],[],none⟩)
theorem XF:Env Tryz.prog [] (pK []):=⟨trivial,pS,pM⟩
theorem a8i:pN Tryz.prog XE:=by
 refine pU XF Tryz.func118 (c:=_) rfl (N:=9) (by kernel_rfl) (ts:=[(2,none)]) rfl (fun _ _=>rfl) ?_
 intro O hs hrow
 dsimp only[XB,XC,XD,pP,enumH,pB,pL,pQ,Nat.reduceAdd] at hs hrow⊢
 obtain⟨z0,hC0⟩: ∃z,(a8g O)=z:=⟨_,rfl⟩
 try rw[hC0]
 unfold a8g at hC0
 refine oU XF ?_
 refine oU XF ?_ (hp:=by exact And.intro (fun hh=>hh) ((fun hh=>pZ hh)))
 refine oW ?_
 cases hC0
 exact⟨[],by rfl,by rfl,by rfl⟩
def a8j (O:Int):Unit:=
 ()
section
variable (O:Int)
@[reducible] def XG:List Slot:=[(.val (.int .u8) O,none)]
@[reducible] def XH:List Blk:=[]
@[go_sem] def XI:Ret:=⟨[],[(.val .bool ((decide ((48:Int)≤O))&&(decide (O≤(57:Int)))),none)],[]⟩
def a8k:List Slot→List Blk→Option Ret:=pR (V:=Int) (fun x=>XG x) (fun x=>XH) fun x=>XI x
@[go_sem] theorem aJT:a8k (no_index (XG O)) (no_index XH)=some (XI O):=pT (fun a0 b0 h1 h2=>by cases h1;cases h2;rfl) O
end
@[reducible,go_sem] def XJ:Nat×Sig:=(119,⟨[.v],a8k,[],[],none⟩)
theorem XK:Env Tryz.prog [] (pK []):=⟨trivial,pS,pM⟩
theorem a8l:pN Tryz.prog XJ:=by
 refine pU XK Tryz.func119 (c:=_) rfl (N:=9) (by kernel_rfl) (ts:=[(2,none)]) rfl (fun _ _=>rfl) ?_
 intro O hs hrow
 dsimp only[XG,XH,XI,pP,enumH,pB,pL,pQ,Nat.reduceAdd] at hs hrow⊢
 obtain⟨z0,hC0⟩: ∃z,(a8j O)=z:=⟨_,rfl⟩
 try rw[hC0]
 unfold a8j at hC0
 refine oU XK ?_
 refine oU XK ?_ (hp:=by exact And.intro (fun hh=>hh) ((fun hh=>pZ hh)))
 refine oW ?_
 cases hC0
 exact⟨[],by rfl,by rfl,by rfl⟩
end
end Go.Proofs.YtfchbnahjcdiiaaGreatDoor
namespace Go.Proofs.YtfchbnahjcdiiaaGreatDoor
open Vc
set_option maxRecDepth 100000
set_option maxHeartbeats 4000000
set_option linter.unusedSimpArgs false
set_option linter.unusedVariables false
noncomputable section
def CV (O:(List UInt8)) (Z:(List UInt8)):Option Unit:=
 if (((decide ((List.length Z:Int)≤(List.length O:Int)))==true)=true→0≤(0:Int)∧(0:Int)≤(List.length Z:Int)∧(List.length Z:Int)≤(List.length O:Int)) then
  some (())
 else none
section
variable (O:(List UInt8)) (Z:(List UInt8))
@[reducible] def XL:List Slot:=[(.val .str O,none),(.val .str Z,none)]
@[reducible] def XM:List Blk:=[]
@[go_sem] def XN:Ret:=⟨[((CV O Z)).isSome=true],[(.val .bool ((decide ((List.length Z:Int)≤(List.length O:Int)))&&(decide ((oV O (0:Int) (List.length Z:Int))=Z))),none)],[]⟩
def a8m:List Slot→List Blk→Option Ret:=pR (V:=((List UInt8)×(List UInt8))) (fun x=>XL x.1 x.2) (fun x=>XM) fun x=>XN x.1 x.2
@[go_sem] theorem aJU:a8m (no_index (XL O Z)) (no_index XM)=some (XN O Z):=pT (fun⟨a0,a1⟩ ⟨b0,b1⟩ h1 h2=>by cases h1;cases h2;rfl) (O,Z)
end
@[reducible,go_sem] def PV:Nat×Sig:=(122,⟨[.v,.v],a8m,[],[],none⟩)
theorem XO:Env Tryz.prog [q7] (pK []):=⟨⟨q8,trivial⟩,pS,pM⟩
theorem XP:pN Tryz.prog PV:=by
 refine pU XO Tryz.func122 (c:=_) rfl (N:=18) (by kernel_rfl) (ts:=[(4,none)]) rfl (fun _ _=>rfl) ?_
 intro⟨O,Z⟩ hs hrow
 dsimp only[XL,XM,XN,pP,enumH,pB,pL,pQ,Nat.reduceAdd] at hs hrow⊢
 have hz:=hs
 obtain⟨z0,hC0⟩:=Option.isSome_iff_exists.1 hz
 try rw[pY hC0]
 clear hz hs
 unfold CV at hC0
 refine oU XO ?_
 obtain⟨hg1,hC0⟩:=oY hC0
 refine oU XO ?_ (hp:=by exact And.intro (fun hh=>hh) (And.intro (fun hh=>hh) (And.intro (fun hh=>hh) (And.intro hg1 (And.intro (fun hh=>hh) (And.intro (fun hh=>hh) ((fun hh=>pZ hh))))))))
 refine oW ?_
 cases hC0
 exact⟨[],by rfl,by rfl,by rfl⟩
attribute [irreducible] CV
def GE (O:(List UInt8)) (Z:(List UInt8)):Option ((List UInt8)×Bool):=
 (CV O Z).bind fun aA=>
 if (!((decide ((List.length Z:Int)≤(List.length O:Int)))&&(decide ((oV O (0:Int) (List.length Z:Int))=Z))))=true then
  some ((O,false))
 else
  if 0≤(List.length Z:Int)∧(List.length Z:Int)≤(List.length O:Int)∧(List.length O:Int)≤(List.length O:Int) then
   some (((oV O (List.length Z:Int) (List.length O:Int)),true))
  else none
section
variable (O:(List UInt8)) (Z:(List UInt8))
@[reducible] def XQ:List Slot:=[(.val .str O,none),(.val .str Z,none)]
@[reducible] def XR:List Blk:=[]
@[go_sem] def XS:Ret:=⟨[((GE O Z)).isSome=true],[(.val .str ((val (GE O Z)).1),none),(.val .bool ((val (GE O Z)).2),none)],[]⟩
def a8n:List Slot→List Blk→Option Ret:=pR (V:=((List UInt8)×(List UInt8))) (fun x=>XQ x.1 x.2) (fun x=>XR) fun x=>XS x.1 x.2
@[go_sem] theorem aJV:a8n (no_index (XQ O Z)) (no_index XR)=some (XS O Z):=pT (fun⟨a0,a1⟩ ⟨b0,b1⟩ h1 h2=>by cases h1;cases h2;rfl) (O,Z)
end
@[reducible,go_sem] def a8o:Nat×Sig:=(123,⟨[.v,.v],a8n,[],[],none⟩)
theorem LK:Env Tryz.prog [q7] (pK [PV]):=⟨⟨q8,trivial⟩,pA XP pS,pM⟩
theorem aFE:pN Tryz.prog a8o:=by
 refine pU LK Tryz.func123 (c:=_) rfl (N:=15) (by kernel_rfl) (ts:=[(4,none),(5,none)]) rfl (fun _ _=>rfl) ?_
 intro⟨O,Z⟩ hs hrow
 dsimp only[XQ,XR,XS,pP,enumH,pB,pL,pQ,Nat.reduceAdd] at hs hrow⊢
 have hz:=hs
 obtain⟨z0,hC0⟩:=Option.isSome_iff_exists.1 hz
 try rw[pY hC0]
 clear hz hs
 unfold GE at hC0
 refine oU LK ?_
 refine p5 ?_
 obtain⟨aA,hv1,hw1,hC0⟩:=pJ hC0
 try simp only[go_sem] at hw1
 refine oU LK ?_ (hp:=by exact(pI hv1)) (h:=by simp only[go_sem,hw1];rfl)
 refine oZ hC0 (fun hC0 hc1=> ?_) (fun hC0 hc1=> ?_)
 ·refine oU LK ?_
  refine oW (p6 ?_)
  cases hC0
  exact⟨[],by rfl,by rfl,by rfl⟩
 ·refine p7 (p4 ?_)
  obtain⟨hg2,hC0⟩:=oY hC0
  refine oU LK ?_ (hp:=by exact hg2)
  refine oW ?_
  cases hC0
  exact⟨[],by rfl,by rfl,by rfl⟩
attribute [irreducible] GE
def a8p (O:Int):Unit:=
 ()
section
variable (O:Int)
@[reducible] def XT:List Slot:=[(.val (.int .i64) O,none)]
@[reducible] def XU:List Blk:=[]
@[go_sem] def XV:Ret:=⟨[],[(.val .bool ((decide ((1:Int)≤O))&&(decide (O≤(4:Int)))),none)],[]⟩
def a8q:List Slot→List Blk→Option Ret:=pR (V:=Int) (fun x=>XT x) (fun x=>XU) fun x=>XV x
@[go_sem] theorem aJW:a8q (no_index (XT O)) (no_index XU)=some (XV O):=pT (fun a0 b0 h1 h2=>by cases h1;cases h2;rfl) O
end
@[reducible,go_sem] def XW:Nat×Sig:=(124,⟨[.v],a8q,[],[],none⟩)
theorem XX:Env Tryz.prog [] (pK []):=⟨trivial,pS,pM⟩
theorem a8r:pN Tryz.prog XW:=by
 refine pU XX Tryz.func124 (c:=_) rfl (N:=9) (by kernel_rfl) (ts:=[(2,none)]) rfl (fun _ _=>rfl) ?_
 intro O hs hrow
 dsimp only[XT,XU,XV,pP,enumH,pB,pL,pQ,Nat.reduceAdd] at hs hrow⊢
 obtain⟨z0,hC0⟩: ∃z,(a8p O)=z:=⟨_,rfl⟩
 try rw[hC0]
 unfold a8p at hC0
 refine oU XX ?_
 refine oU XX ?_ (hp:=by exact And.intro (fun hh=>hh) ((fun hh=>pZ hh)))
 refine oW ?_
 cases hC0
 exact⟨[],by rfl,by rfl,by rfl⟩
def IG (O:(List UInt8)) (Z:(List UInt8)):Option (List UInt8):=
 (CV O Z).bind fun aA=>
 if ((decide ((List.length Z:Int)≤(List.length O:Int)))&&(decide ((oV O (0:Int) (List.length Z:Int))=Z)))=true then
  if 0≤(List.length Z:Int)∧(List.length Z:Int)≤(List.length O:Int)∧(List.length O:Int)≤(List.length O:Int) then
   some ((oV O (List.length Z:Int) (List.length O:Int)))
  else none
 else
  some (O)
section
variable (O:(List UInt8)) (Z:(List UInt8))
@[reducible] def XY:List Slot:=[(.val .str O,none),(.val .str Z,none)]
@[reducible] def XZ:List Blk:=[]
@[go_sem] def Y0:Ret:=⟨[((IG O Z)).isSome=true],[(.val .str (val (IG O Z)),none)],[]⟩
def a8s:List Slot→List Blk→Option Ret:=pR (V:=((List UInt8)×(List UInt8))) (fun x=>XY x.1 x.2) (fun x=>XZ) fun x=>Y0 x.1 x.2
@[go_sem] theorem aJX:a8s (no_index (XY O Z)) (no_index XZ)=some (Y0 O Z):=pT (fun⟨a0,a1⟩ ⟨b0,b1⟩ h1 h2=>by cases h1;cases h2;rfl) (O,Z)
end
@[reducible,go_sem] def a8t:Nat×Sig:=(125,⟨[.v,.v],a8s,[],[],none⟩)
theorem LL:Env Tryz.prog [q7] (pK [PV]):=⟨⟨q8,trivial⟩,pA XP pS,pM⟩
theorem aFF:pN Tryz.prog a8t:=by
 refine pU LL Tryz.func125 (c:=_) rfl (N:=13) (by kernel_rfl) (ts:=[(4,none)]) rfl (fun _ _=>rfl) ?_
 intro⟨O,Z⟩ hs hrow
 dsimp only[XY,XZ,Y0,pP,enumH,pB,pL,pQ,Nat.reduceAdd] at hs hrow⊢
 have hz:=hs
 obtain⟨z0,hC0⟩:=Option.isSome_iff_exists.1 hz
 try rw[pY hC0]
 clear hz hs
 unfold IG at hC0
 refine oU LL ?_
 refine p5 ?_
 obtain⟨aA,hv1,hw1,hC0⟩:=pJ hC0
 try simp only[go_sem] at hw1
 refine oU LL ?_ (hp:=by exact(pI hv1)) (h:=by simp only[go_sem,hw1];rfl)
 refine oZ hC0 (fun hC0 hc1=> ?_) (fun hC0 hc1=> ?_)
 ·obtain⟨hg2,hC0⟩:=oY hC0
  refine oU LL ?_ (hp:=by exact hg2)
  refine oW (p6 ?_)
  cases hC0
  exact⟨[],by rfl,by rfl,by rfl⟩
 ·refine p7 (p4 ?_)
  refine oU LL ?_
  refine oW ?_
  cases hC0
  exact⟨[],by rfl,by rfl,by rfl⟩
attribute [irreducible] IG
def IH (O:(List UInt8)):Nat→Option (Nat⊕(Unit⊕Bool)):=fun Z=>
 if (decide (Z<List.length O))=true then
  if (decide (Z<List.length O))=true then
   if (decide (Z<List.length O))=true then
    if ((decide ((97:Int)≤(sE O Z)))&&(decide ((sE O Z)≤(122:Int))))=true then
     some (.inl (wN O Z))
    else
     if ((decide ((0:Int)<((Z:Nat):Int)))&&(((((decide ((48:Int)≤(sE O Z)))&&(decide ((sE O Z)≤(57:Int))))||(decide ((sE O Z)=(45:Int))))||(decide ((sE O Z)=(95:Int))))||(decide ((sE O Z)=(46:Int)))))=true then
      some (.inl (wN O Z))
     else
      some (.inr (.inr (false)))
   else none
  else none
 else
  some (.inr (.inl ()))
def y4 (O:(List UInt8)):Option Bool:=
 qP (pF (IH O) 0) fun _=>
 some (((decide ((1:Int)≤(List.length O:Int)))&&(decide ((List.length O:Int)≤(40:Int)))))
section
variable (O:(List UInt8))
@[reducible] def Y1:List Slot:=[(.val .str O,none)]
@[reducible] def Y2:List Blk:=[]
@[go_sem] def Y3:Ret:=⟨[((y4 O)).isSome=true],[(.val .bool (val (y4 O)),none)],[]⟩
def a8u:List Slot→List Blk→Option Ret:=pR (V:=(List UInt8)) (fun x=>Y1 x) (fun x=>Y2) fun x=>Y3 x
@[go_sem] theorem aJY:a8u (no_index (Y1 O)) (no_index Y2)=some (Y3 O):=pT (fun a0 b0 h1 h2=>by cases h1;cases h2;rfl) O
end
@[reducible,go_sem] def a8v:Nat×Sig:=(128,⟨[.v],a8u,[],[],none⟩)
theorem BF:Env Tryz.prog [q7] (pK []):=⟨⟨q8,trivial⟩,pS,pM⟩
theorem aFG:pN Tryz.prog a8v:=by
 refine pU BF Tryz.func128 (c:=_) rfl (N:=51) (by kernel_rfl) (ts:=[(2,none)]) rfl (fun _ _=>rfl) ?_
 intro O hs hrow
 dsimp only[Y1,Y2,Y3,pP,enumH,pB,pL,pQ,Nat.reduceAdd] at hs hrow⊢
 have hz:=hs
 obtain⟨z0,hC0⟩:=Option.isSome_iff_exists.1 hz
 try rw[pY hC0]
 clear hz hs
 unfold y4 at hC0
 refine oU BF ?_
 refine p5 ?_
 refine oU BF ?_
 refine pV ?_
 obtain⟨y1,hy1,hC0⟩:=t8 hC0
 refine s9 0 (fun s=> ∃v,y1= .inl v∧s=(fun _=>⟨[(0,(.val .str O,none))],[],0,51,0⟩) v) ?_ ?_
 ·refine s8 hy1 (fun x=>⟨[(0,(.val .str O,none)),(7,(.val .ref (some (0,0)),none))],[(0,.iter O x)],1,51,0⟩) ⟨[0,7],[(0,64)]⟩ (by rfl) ?_
  intro Z w1 n1 hC1 hN1
  unfold IH at hC1
  dsimp only at hC1⊢
  refine oU BF ?_
  refine p5 ?_
  refine oZ hC1 (fun hC1 hc1=> ?_) (fun hC1 hc1=> ?_)
  ·refine p7 (p4 (pV ?_))
   obtain⟨hg1,hC1⟩:=oY hC1
   obtain⟨hg2,hC1⟩:=oY hC1
   refine oU BF ?_ (hp:=by exact And.intro hg1 (hg2))
   refine oU BF ?_ (hp:=by exact And.intro (fun hh=>hh) ((fun hh=>pZ hh)))
   refine pV ?_
   refine oU BF ?_
   refine oZ hC1 (fun hC1 hc2=> ?_) (fun hC1 hc2=> ?_)
   ·refine p7 (pE (pE ?_))
    cases hC1
    exact qV ⟨⟨[0,7],[(0,0)]⟩,_,by rfl,hN1⟩
   ·refine oU BF ?_ (hp:=by exact And.intro (fun hh=>hh) (And.intro (fun hh=>hh) (And.intro (fun hh=>hh) (And.intro (fun hh=>hh) (And.intro (fun hG hh=>a65 hG hh) (And.intro (fun hh=>hh) (And.intro (fun hh=>hh) (And.intro (fun hh=>hh) (And.intro (fun hG hh=>BB hG hh) (And.intro (fun hh=>hh) (And.intro (fun hh=>hh) (And.intro (fun hh=>hh) (And.intro (fun hG hh=>BB hG hh) (And.intro (fun hh=>hh) (And.intro (fun hh=>hh) (And.intro (fun hh=>hh) (And.intro (fun hG hh=>BB hG hh) ((fun hh=>pZ hh)))))))))))))))))))
    refine oZ hC1 (fun hC1 hc3=> ?_) (fun hC1 hc3=> ?_)
    ·refine p7 (pE (pE ?_))
     cases hC1
     exact qV ⟨⟨[0,7],[(0,0)]⟩,_,by rfl,hN1⟩
    ·refine oU BF ?_
     refine oW (pC (pC (tJ (tI (pC (p6 ?_))))))
     cases hC1
     cases hN1
     dsimp only at hC0
     cases hC0
     exact⟨[],by rfl,by rfl,by rfl⟩
  ·refine s7 (s3 (sB ?_))
   cases hC1
   cases hN1
   exact sA ⟨⟨[0],[]⟩,_,rfl,by rfl⟩
 ·rintro _ ⟨v,rfl,rfl⟩
  dsimp only at hC0⊢
  refine s5 (p4 ?_)
  refine oU BF ?_ (hp:=by exact And.intro (fun hh=>hh) (And.intro (fun hh=>hh) ((fun hh=>pZ hh))))
  refine oW ?_
  cases hC0
  exact⟨[],by rfl,by rfl,by rfl⟩
attribute [irreducible] y4
def LM (O:Int):Option Unit:=
 if 0≤O∧O<(List.length ([([110,101,119]:List UInt8),([102,117,122,122,121]:List UInt8),([116,114,97,110,115,108,97,116,101,100]:List UInt8),([114,101,118,105,101,119,101,100]:List UInt8),([111,98,115,111,108,101,116,101]:List UInt8)]:List (List UInt8)):Int) then
  some (())
 else none
section
variable (O:Int)
@[reducible] def Y4:List Slot:=[(.val (.int .i64) O,none)]
@[reducible] def Y5:List Blk:=[]
@[go_sem] def Y6:Ret:=⟨[((LM O)).isSome=true],[(.val .str (pX .str ([([110,101,119]:List UInt8),([102,117,122,122,121]:List UInt8),([116,114,97,110,115,108,97,116,101,100]:List UInt8),([114,101,118,105,101,119,101,100]:List UInt8),([111,98,115,111,108,101,116,101]:List UInt8)]:List (List UInt8)) O),none)],[]⟩
def a8w:List Slot→List Blk→Option Ret:=pR (V:=Int) (fun x=>Y4 x) (fun x=>Y5) fun x=>Y6 x
@[go_sem] theorem aJZ:a8w (no_index (Y4 O)) (no_index Y5)=some (Y6 O):=pT (fun a0 b0 h1 h2=>by cases h1;cases h2;rfl) O
end
@[reducible,go_sem] def a8x:Nat×Sig:=(140,⟨[.v],a8w,[],[],none⟩)
theorem PW:Env Tryz.prog [q7,v8] (pK []):=⟨⟨q8,⟨vV,trivial⟩⟩,pS,pM⟩
theorem aFH:pN Tryz.prog a8x:=by
 refine pU PW Tryz.func140 (c:=_) rfl (N:=9) (by kernel_rfl) (ts:=[(2,none)]) rfl (fun _ _=>rfl) ?_
 intro O hs hrow
 dsimp only[Y4,Y5,Y6,pP,enumH,pB,pL,pQ,Nat.reduceAdd] at hs hrow⊢
 have hz:=hs
 obtain⟨z0,hC0⟩:=Option.isSome_iff_exists.1 hz
 try rw[pY hC0]
 clear hz hs
 unfold LM at hC0
 refine oU PW ?_
 refine oU PW ?_
 obtain⟨hg1,hC0⟩:=oY hC0
 refine oU PW ?_ (hp:=by exact hg1)
 refine oW ?_
 cases hC0
 exact⟨[],by rfl,by rfl,by rfl⟩
attribute [irreducible] LM
end
end Go.Proofs.YtfchbnahjcdiiaaGreatDoor
namespace Go.Proofs.YtfchbnahjcdiiaaGreatDoor
open Vc
set_option maxRecDepth 100000
set_option maxHeartbeats 4000000
set_option linter.unusedSimpArgs false
set_option linter.unusedVariables false
noncomputable section
def LN (O:(List UInt8)) (Z:(List UInt8)):Option Unit:=
 if (((decide ((List.length Z:Int)≤(List.length O:Int)))==true)=true→i64 ((List.length O:Int)- (List.length Z:Int))) then
  if (((decide ((List.length Z:Int)≤(List.length O:Int)))==true)=true→0≤((List.length O:Int)- (List.length Z:Int))∧((List.length O:Int)- (List.length Z:Int))≤(List.length O:Int)∧(List.length O:Int)≤(List.length O:Int)) then
   some (())
  else none
 else none
section
variable (O:(List UInt8)) (Z:(List UInt8))
@[reducible] def Y7:List Slot:=[(.val .str O,none),(.val .str Z,none)]
@[reducible] def Y8:List Blk:=[]
@[go_sem] def Y9:Ret:=⟨[((LN O Z)).isSome=true],[(.val .bool ((decide ((List.length Z:Int)≤(List.length O:Int)))&&(decide ((oV O ((List.length O:Int)- (List.length Z:Int)) (List.length O:Int))=Z))),none)],[]⟩
def a8y:List Slot→List Blk→Option Ret:=pR (V:=((List UInt8)×(List UInt8))) (fun x=>Y7 x.1 x.2) (fun x=>Y8) fun x=>Y9 x.1 x.2
@[go_sem] theorem aJ0:a8y (no_index (Y7 O Z)) (no_index Y8)=some (Y9 O Z):=pT (fun⟨a0,a1⟩ ⟨b0,b1⟩ h1 h2=>by cases h1;cases h2;rfl) (O,Z)
end
@[reducible,go_sem] def a8z:Nat×Sig:=(132,⟨[.v,.v],a8y,[],[],none⟩)
theorem YA:Env Tryz.prog [q7] (pK []):=⟨⟨q8,trivial⟩,pS,pM⟩
theorem aFI:pN Tryz.prog a8z:=by
 refine pU YA Tryz.func132 (c:=_) rfl (N:=21) (by kernel_rfl) (ts:=[(4,none)]) rfl (fun _ _=>rfl) ?_
 intro⟨O,Z⟩ hs hrow
 dsimp only[Y7,Y8,Y9,pP,enumH,pB,pL,pQ,Nat.reduceAdd] at hs hrow⊢
 have hz:=hs
 obtain⟨z0,hC0⟩:=Option.isSome_iff_exists.1 hz
 try rw[pY hC0]
 clear hz hs
 unfold LN at hC0
 refine oU YA ?_
 obtain⟨hg1,hC0⟩:=oY hC0
 obtain⟨hg2,hC0⟩:=oY hC0
 refine oU YA ?_ (hp:=by exact And.intro (fun hh=>hh) (And.intro (fun hh=>hh) (And.intro (fun hh=>hh) (And.intro (fun hh=>hh) (And.intro hg1 (And.intro (fun hh=>hh) (And.intro (fun hh=>hh) (And.intro hg2 (And.intro (fun hh=>hh) (And.intro (fun hh=>hh) ((fun hh=>pZ hh))))))))))))
 refine oW ?_
 cases hC0
 exact⟨[],by rfl,by rfl,by rfl⟩
attribute [irreducible] LN
def LO (O:(List (List UInt8))) (Z:(List UInt8)):Int→Option (Int⊕(Unit⊕Int)):=fun aA=>
 if (decide (aA<(List.length O:Int)))=true then
  if 0≤aA∧aA<(List.length O:Int) then
   if (decide (Z=(pX .str O aA)))=true then
    some (.inr (.inr (aA)))
   else
    if i64 (aA+(1:Int)) then
     some (.inl (aA+(1:Int)))
    else none
  else none
 else
  some (.inr (.inl ()))
def xG (O:(List (List UInt8))) (Z:(List UInt8)):Option Int:=
 qP (pF (LO O Z) (0:Int)) fun _=>
 some ((-1:Int))
section
variable (O:(List (List UInt8))) (Z:(List UInt8))
@[reducible] def YB:List Slot:=[(.val (.list .str) O,none),(.val .str Z,none)]
@[reducible] def YC:List Blk:=[]
@[go_sem] def YD:Ret:=⟨[((xG O Z)).isSome=true],[(.val (.int .i64) (val (xG O Z)),none)],[]⟩
def a8A:List Slot→List Blk→Option Ret:=pR (V:=((List (List UInt8))×(List UInt8))) (fun x=>YB x.1 x.2) (fun x=>YC) fun x=>YD x.1 x.2
@[go_sem] theorem aJ1:a8A (no_index (YB O Z)) (no_index YC)=some (YD O Z):=pT (fun⟨a0,a1⟩ ⟨b0,b1⟩ h1 h2=>by cases h1;cases h2;rfl) (O,Z)
end
@[reducible,go_sem] def PX:Nat×Sig:=(135,⟨[.v,.v],a8A,[],[],none⟩)
theorem CW:Env Tryz.prog [q7,v8] (pK []):=⟨⟨q8,⟨vV,trivial⟩⟩,pS,pM⟩
theorem a8B:pN Tryz.prog PX:=by
 refine pU CW Tryz.func135 (c:=_) rfl (N:=19) (by kernel_rfl) (ts:=[(4,none)]) rfl (fun _ _=>rfl) ?_
 intro⟨O,Z⟩ hs hrow
 dsimp only[YB,YC,YD,pP,enumH,pB,pL,pQ,Nat.reduceAdd] at hs hrow⊢
 have hz:=hs
 obtain⟨z0,hC0⟩:=Option.isSome_iff_exists.1 hz
 try rw[pY hC0]
 clear hz hs
 unfold xG at hC0
 refine oU CW ?_
 refine p5 ?_
 refine oU CW ?_
 refine pV ?_
 obtain⟨y1,hy1,hC0⟩:=t8 hC0
 refine s9 0 (fun s=> ∃v,y1= .inl v∧s=(fun _=>⟨[],[],0,19,0⟩) v) ?_ ?_
 ·refine s8 hy1 (fun x=>⟨[(0,(.val (.list .str) O,none)),(1,(.val .str Z,none)),(7,(.val (.int .i64) (List.length O:Int),none)),(8,(.val (.int .i64) x,none))],[],0,19,0⟩) ⟨[0,1,7,8],[]⟩ (by rfl) ?_
  intro aA w1 n1 hC1 hN1
  unfold LO at hC1
  dsimp only at hC1⊢
  refine oU CW ?_
  refine p5 ?_
  refine oZ hC1 (fun hC1 hc1=> ?_) (fun hC1 hc1=> ?_)
  ·refine p7 (p4 (p5 (pV ?_)))
   refine oU CW ?_
   obtain⟨hg1,hC1⟩:=oY hC1
   refine oU CW ?_ (hp:=by exact hg1)
   refine oZ hC1 (fun hC1 hc2=> ?_) (fun hC1 hc2=> ?_)
   ·refine oU CW ?_
    refine oW (pC (p6 (tJ (tI (pC (p6 ?_))))))
    cases hC1
    cases hN1
    dsimp only at hC0
    cases hC0
    exact⟨[],by rfl,by rfl,by rfl⟩
   ·refine p7 (pE (p4 ?_))
    obtain⟨hg2,hC1⟩:=oY hC1
    refine pH CW ?_ (hp:=by exact hg2)
    cases hC1
    exact qV ⟨⟨[0,1,7,8],[]⟩,_,by rfl,hN1⟩
  ·refine s7 (s3 (sB ?_))
   cases hC1
   cases hN1
   exact sA ⟨⟨[],[]⟩,_,rfl,by rfl⟩
 ·rintro _ ⟨v,rfl,rfl⟩
  dsimp only at hC0⊢
  refine s5 (p4 ?_)
  refine oU CW ?_
  refine oW ?_
  cases hC0
  exact⟨[],by rfl,by rfl,by rfl⟩
attribute [irreducible] xG
def GF (O:Int) (Z:Int):Bool:=
 if (decide (O=(1:Int)))=true then
  (decide (Z=(10:Int)))
 else
  q6 (σ:=Bool) (
    if (decide (O=(2:Int)))=true then
     (decide (O=(2:Int)))
    else
     (decide (O=(3:Int)))
   ) fun aA=>
  if aA=true then
   ((decide (Z=(10:Int)))||(decide (Z=(34:Int))))
  else
   ((decide (Z=(60:Int)))||(decide (Z=(34:Int))))
section
variable (O:Int) (Z:Int)
@[reducible] def YE:List Slot:=[(.val (.int .i64) O,none),(.val (.int .u8) Z,none)]
@[reducible] def YF:List Blk:=[]
@[go_sem] def YG:Ret:=⟨[],[(.val .bool (GF O Z),none)],[]⟩
def a8C:List Slot→List Blk→Option Ret:=pR (V:=(Int×Int)) (fun x=>YE x.1 x.2) (fun x=>YF) fun x=>YG x.1 x.2
@[go_sem] theorem aJ2:a8C (no_index (YE O Z)) (no_index YF)=some (YG O Z):=pT (fun⟨a0,a1⟩ ⟨b0,b1⟩ h1 h2=>by cases h1;cases h2;rfl) (O,Z)
end
@[reducible,go_sem] def a8D:Nat×Sig:=(144,⟨[.v,.v],a8C,[],[],none⟩)
theorem CX:Env Tryz.prog [] (pK []):=⟨trivial,pS,pM⟩
theorem aFJ:pN Tryz.prog a8D:=by
 refine pU CX Tryz.func144 (c:=_) rfl (N:=25) (by kernel_rfl) (ts:=[(4,none)]) rfl (fun _ _=>rfl) ?_
 intro⟨O,Z⟩ hs hrow
 dsimp only[YE,YF,YG,pP,enumH,pB,pL,pQ,Nat.reduceAdd] at hs hrow⊢
 obtain⟨z0,hC0⟩: ∃z,(GF O Z)=z:=⟨_,rfl⟩
 try rw[hC0]
 unfold GF at hC0
 refine oU CX ?_
 refine p5 ?_
 refine oU CX ?_
 refine pV ?_
 refine oU CX ?_
 refine oZ hC0 (fun hC0 hc1=> ?_) (fun hC0 hc1=> ?_)
 ·refine oU CX ?_
  refine oW (pC (p6 ?_))
  cases hC0
  exact⟨[],by rfl,by rfl,by rfl⟩
 ·refine p5 ?_
  refine oU CX ?_
  obtain⟨aA,hC1,hC0⟩:=aEL hC0
  refine vL (fun s=>s=(fun x=>⟨[(1,(.val (.int .u8) Z,none)),(10,(.val .bool x,none))],[],0,25,0⟩) aA) ?_ ?_
  ·refine oZ hC1 (fun hC1 hc2=> ?_) (fun hC1 hc2=> ?_)
   ·refine p7 ?_
    cases hC1
    exact qG ⟨⟨[1,10],[]⟩,by rfl⟩
   ·refine pH CX ?_
    cases hC1
    exact qG ⟨⟨[1,10],[]⟩,by rfl⟩
  ·rintro _ rfl
   dsimp only at hC0⊢
   refine p4 ?_
   refine oZ hC0 (fun hC0 hc3=> ?_) (fun hC0 hc3=> ?_)
   ·refine oU CX ?_ (hp:=by exact And.intro (fun hh=>hh) ((fun hh=>tZ hh)))
    refine oW (pC (p6 ?_))
    cases hC0
    exact⟨[],by rfl,by rfl,by rfl⟩
   ·refine p7 (pE (p4 ?_))
    refine oU CX ?_ (hp:=by exact And.intro (fun hh=>hh) ((fun hh=>tZ hh)))
    refine oW ?_
    cases hC0
    exact⟨[],by rfl,by rfl,by rfl⟩
def GG (O:((List Int)×Unit)) (Z:Int):Option Unit:=
 if (List.length O.1+List.length ([Z]:List Int))*1≤140737488355328 then
  some (())
 else none
section
variable (O:Int) (Z:((List Int)×Unit)) (aA:Nat)
@[reducible] def YH:List Slot:=[(.val .ref (some (0,0)),none),(.val (.int .u8) O,none)]
@[reducible] def YI:List Blk:=[.cells vU ((some (0,0)),Z) [(1,1)],.grow 5 1 aA]
@[go_sem] def YJ:Ret:=⟨[aA=(List.length Z.1),((GG Z O)).isSome=true],[(.any,none)],[.cells vU ((some (0,0)),((Z.1++([O]:List Int)),())) [(1,1)],.grow 5 1 (List.length (Z.1++([O]:List Int)))]⟩
def a8E:List Slot→List Blk→Option Ret:=pR (V:=(Int×((List Int)×Unit)×Nat)) (fun x=>YH x.1) (fun x=>YI x.2.1 x.2.2) fun x=>YJ x.1 x.2.1 x.2.2
@[go_sem] theorem aJ3:a8E (no_index (YH O)) (no_index (YI Z aA))=some (YJ O Z aA):=pT (fun⟨a0,a1,a2⟩ ⟨b0,b1,b2⟩ h1 h2=>by cases h1;cases h2;rfl) (O,Z,aA)
end
@[reducible,go_sem] def a8F:Nat×Sig:=(145,⟨[.p vU [1],.v],a8E,[],[],none⟩)
theorem LP:Env Tryz.prog [AC,G2] (pK [PQ]):=⟨⟨CK,⟨L5,trivial⟩⟩,pA VP pS,pM⟩
theorem aFK:pN Tryz.prog a8F:=by
 refine pU LP Tryz.func145 (c:=_) rfl (N:=17) (by kernel_rfl) (ts:=[(4,none)]) rfl (fun _ _=>rfl) ?_
 intro⟨O,Z,aA⟩ hs hrow
 dsimp only[YH,YI,YJ,pP,enumH,pB,pL,pQ,Nat.reduceAdd] at hs hrow⊢
 obtain⟨rfl,hz⟩:=hs
 obtain⟨z0,hC0⟩:=Option.isSome_iff_exists.1 hz
 try rw[pY hC0]
 clear hz
 unfold GG at hC0
 refine oU LP ?_
 refine oU LP ?_ (hp:=by exact(by first|exact rfl|exact trivial))
 obtain⟨hg1,hC0⟩:=oY hC0
 refine oU LP ?_ (hp:=by exact And.intro (by first|exact rfl|exact trivial) (hg1))
 refine oU LP ?_
 refine oW ?_
 cases hC0
 exact⟨[(0,0),(1,1)],by rfl,by rfl,by rfl⟩
attribute [irreducible] GG
def LQ (O:(List UInt8)):Option Unit:=
 if List.length O≤9223372036854775807 then
  some (())
 else none
section
variable (O:(List UInt8))
@[reducible] def YK:List Slot:=[(.val .str O,none)]
@[reducible] def YL:List Blk:=[]
@[go_sem] def YM:Ret:=⟨[((LQ O)).isSome=true],[(.val .bool (Lib.validD O),none)],[]⟩
def a8G:List Slot→List Blk→Option Ret:=pR (V:=(List UInt8)) (fun x=>YK x) (fun x=>YL) fun x=>YM x
@[go_sem] theorem aJ4:a8G (no_index (YK O)) (no_index YL)=some (YM O):=pT (fun a0 b0 h1 h2=>by cases h1;cases h2;rfl) O
end
@[reducible,go_sem] def a8H:Nat×Sig:=(146,⟨[.v],a8G,[],[],none⟩)
theorem YN:Env Tryz.prog [] (pK [a7C]):=⟨trivial,pA aFn pS,pM⟩
theorem aFL:pN Tryz.prog a8H:=by
 refine pU YN Tryz.func146 (c:=_) rfl (N:=5) (by kernel_rfl) (ts:=[(2,none)]) rfl (fun _ _=>rfl) ?_
 intro O hs hrow
 dsimp only[YK,YL,YM,pP,enumH,pB,pL,pQ,Nat.reduceAdd] at hs hrow⊢
 have hz:=hs
 obtain⟨z0,hC0⟩:=Option.isSome_iff_exists.1 hz
 try rw[pY hC0]
 clear hz hs
 unfold LQ at hC0
 refine oU YN ?_
 obtain⟨hg1,hC0⟩:=oY hC0
 refine oU YN ?_ (hp:=by exact hg1)
 refine oW ?_
 cases hC0
 exact⟨[],by rfl,by rfl,by rfl⟩
attribute [irreducible] LQ
def a8I (O:p8) (Z:(List UInt8)):Unit:=
 ()
section
variable (O:p8) (Z:(List UInt8))
@[reducible] def YO:List Slot:=[(.val (.pair .str (.pair .str .unit)) O,none),(.val .ref (some (0,0)),none)]
@[reducible] def YP:List Blk:=[.cells .str Z []]
@[go_sem] def YQ:Ret:=⟨[],[(.val .bool (!(Op.bytesLess O.1 Z||decide (O.1=Z))),none)],[.cells .str Z []]⟩
def a8J:List Slot→List Blk→Option Ret:=pR (V:=(p8×(List UInt8))) (fun x=>YO x.1) (fun x=>YP x.2) fun x=>YQ x.1 x.2
@[go_sem] theorem aJ5:a8J (no_index (YO O)) (no_index (YP Z))=some (YQ O Z):=pT (fun⟨a0,a1⟩ ⟨b0,b1⟩ h1 h2=>by cases h1;cases h2;rfl) (O,Z)
end
@[reducible,go_sem] def a8K:Nat×Sig:=(173,⟨[.v,.p .str []],a8J,[],[0],none⟩)
theorem YR:Env Tryz.prog [q7,CM] (pK []):=⟨⟨q8,⟨G4,trivial⟩⟩,pS,pM⟩
theorem aFM:pN Tryz.prog a8K:=by
 refine pU YR Tryz.func173 (c:=_) rfl (N:=8) (by kernel_rfl) (ts:=[(3,none)]) rfl (fun _ _=>rfl) ?_
 intro⟨O,Z⟩ hs hrow
 dsimp only[YO,YP,YQ,pP,enumH,pB,pL,pQ,Nat.reduceAdd] at hs hrow⊢
 obtain⟨z0,hC0⟩: ∃z,(a8I O Z)=z:=⟨_,rfl⟩
 try rw[hC0]
 unfold a8I at hC0
 refine oU YR ?_
 refine oU YR ?_
 refine oW ?_
 cases hC0
 exact⟨[(0,0)],by rfl,by rfl,by rfl⟩
def a8L (O:Int):Unit:=
 ()
section
variable (O:Int)
@[reducible] def YS:List Slot:=[(.val (.int .i64) O,none)]
@[reducible] def YT:List Blk:=[]
@[go_sem] def YU:Ret:=⟨[],[(.val .bool ((decide ((1:Int)≤O))&&(decide (O≤(4:Int)))),none)],[]⟩
def a8M:List Slot→List Blk→Option Ret:=pR (V:=Int) (fun x=>YS x) (fun x=>YT) fun x=>YU x
@[go_sem] theorem aJ6:a8M (no_index (YS O)) (no_index YT)=some (YU O):=pT (fun a0 b0 h1 h2=>by cases h1;cases h2;rfl) O
end
@[reducible,go_sem] def YV:Nat×Sig:=(175,⟨[.v],a8M,[],[],none⟩)
theorem YW:Env Tryz.prog [] (pK []):=⟨trivial,pS,pM⟩
theorem a8N:pN Tryz.prog YV:=by
 refine pU YW Tryz.func175 (c:=_) rfl (N:=9) (by kernel_rfl) (ts:=[(2,none)]) rfl (fun _ _=>rfl) ?_
 intro O hs hrow
 dsimp only[YS,YT,YU,pP,enumH,pB,pL,pQ,Nat.reduceAdd] at hs hrow⊢
 obtain⟨z0,hC0⟩: ∃z,(a8L O)=z:=⟨_,rfl⟩
 try rw[hC0]
 unfold a8L at hC0
 refine oU YW ?_
 refine oU YW ?_ (hp:=by exact And.intro (fun hh=>hh) ((fun hh=>pZ hh)))
 refine oW ?_
 cases hC0
 exact⟨[],by rfl,by rfl,by rfl⟩
def LR (O:Int) (Z:(List UInt8)):Int→Option (Int⊕(Unit⊕Bool)):=fun aA=>
 if (decide (aA<(List.length Z:Int)))=true then
  if 0≤aA∧aA<(List.length Z:Int) then
   if (decide ((p9 Z aA)=O))=true then
    some (.inr (.inr (true)))
   else
    if i64 (aA+(1:Int)) then
     some (.inl (aA+(1:Int)))
    else none
  else none
 else
  some (.inr (.inl ()))
def CY (O:Int) (Z:(List UInt8)):Option Bool:=
 qP (pF (LR O Z) (0:Int)) fun _=>
 some (false)
section
variable (O:Int) (Z:(List UInt8))
@[reducible] def YX:List Slot:=[(.val (.int .u8) O,none),(.val .str Z,none)]
@[reducible] def YY:List Blk:=[]
@[go_sem] def YZ:Ret:=⟨[((CY O Z)).isSome=true],[(.val .bool (val (CY O Z)),none)],[]⟩
def a8O:List Slot→List Blk→Option Ret:=pR (V:=(Int×(List UInt8))) (fun x=>YX x.1 x.2) (fun x=>YY) fun x=>YZ x.1 x.2
@[go_sem] theorem aJ7:a8O (no_index (YX O Z)) (no_index YY)=some (YZ O Z):=pT (fun⟨a0,a1⟩ ⟨b0,b1⟩ h1 h2=>by cases h1;cases h2;rfl) (O,Z)
end
@[reducible,go_sem] def Z0:Nat×Sig:=(178,⟨[.v,.v],a8O,[],[],none⟩)
theorem EK:Env Tryz.prog [q7] (pK []):=⟨⟨q8,trivial⟩,pS,pM⟩
theorem a8P:pN Tryz.prog Z0:=by
 refine pU EK Tryz.func178 (c:=_) rfl (N:=17) (by kernel_rfl) (ts:=[(4,none)]) rfl (fun _ _=>rfl) ?_
 intro⟨O,Z⟩ hs hrow
 dsimp only[YX,YY,YZ,pP,enumH,pB,pL,pQ,Nat.reduceAdd] at hs hrow⊢
 have hz:=hs
 obtain⟨z0,hC0⟩:=Option.isSome_iff_exists.1 hz
 try rw[pY hC0]
 clear hz hs
 unfold CY at hC0
 refine oU EK ?_
 refine p5 ?_
 refine oU EK ?_
 refine pV ?_
 obtain⟨y1,hy1,hC0⟩:=t8 hC0
 refine s9 0 (fun s=> ∃v,y1= .inl v∧s=(fun _=>⟨[],[],0,17,0⟩) v) ?_ ?_
 ·refine s8 hy1 (fun x=>⟨[(0,(.val (.int .u8) O,none)),(1,(.val .str Z,none)),(5,(.val (.int .i64) x,none))],[],0,17,0⟩) ⟨[0,1,5],[]⟩ (by rfl) ?_
  intro aA w1 n1 hC1 hN1
  unfold LR at hC1
  dsimp only at hC1⊢
  refine p5 ?_
  refine oU EK ?_
  refine oZ hC1 (fun hC1 hc1=> ?_) (fun hC1 hc1=> ?_)
  ·refine p7 (p4 (p5 (pV ?_)))
   obtain⟨hg1,hC1⟩:=oY hC1
   refine oU EK ?_ (hp:=by exact hg1)
   refine oZ hC1 (fun hC1 hc2=> ?_) (fun hC1 hc2=> ?_)
   ·refine oU EK ?_
    refine oW (pC (p6 (tJ (tI (pC (p6 ?_))))))
    cases hC1
    cases hN1
    dsimp only at hC0
    cases hC0
    exact⟨[],by rfl,by rfl,by rfl⟩
   ·refine p7 (pE (p4 ?_))
    obtain⟨hg2,hC1⟩:=oY hC1
    refine pH EK ?_ (hp:=by exact hg2)
    cases hC1
    exact qV ⟨⟨[0,1,5],[]⟩,_,by rfl,hN1⟩
  ·refine s7 (s3 (sB ?_))
   cases hC1
   cases hN1
   exact sA ⟨⟨[],[]⟩,_,rfl,by rfl⟩
 ·rintro _ ⟨v,rfl,rfl⟩
  dsimp only at hC0⊢
  refine s5 (p4 ?_)
  refine oU EK ?_
  refine oW ?_
  cases hC0
  exact⟨[],by rfl,by rfl,by rfl⟩
attribute [irreducible] CY
end
end Go.Proofs.YtfchbnahjcdiiaaGreatDoor
namespace Go.Proofs.YtfchbnahjcdiiaaGreatDoor
open Vc
set_option maxRecDepth 100000
set_option maxHeartbeats 4000000
set_option linter.unusedSimpArgs false
set_option linter.unusedVariables false
noncomputable section
def II (O:(List UInt8)) (Z:Int):(Int×Int)→Option ((Int×Int)⊕(Int⊕(Int×Bool))):=fun(aA,aB)=>
 if (decide (aB<(List.length O:Int)))=true then
  if 0≤aB∧aB<(List.length O:Int) then
   if 0≤aB∧aB<(List.length O:Int) then
    if (((decide ((65:Int)≤(p9 O aB)))==true)=true→0≤aB∧aB<(List.length O:Int)) then
     pW (σ:=Int) (
       if ((decide ((65:Int)≤(p9 O aB)))&&(decide ((p9 O aB)≤(70:Int))))=true then
        if 0≤aB∧aB<(List.length O:Int) then
         if i64 ((IntKind.wrap .i64 (IntKind.wrap .u8 ((p9 O aB)- (65:Int))))+(10:Int)) then
          some (((IntKind.wrap .i64 (IntKind.wrap .u8 ((p9 O aB)- (65:Int))))+(10:Int)))
         else none
        else none
       else
        some ((rW ([48,49,50,51,52,53,54,55,56,57,97,98,99,100,101,102]:List UInt8) (p9 O aB)))
      ) fun aC=>
     if ((decide (aC<(0:Int)))||(decide (Z≤aC)))=true then
      some (.inr (.inr (((0:Int),false))))
     else
      if i64 (aA*Z) then
       if i64 ((aA*Z)+aC) then
        if i64 (aB+(1:Int)) then
         some (.inl (((aA*Z)+aC),(aB+(1:Int))))
        else none
       else none
      else none
    else none
   else none
  else none
 else
  some (.inr (.inl aA))
def BG (O:(List UInt8)) (Z:Int):Option (Int×Bool):=
 qP (pF (II O Z) ((0:Int),(0:Int))) fun aA=>
 some ((aA,(!decide (O=([]:List UInt8)))))
section
variable (O:(List UInt8)) (Z:Int)
@[reducible] def Z1:List Slot:=[(.val .str O,none),(.val (.int .i64) Z,none)]
@[reducible] def Z2:List Blk:=[]
@[go_sem] def Z3:Ret:=⟨[((BG O Z)).isSome=true],[(.val (.int .i64) ((val (BG O Z)).1),none),(.val .bool ((val (BG O Z)).2),none)],[]⟩
def a8Q:List Slot→List Blk→Option Ret:=pR (V:=((List UInt8)×Int)) (fun x=>Z1 x.1 x.2) (fun x=>Z2) fun x=>Z3 x.1 x.2
@[go_sem] theorem aJ8:a8Q (no_index (Z1 O Z)) (no_index Z2)=some (Z3 O Z):=pT (fun⟨a0,a1⟩ ⟨b0,b1⟩ h1 h2=>by cases h1;cases h2;rfl) (O,Z)
end
@[reducible,go_sem] def Z4:Nat×Sig:=(183,⟨[.v,.v],a8Q,[],[],none⟩)
theorem y5:Env Tryz.prog [tK,AE,q7] (pK [PP]):=⟨⟨uH,⟨CN,⟨q8,trivial⟩⟩⟩,pA VO pS,pM⟩
theorem a8R:pN Tryz.prog Z4:=by
 refine pU y5 Tryz.func183 (c:=_) rfl (N:=50) (by kernel_rfl) (ts:=[(4,none),(5,none)]) rfl (fun _ _=>rfl) ?_
 intro⟨O,Z⟩ hs hrow
 dsimp only[Z1,Z2,Z3,pP,enumH,pB,pL,pQ,Nat.reduceAdd] at hs hrow⊢
 have hz:=hs
 obtain⟨z0,hC0⟩:=Option.isSome_iff_exists.1 hz
 try rw[pY hC0]
 clear hz hs
 unfold BG at hC0
 refine oU y5 ?_
 refine oU y5 ?_
 refine p5 ?_
 refine oU y5 ?_
 refine pV ?_
 obtain⟨y1,hy1,hC0⟩:=t8 hC0
 refine s9 0 (fun s=> ∃v,y1= .inl v∧s=(fun x=>⟨[(0,(.val .str O,none)),(6,(.val (.int .i64) x,none))],[],0,50,0⟩) v) ?_ ?_
 ·refine s8 hy1 (fun x=>⟨[(0,(.val .str O,none)),(1,(.val (.int .i64) Z,none)),(6,(.val (.int .i64) x.1,none)),(10,(.val (.int .i64) (List.length O:Int),none)),(11,(.val (.int .i64) x.2,none))],[],0,50,0⟩) ⟨[0,1,6,10,11],[]⟩ (by rfl) ?_
  intro x1 w1 n1 hC1 hN1
  obtain⟨aA,aB⟩:=x1
  unfold II at hC1
  dsimp only at hC1⊢
  refine oU y5 ?_
  refine p5 ?_
  refine oZ hC1 (fun hC1 hc1=> ?_) (fun hC1 hc1=> ?_)
  ·refine p7 (p4 (p5 (pV ?_)))
   refine oU y5 ?_
   obtain⟨hg1,hC1⟩:=oY hC1
   refine oU y5 ?_ (hp:=by exact hg1)
   refine p5 ?_
   obtain⟨hg2,hC1⟩:=oY hC1
   obtain⟨hg3,hC1⟩:=oY hC1
   refine oU y5 ?_ (hp:=by exact And.intro hg2 (And.intro (fun hh=>hh) (And.intro (fun hh=>hh) (And.intro hg3 (And.intro (fun hh=>hh) ((fun hh=>pZ hh)))))))
   obtain⟨aC,hC2,hC1⟩:=oX hC1
   refine vL (fun s=>s=(fun x=>⟨[(0,(.val .str O,none)),(1,(.val (.int .i64) Z,none)),(6,(.val (.int .i64) aA,none)),(8,(.val (.int .i64) x,none)),(10,(.val (.int .i64) (List.length O:Int),none)),(11,(.val (.int .i64) aB,none))],[],0,50,0⟩) aC) ?_ ?_
   ·refine oZ hC2 (fun hC2 hc2=> ?_) (fun hC2 hc2=> ?_)
    ·obtain⟨hg4,hC2⟩:=oY hC2
     obtain⟨hg5,hC2⟩:=oY hC2
     refine pH y5 ?_ (hp:=by exact And.intro hg4 (hg5))
     cases hC2
     exact qG ⟨⟨[0,1,6,8,10,11],[]⟩,by rfl⟩
    ·refine p7 ?_
     cases hC2
     exact qG ⟨⟨[0,1,6,8,10,11],[]⟩,by rfl⟩
   ·rintro _ rfl
    dsimp only at hC1⊢
    refine p4 (p5 ?_)
    refine oU y5 ?_ (hp:=by exact And.intro (fun hh=>hh) (And.intro (fun hh=>hh) ((fun hh=>tZ hh))))
    refine oZ hC1 (fun hC1 hc3=> ?_) (fun hC1 hc3=> ?_)
    ·refine oU y5 ?_
     refine oW (p6 (pC (p6 (tJ (tI (pC (p6 ?_)))))))
     cases hC1
     cases hN1
     dsimp only at hC0
     cases hC0
     exact⟨[],by rfl,by rfl,by rfl⟩
    ·refine p7 (p4 ?_)
     obtain⟨hg6,hC1⟩:=oY hC1
     obtain⟨hg7,hC1⟩:=oY hC1
     refine pH y5 ?_ (hp:=by exact And.intro hg6 (hg7))
     refine pE (p4 ?_)
     obtain⟨hg8,hC1⟩:=oY hC1
     refine pH y5 ?_ (hp:=by exact hg8)
     cases hC1
     exact qV ⟨⟨[0,1,6,10,11],[]⟩,_,by rfl,hN1⟩
  ·refine s7 (s3 (sB ?_))
   cases hC1
   cases hN1
   exact sA ⟨⟨[0,6],[]⟩,_,rfl,by rfl⟩
 ·rintro _ ⟨aD,rfl,rfl⟩
  dsimp only at hC0⊢
  refine s5 (p4 ?_)
  refine oU y5 ?_
  refine oW ?_
  cases hC0
  exact⟨[],by rfl,by rfl,by rfl⟩
attribute [irreducible] BG
def a8S (O:p8) (Z:(List UInt8)):Unit:=
 ()
section
variable (O:p8) (Z:(List UInt8))
@[reducible] def Z5:List Slot:=[(.val (.pair .str (.pair .str .unit)) O,none),(.val .ref (some (0,0)),none)]
@[reducible] def Z6:List Blk:=[.cells .str Z []]
@[go_sem] def Z7:Ret:=⟨[],[(.val .bool (decide (O.1=Z)),none)],[.cells .str Z []]⟩
def a8T:List Slot→List Blk→Option Ret:=pR (V:=(p8×(List UInt8))) (fun x=>Z5 x.1) (fun x=>Z6 x.2) fun x=>Z7 x.1 x.2
@[go_sem] theorem aJ9:a8T (no_index (Z5 O)) (no_index (Z6 Z))=some (Z7 O Z):=pT (fun⟨a0,a1⟩ ⟨b0,b1⟩ h1 h2=>by cases h1;cases h2;rfl) (O,Z)
end
@[reducible,go_sem] def a8U:Nat×Sig:=(201,⟨[.v,.p .str []],a8T,[],[0],none⟩)
theorem Z8:Env Tryz.prog [q7,CM] (pK []):=⟨⟨q8,⟨G4,trivial⟩⟩,pS,pM⟩
theorem aFN:pN Tryz.prog a8U:=by
 refine pU Z8 Tryz.func201 (c:=_) rfl (N:=8) (by kernel_rfl) (ts:=[(3,none)]) rfl (fun _ _=>rfl) ?_
 intro⟨O,Z⟩ hs hrow
 dsimp only[Z5,Z6,Z7,pP,enumH,pB,pL,pQ,Nat.reduceAdd] at hs hrow⊢
 obtain⟨z0,hC0⟩: ∃z,(a8S O Z)=z:=⟨_,rfl⟩
 try rw[hC0]
 unfold a8S at hC0
 refine oU Z8 ?_
 refine oU Z8 ?_
 refine oW ?_
 cases hC0
 exact⟨[(0,0)],by rfl,by rfl,by rfl⟩
def a8V (O:Int):Unit:=
 ()
section
variable (O:Int)
@[reducible] def Z9:List Slot:=[(.val (.int .i64) O,none)]
@[reducible] def ZA:List Blk:=[]
@[go_sem] def ZB:Ret:=⟨[],[(.val .bool (((decide ((0:Int)≤O))&&(decide (O≤(1114111:Int))))&&((decide (O<(55296:Int)))||(decide ((57343:Int)<O)))),none)],[]⟩
def a8W:List Slot→List Blk→Option Ret:=pR (V:=Int) (fun x=>Z9 x) (fun x=>ZA) fun x=>ZB x
@[go_sem] theorem aKa:a8W (no_index (Z9 O)) (no_index ZA)=some (ZB O):=pT (fun a0 b0 h1 h2=>by cases h1;cases h2;rfl) O
end
@[reducible,go_sem] def LS:Nat×Sig:=(205,⟨[.v],a8W,[],[],none⟩)
theorem ZC:Env Tryz.prog [] (pK []):=⟨trivial,pS,pM⟩
theorem Q0:pN Tryz.prog LS:=by
 refine pU ZC Tryz.func205 (c:=_) rfl (N:=17) (by kernel_rfl) (ts:=[(2,none)]) rfl (fun _ _=>rfl) ?_
 intro O hs hrow
 dsimp only[Z9,ZA,ZB,pP,enumH,pB,pL,pQ,Nat.reduceAdd] at hs hrow⊢
 obtain⟨z0,hC0⟩: ∃z,(a8V O)=z:=⟨_,rfl⟩
 try rw[hC0]
 unfold a8V at hC0
 refine oU ZC ?_
 refine oU ZC ?_ (hp:=by exact And.intro (fun hh=>hh) (And.intro (fun hh=>pZ hh) (And.intro (fun hh=>hh) (And.intro (fun hh=>hh) (And.intro (fun hh=>hh) (And.intro (fun hh=>hh) (And.intro (fun hG hh=>BB hG hh) ((fun hh=>pZ hh)))))))))
 refine oW ?_
 cases hC0
 exact⟨[],by rfl,by rfl,by rfl⟩
def y6 (O:Int):Option (List UInt8):=
 if (decide (O<(128:Int)))=true then
  some ((rC ([(IntKind.wrap .u8 O)]:List Int)))
 else
  if (decide (O<(2048:Int)))=true then
   if i64 ((192:Int)+(IntKind.wrap .i64 (Int.tdiv O (64:Int)))) then
    if i64 ((128:Int)+(Int.tmod O (64:Int))) then
     some ((rC ([(IntKind.wrap .u8 ((192:Int)+(IntKind.wrap .i64 (Int.tdiv O (64:Int))))),(IntKind.wrap .u8 ((128:Int)+(Int.tmod O (64:Int))))]:List Int)))
    else none
   else none
  else
   if (decide (O<(65536:Int)))=true then
    if i64 ((224:Int)+(IntKind.wrap .i64 (Int.tdiv O (4096:Int)))) then
     if i64 ((128:Int)+(Int.tmod (IntKind.wrap .i64 (Int.tdiv O (64:Int))) (64:Int))) then
      if i64 ((128:Int)+(Int.tmod O (64:Int))) then
       some ((rC ([(IntKind.wrap .u8 ((224:Int)+(IntKind.wrap .i64 (Int.tdiv O (4096:Int))))),(IntKind.wrap .u8 ((128:Int)+(Int.tmod (IntKind.wrap .i64 (Int.tdiv O (64:Int))) (64:Int)))),(IntKind.wrap .u8 ((128:Int)+(Int.tmod O (64:Int))))]:List Int)))
      else none
     else none
    else none
   else
    if i64 ((240:Int)+(IntKind.wrap .i64 (Int.tdiv O (262144:Int)))) then
     if i64 ((128:Int)+(Int.tmod (IntKind.wrap .i64 (Int.tdiv O (4096:Int))) (64:Int))) then
      if i64 ((128:Int)+(Int.tmod (IntKind.wrap .i64 (Int.tdiv O (64:Int))) (64:Int))) then
       if i64 ((128:Int)+(Int.tmod O (64:Int))) then
        some ((rC ([(IntKind.wrap .u8 ((240:Int)+(IntKind.wrap .i64 (Int.tdiv O (262144:Int))))),(IntKind.wrap .u8 ((128:Int)+(Int.tmod (IntKind.wrap .i64 (Int.tdiv O (4096:Int))) (64:Int)))),(IntKind.wrap .u8 ((128:Int)+(Int.tmod (IntKind.wrap .i64 (Int.tdiv O (64:Int))) (64:Int)))),(IntKind.wrap .u8 ((128:Int)+(Int.tmod O (64:Int))))]:List Int)))
       else none
      else none
     else none
    else none
section
variable (O:Int)
@[reducible] def ZD:List Slot:=[(.val (.int .i64) O,none)]
@[reducible] def ZE:List Blk:=[]
@[go_sem] def ZF:Ret:=⟨[((y6 O)).isSome=true],[(.val .str (val (y6 O)),none)],[]⟩
def a8X:List Slot→List Blk→Option Ret:=pR (V:=Int) (fun x=>ZD x) (fun x=>ZE) fun x=>ZF x
@[go_sem] theorem aKb:a8X (no_index (ZD O)) (no_index ZE)=some (ZF O):=pT (fun a0 b0 h1 h2=>by cases h1;cases h2;rfl) O
end
@[reducible,go_sem] def LT:Nat×Sig:=(206,⟨[.v],a8X,[],[],none⟩)
theorem CZ:Env Tryz.prog [tK,AE,q7,AC] (pK []):=⟨⟨uH,⟨CN,⟨q8,⟨CK,trivial⟩⟩⟩⟩,pS,pM⟩
theorem Q1:pN Tryz.prog LT:=by
 refine pU CZ Tryz.func206 (c:=_) rfl (N:=61) (by kernel_rfl) (ts:=[(2,none)]) rfl (fun _ _=>rfl) ?_
 intro O hs hrow
 dsimp only[ZD,ZE,ZF,pP,enumH,pB,pL,pQ,Nat.reduceAdd] at hs hrow⊢
 have hz:=hs
 obtain⟨z0,hC0⟩:=Option.isSome_iff_exists.1 hz
 try rw[pY hC0]
 clear hz hs
 unfold y6 at hC0
 refine oU CZ ?_
 refine p5 (pV ?_)
 refine oU CZ ?_
 refine oZ hC0 (fun hC0 hc1=> ?_) (fun hC0 hc1=> ?_)
 ·refine oU CZ ?_
  refine oW (pC (p6 ?_))
  cases hC0
  exact⟨[],by rfl,by rfl,by rfl⟩
 ·refine oU CZ ?_
  refine oZ hC0 (fun hC0 hc2=> ?_) (fun hC0 hc2=> ?_)
  ·obtain⟨hg1,hC0⟩:=oY hC0
   obtain⟨hg2,hC0⟩:=oY hC0
   refine oU CZ ?_ (hp:=by exact And.intro (show (64:Int)≠0 from by decide) (And.intro hg1 (And.intro (show (64:Int)≠0 from by decide) (hg2))))
   refine oW (pC (p6 ?_))
   cases hC0
   exact⟨[],by rfl,by rfl,by rfl⟩
  ·refine oU CZ ?_
   refine oZ hC0 (fun hC0 hc3=> ?_) (fun hC0 hc3=> ?_)
   ·obtain⟨hg3,hC0⟩:=oY hC0
    obtain⟨hg4,hC0⟩:=oY hC0
    obtain⟨hg5,hC0⟩:=oY hC0
    refine oU CZ ?_ (hp:=by exact And.intro (show (4096:Int)≠0 from by decide) (And.intro hg3 (And.intro (show (64:Int)≠0 from by decide) (And.intro (show (64:Int)≠0 from by decide) (And.intro hg4 (And.intro (show (64:Int)≠0 from by decide) (hg5)))))))
    refine oW (pC (p6 ?_))
    cases hC0
    exact⟨[],by rfl,by rfl,by rfl⟩
   ·refine p7 (pE (p4 ?_))
    obtain⟨hg6,hC0⟩:=oY hC0
    obtain⟨hg7,hC0⟩:=oY hC0
    obtain⟨hg8,hC0⟩:=oY hC0
    obtain⟨hg9,hC0⟩:=oY hC0
    refine oU CZ ?_ (hp:=by exact And.intro (show (262144:Int)≠0 from by decide) (And.intro hg6 (And.intro (show (4096:Int)≠0 from by decide) (And.intro (show (64:Int)≠0 from by decide) (And.intro hg7 (And.intro (show (64:Int)≠0 from by decide) (And.intro (show (64:Int)≠0 from by decide) (And.intro hg8 (And.intro (show (64:Int)≠0 from by decide) (hg9))))))))))
    refine oW ?_
    cases hC0
    exact⟨[],by rfl,by rfl,by rfl⟩
attribute [irreducible] y6
def GH (O:Int) (Z:Int):Option Int:=
 pW (σ:=Int) (
   if ((decide ((48:Int)≤O))&&(decide (O≤(57:Int))))=true then
    some ((IntKind.wrap .i64 (IntKind.wrap .u8 (O- (48:Int)))))
   else
    if ((decide ((97:Int)≤O))&&(decide (O≤(102:Int))))=true then
     if i64 ((IntKind.wrap .i64 (IntKind.wrap .u8 (O- (97:Int))))+(10:Int)) then
      some (((IntKind.wrap .i64 (IntKind.wrap .u8 (O- (97:Int))))+(10:Int)))
     else none
    else
     if ((decide ((65:Int)≤O))&&(decide (O≤(70:Int))))=true then
      if i64 ((IntKind.wrap .i64 (IntKind.wrap .u8 (O- (65:Int))))+(10:Int)) then
       some (((IntKind.wrap .i64 (IntKind.wrap .u8 (O- (65:Int))))+(10:Int)))
      else none
     else
      some ((-1:Int))
  ) fun aA=>
 if (decide (Z≤aA))=true then
  some ((-1:Int))
 else
  some (aA)
section
variable (O:Int) (Z:Int)
@[reducible] def ZG:List Slot:=[(.val (.int .u8) O,none),(.val (.int .i64) Z,none)]
@[reducible] def ZH:List Blk:=[]
@[go_sem] def ZI:Ret:=⟨[((GH O Z)).isSome=true],[(.val (.int .i64) (val (GH O Z)),none)],[]⟩
def a8Y:List Slot→List Blk→Option Ret:=pR (V:=(Int×Int)) (fun x=>ZG x.1 x.2) (fun x=>ZH) fun x=>ZI x.1 x.2
@[go_sem] theorem aKc:a8Y (no_index (ZG O Z)) (no_index ZH)=some (ZI O Z):=pT (fun⟨a0,a1⟩ ⟨b0,b1⟩ h1 h2=>by cases h1;cases h2;rfl) (O,Z)
end
@[reducible,go_sem] def a8Z:Nat×Sig:=(215,⟨[.v,.v],a8Y,[],[],none⟩)
theorem zM:Env Tryz.prog [tK,AE] (pK []):=⟨⟨uH,⟨CN,trivial⟩⟩,pS,pM⟩
theorem aFO:pN Tryz.prog a8Z:=by
 refine pU zM Tryz.func215 (c:=_) rfl (N:=42) (by kernel_rfl) (ts:=[(4,none)]) rfl (fun _ _=>rfl) ?_
 intro⟨O,Z⟩ hs hrow
 dsimp only[ZG,ZH,ZI,pP,enumH,pB,pL,pQ,Nat.reduceAdd] at hs hrow⊢
 have hz:=hs
 obtain⟨z0,hC0⟩:=Option.isSome_iff_exists.1 hz
 try rw[pY hC0]
 clear hz hs
 unfold GH at hC0
 refine oU zM ?_
 refine oU zM ?_
 refine p5 ?_
 obtain⟨aA,hC1,hC0⟩:=oX hC0
 refine vL (fun s=>s=(fun x=>⟨[(1,(.val (.int .i64) Z,none)),(5,(.val (.int .i64) x,none))],[],0,42,0⟩) aA) ?_ ?_
 ·refine pV ?_
  refine oU zM ?_ (hp:=by exact And.intro (fun hh=>hh) ((fun hh=>pZ hh)))
  refine oZ hC1 (fun hC1 hc1=> ?_) (fun hC1 hc1=> ?_)
  ·refine pH zM ?_
   refine pE ?_
   cases hC1
   exact qG ⟨⟨[1,5],[]⟩,by rfl⟩
  ·refine oU zM ?_ (hp:=by exact And.intro (fun hh=>hh) ((fun hh=>pZ hh)))
   refine oZ hC1 (fun hC1 hc2=> ?_) (fun hC1 hc2=> ?_)
   ·obtain⟨hg1,hC1⟩:=oY hC1
    refine pH zM ?_ (hp:=by exact hg1)
    refine pE ?_
    cases hC1
    exact qG ⟨⟨[1,5],[]⟩,by rfl⟩
   ·refine oU zM ?_ (hp:=by exact And.intro (fun hh=>hh) ((fun hh=>pZ hh)))
    refine oZ hC1 (fun hC1 hc3=> ?_) (fun hC1 hc3=> ?_)
    ·obtain⟨hg2,hC1⟩:=oY hC1
     refine pH zM ?_ (hp:=by exact hg2)
     refine pE ?_
     cases hC1
     exact qG ⟨⟨[1,5],[]⟩,by rfl⟩
    ·refine p7 (pE ?_)
     cases hC1
     exact qG ⟨⟨[1,5],[]⟩,by rfl⟩
 ·rintro _ rfl
  dsimp only at hC0⊢
  refine p4 (p5 ?_)
  refine oU zM ?_
  refine oZ hC0 (fun hC0 hc4=> ?_) (fun hC0 hc4=> ?_)
  ·refine oU zM ?_
   refine oW (p6 ?_)
   cases hC0
   exact⟨[],by rfl,by rfl,by rfl⟩
  ·refine p7 (p4 ?_)
   refine oU zM ?_
   refine oW ?_
   cases hC0
   exact⟨[],by rfl,by rfl,by rfl⟩
attribute [irreducible] GH
end
end Go.Proofs.YtfchbnahjcdiiaaGreatDoor
namespace Go.Proofs.YtfchbnahjcdiiaaGreatDoor
open Vc
set_option maxRecDepth 100000
set_option maxHeartbeats 4000000
set_option linter.unusedSimpArgs false
set_option linter.unusedVariables false
noncomputable section
def IJ (O:(List Int)):((List UInt8)×Int)→Option (((List UInt8)×Int)⊕(List UInt8)):=fun(Z,aA)=>
 if (decide (aA<(List.length O:Int)))=true then
  if 0≤aA∧aA<(List.length O:Int) then
   if (((decide ((0:Int)≤(pX (.int .i64) O aA)))&&(decide ((pX (.int .i64) O aA)≤(1114111:Int))))&&((decide ((pX (.int .i64) O aA)<(55296:Int)))||(decide ((57343:Int)<(pX (.int .i64) O aA)))))=true then
    if 0≤aA∧aA<(List.length O:Int) then
     (y6 (pX (.int .i64) O aA)).bind fun aB=>
     if ((Z++aB).length:Int)≤9223372036854775807 then
      if i64 (aA+(1:Int)) then
       some (.inl ((Z++aB),(aA+(1:Int))))
      else none
     else none
    else none
   else
    (y6 (65533:Int)).bind fun aC=>
    if ((Z++aC).length:Int)≤9223372036854775807 then
     if i64 (aA+(1:Int)) then
      some (.inl ((Z++aC),(aA+(1:Int))))
     else none
    else none
  else none
 else
  some (.inr Z)
def GI (O:(List Int)):Option (List UInt8):=
 pW (pF (IJ O) (([]:List UInt8),(0:Int))) fun Z=>
 some (Z)
section
variable (O:(List Int))
@[reducible] def ZJ:List Slot:=[(.val (.list (.int .i64)) O,none)]
@[reducible] def ZK:List Blk:=[]
@[go_sem] def ZL:Ret:=⟨[((GI O)).isSome=true],[(.val .str (val (GI O)),none)],[]⟩
def a80:List Slot→List Blk→Option Ret:=pR (V:=(List Int)) (fun x=>ZJ x) (fun x=>ZK) fun x=>ZL x
@[go_sem] theorem aKd:a80 (no_index (ZJ O)) (no_index ZK)=some (ZL O):=pT (fun a0 b0 h1 h2=>by cases h1;cases h2;rfl) O
end
@[reducible,go_sem] def a81:Nat×Sig:=(207,⟨[.v],a80,[],[],none⟩)
theorem AI:Env Tryz.prog [tK,AF] (pK [LS,LT]):=⟨⟨uH,⟨CO,trivial⟩⟩,pA Q0 (pA Q1 pS),pM⟩
theorem aFP:pN Tryz.prog a81:=by
 refine pU AI Tryz.func207 (c:=_) rfl (N:=27) (by kernel_rfl) (ts:=[(2,none)]) rfl (fun _ _=>rfl) ?_
 intro O hs hrow
 dsimp only[ZJ,ZK,ZL,pP,enumH,pB,pL,pQ,Nat.reduceAdd] at hs hrow⊢
 have hz:=hs
 obtain⟨z0,hC0⟩:=Option.isSome_iff_exists.1 hz
 try rw[pY hC0]
 clear hz hs
 unfold GI at hC0
 refine oU AI ?_
 refine oU AI ?_
 refine p5 ?_
 refine oU AI ?_
 refine pV ?_
 obtain⟨Z,hy1,hC0⟩:=oX hC0
 refine s9 0 (fun s=>s=(fun x=>⟨[(3,(.val .str x,none))],[],0,27,0⟩) Z) ?_ ?_
 ·refine s8 hy1 (fun x=>⟨[(0,(.val (.list (.int .i64)) O,none)),(3,(.val .str x.1,none)),(4,(.val (.int .i64) x.2,none))],[],0,27,0⟩) ⟨[0,3,4],[]⟩ (by rfl) ?_
  intro x1 w1 n1 hC1 hN1
  obtain⟨aA,aB⟩:=x1
  unfold IJ at hC1
  dsimp only at hC1⊢
  refine p5 ?_
  refine oU AI ?_
  refine oZ hC1 (fun hC1 hc1=> ?_) (fun hC1 hc1=> ?_)
  ·refine p7 (p4 (p5 (pV ?_)))
   obtain⟨hg1,hC1⟩:=oY hC1
   refine oU AI ?_ (hp:=by exact hg1)
   refine oZ hC1 (fun hC1 hc2=> ?_) (fun hC1 hc2=> ?_)
   ·obtain⟨hg2,hC1⟩:=oY hC1
    obtain⟨aC,hv3,hw3,hC1⟩:=pJ hC1
    try simp only[go_sem] at hw3
    obtain⟨hg4,hC1⟩:=oY hC1
    refine pH AI ?_ (hp:=by exact And.intro hg2 (And.intro (pI hv3) (hg4))) (h:=by simp only[go_sem,hw3];rfl)
    refine pE (p4 ?_)
    obtain⟨hg5,hC1⟩:=oY hC1
    refine pH AI ?_ (hp:=by exact hg5)
    cases hC1
    exact qV ⟨⟨[0,3,4],[]⟩,_,by rfl,hN1⟩
   ·obtain⟨aD,hv6,hw6,hC1⟩:=pJ hC1
    try simp only[go_sem] at hw6
    obtain⟨hg7,hC1⟩:=oY hC1
    refine pH AI ?_ (hp:=by exact And.intro (pI hv6) (hg7)) (h:=by simp only[go_sem,hw6];rfl)
    refine pE (p4 ?_)
    obtain⟨hg8,hC1⟩:=oY hC1
    refine pH AI ?_ (hp:=by exact hg8)
    cases hC1
    exact qV ⟨⟨[0,3,4],[]⟩,_,by rfl,hN1⟩
  ·refine s7 (s3 (sB ?_))
   cases hC1
   cases hN1
   exact sA ⟨⟨[3],[]⟩,by rfl⟩
 ·rintro _ rfl
  dsimp only at hC0⊢
  refine s5 (p4 ?_)
  refine oU AI ?_
  refine oW ?_
  cases hC0
  exact⟨[],by rfl,by rfl,by rfl⟩
attribute [irreducible] GI
def AJ (O:(List UInt8)) (Z:Int):(Int×Int)→Option ((Int×Int)⊕(Int⊕(Int×Int))):=fun(aA,aB)=>
 if (decide (aB<Z))=true then
  if 0≤aB∧aB<(List.length O:Int) then
   if (((decide ((p9 O aB)<(128:Int)))==false)=true→0≤aB∧aB<(List.length O:Int)) then
    if ((decide ((p9 O aB)<(128:Int)))||(decide ((191:Int)<(p9 O aB))))=true then
     some (.inr (.inr (((65533:Int),(1:Int)))))
    else
     if i64 ((64:Int)*aA) then
      if 0≤aB∧aB<(List.length O:Int) then
       if i64 (((64:Int)*aA)+(IntKind.wrap .i64 (p9 O aB))) then
        if i64 ((((64:Int)*aA)+(IntKind.wrap .i64 (p9 O aB)))- (128:Int)) then
         if i64 (aB+(1:Int)) then
          some (.inl (((((64:Int)*aA)+(IntKind.wrap .i64 (p9 O aB)))- (128:Int)),(aB+(1:Int))))
         else none
        else none
       else none
      else none
     else none
   else none
  else none
 else
  some (.inr (.inl aA))
def EL (O:(List UInt8)):Option (Int×Int):=
 if 0≤(0:Int)∧(0:Int)<(List.length O:Int) then
  qP (σ:=(Int×Int)) (
    if (decide ((IntKind.wrap .i64 (p9 O (0:Int)))<(128:Int)))=true then
     some (.inr (((IntKind.wrap .i64 (p9 O (0:Int))),(1:Int))))
    else
     if ((decide ((192:Int)≤(IntKind.wrap .i64 (p9 O (0:Int)))))&&(decide ((IntKind.wrap .i64 (p9 O (0:Int)))<(224:Int))))=true then
      if i64 ((IntKind.wrap .i64 (p9 O (0:Int)))- (192:Int)) then
       some (.inl (((IntKind.wrap .i64 (p9 O (0:Int)))- (192:Int)),(2:Int)))
      else none
     else
      if ((decide ((224:Int)≤(IntKind.wrap .i64 (p9 O (0:Int)))))&&(decide ((IntKind.wrap .i64 (p9 O (0:Int)))<(240:Int))))=true then
       if i64 ((IntKind.wrap .i64 (p9 O (0:Int)))- (224:Int)) then
        some (.inl (((IntKind.wrap .i64 (p9 O (0:Int)))- (224:Int)),(3:Int)))
       else none
      else
       if ((decide ((240:Int)≤(IntKind.wrap .i64 (p9 O (0:Int)))))&&(decide ((IntKind.wrap .i64 (p9 O (0:Int)))<(248:Int))))=true then
        if i64 ((IntKind.wrap .i64 (p9 O (0:Int)))- (240:Int)) then
         some (.inl (((IntKind.wrap .i64 (p9 O (0:Int)))- (240:Int)),(4:Int)))
        else none
       else
        some (.inr (((65533:Int),(1:Int))))
   ) fun(Z,aA)=>
  if (decide ((List.length O:Int)<aA))=true then
   some (((65533:Int),(1:Int)))
  else
   qP (pF (AJ O aA) (Z,(1:Int))) fun aB=>
   if (((!(((decide ((0:Int)≤aB))&&(decide (aB≤(1114111:Int))))&&((decide (aB<(55296:Int)))||(decide ((57343:Int)<aB)))))==false)=true→((y6 aB)).isSome=true) then
    if (((!(((decide ((0:Int)≤aB))&&(decide (aB≤(1114111:Int))))&&((decide (aB<(55296:Int)))||(decide ((57343:Int)<aB)))))==false)=true→0≤(0:Int)∧(0:Int)≤aA∧aA≤(List.length O:Int)) then
     if ((!(((decide ((0:Int)≤aB))&&(decide (aB≤(1114111:Int))))&&((decide (aB<(55296:Int)))||(decide ((57343:Int)<aB)))))||(!decide ((val (y6 aB))=(oV O (0:Int) aA))))=true then
      some (((65533:Int),(1:Int)))
     else
      some ((aB,aA))
    else none
   else none
 else none
section
variable (O:(List UInt8))
@[reducible] def ZM:List Slot:=[(.val .str O,none)]
@[reducible] def ZN:List Blk:=[]
@[go_sem] def ZO:Ret:=⟨[((EL O)).isSome=true],[(.val (.int .i64) ((val (EL O)).1),none),(.val (.int .i64) ((val (EL O)).2),none)],[]⟩
def a82:List Slot→List Blk→Option Ret:=pR (V:=(List UInt8)) (fun x=>ZM x) (fun x=>ZN) fun x=>ZO x
@[go_sem] theorem aKe:a82 (no_index (ZM O)) (no_index ZN)=some (ZO O):=pT (fun a0 b0 h1 h2=>by cases h1;cases h2;rfl) O
end
@[reducible,go_sem] def a83:Nat×Sig:=(216,⟨[.v],a82,[],[],none⟩)
theorem u1:Env Tryz.prog [tK,AE,q7] (pK [LS,LT]):=⟨⟨uH,⟨CN,⟨q8,trivial⟩⟩⟩,pA Q0 (pA Q1 pS),pM⟩
theorem aFQ:pN Tryz.prog a83:=by
 refine pU u1 Tryz.func216 (c:=_) rfl (N:=81) (by kernel_rfl) (ts:=[(2,none),(3,none)]) rfl (fun _ _=>rfl) ?_
 intro O hs hrow
 dsimp only[ZM,ZN,ZO,pP,enumH,pB,pL,pQ,Nat.reduceAdd] at hs hrow⊢
 have hz:=hs
 obtain⟨z0,hC0⟩:=Option.isSome_iff_exists.1 hz
 try rw[pY hC0]
 clear hz hs
 unfold EL at hC0
 refine oU u1 ?_
 obtain⟨hg1,hC0⟩:=oY hC0
 refine oU u1 ?_ (hp:=by exact hg1)
 refine p5 ?_
 obtain⟨y1,hC1,hC0⟩:=t8 hC0
 refine vL (fun s=> ∃v,y1= .inl v∧s=(fun x=>⟨[(0,(.val .str O,none)),(4,(.val (.int .i64) x.1,none)),(5,(.val (.int .i64) x.2,none))],[],0,81,0⟩) v) ?_ ?_
 ·refine pV ?_
  refine oU u1 ?_
  refine oZ hC1 (fun hC1 hc1=> ?_) (fun hC1 hc1=> ?_)
  ·refine oU u1 ?_
   refine oW (pC (a64 (p6 ?_)))
   cases hC1
   dsimp only at hC0
   cases hC0
   exact⟨[],by rfl,by rfl,by rfl⟩
  ·refine oU u1 ?_ (hp:=by exact And.intro (fun hh=>hh) ((fun hh=>pZ hh)))
   refine oZ hC1 (fun hC1 hc2=> ?_) (fun hC1 hc2=> ?_)
   ·obtain⟨hg2,hC1⟩:=oY hC1
    refine pH u1 ?_ (hp:=by exact hg2)
    refine pE ?_
    cases hC1
    exact qG ⟨⟨[0,4,5],[]⟩,_,rfl,by rfl⟩
   ·refine oU u1 ?_ (hp:=by exact And.intro (fun hh=>hh) ((fun hh=>pZ hh)))
    refine oZ hC1 (fun hC1 hc3=> ?_) (fun hC1 hc3=> ?_)
    ·obtain⟨hg3,hC1⟩:=oY hC1
     refine pH u1 ?_ (hp:=by exact hg3)
     refine pE ?_
     cases hC1
     exact qG ⟨⟨[0,4,5],[]⟩,_,rfl,by rfl⟩
    ·refine oU u1 ?_ (hp:=by exact And.intro (fun hh=>hh) ((fun hh=>pZ hh)))
     refine oZ hC1 (fun hC1 hc4=> ?_) (fun hC1 hc4=> ?_)
     ·obtain⟨hg4,hC1⟩:=oY hC1
      refine pH u1 ?_ (hp:=by exact hg4)
      refine pE ?_
      cases hC1
      exact qG ⟨⟨[0,4,5],[]⟩,_,rfl,by rfl⟩
     ·refine oU u1 ?_
      refine oW (pC (a64 (p6 ?_)))
      cases hC1
      dsimp only at hC0
      cases hC0
      exact⟨[],by rfl,by rfl,by rfl⟩
 ·rintro _ ⟨v,rfl,rfl⟩
  obtain⟨Z,aA⟩:=v
  dsimp only at hC0⊢
  refine p4 (p5 ?_)
  refine oU u1 ?_
  refine oZ hC0 (fun hC0 hc5=> ?_) (fun hC0 hc5=> ?_)
  ·refine oU u1 ?_
   refine oW (p6 ?_)
   cases hC0
   exact⟨[],by rfl,by rfl,by rfl⟩
  ·refine p7 (p4 (p5 ?_))
   refine oU u1 ?_
   refine pV ?_
   obtain⟨y1,hy1,hC0⟩:=t8 hC0
   refine s9 1 (fun s=> ∃v,y1= .inl v∧s=(fun x=>⟨[(0,(.val .str O,none)),(4,(.val (.int .i64) x,none)),(5,(.val (.int .i64) aA,none))],[],0,81,0⟩) v) ?_ ?_
   ·refine s8 hy1 (fun x=>⟨[(0,(.val .str O,none)),(4,(.val (.int .i64) x.1,none)),(5,(.val (.int .i64) aA,none)),(6,(.val (.int .i64) x.2,none))],[],0,81,0⟩) ⟨[0,4,5,6],[]⟩ (by rfl) ?_
    intro x1 w1 n1 hC1 hN1
    obtain⟨aB,aC⟩:=x1
    unfold AJ at hC1
    dsimp only at hC1⊢
    refine p5 ?_
    refine oU u1 ?_
    refine oZ hC1 (fun hC1 hc6=> ?_) (fun hC1 hc6=> ?_)
    ·refine p7 (p4 (p5 (pV (p5 ?_))))
     obtain⟨hg5,hC1⟩:=oY hC1
     obtain⟨hg6,hC1⟩:=oY hC1
     refine oU u1 ?_ (hp:=by exact And.intro hg5 (And.intro (fun hh=>hh) (And.intro (fun hh=>hh) (And.intro hg6 (And.intro (fun hh=>hh) ((fun hh=>tZ hh)))))))
     refine oZ hC1 (fun hC1 hc7=> ?_) (fun hC1 hc7=> ?_)
     ·refine oU u1 ?_
      refine oW (p6 (pC (p6 (tJ (tI (pC (p6 ?_)))))))
      cases hC1
      cases hN1
      dsimp only at hC0
      cases hC0
      exact⟨[],by rfl,by rfl,by rfl⟩
     ·refine p7 (p4 ?_)
      obtain⟨hg7,hC1⟩:=oY hC1
      obtain⟨hg8,hC1⟩:=oY hC1
      obtain⟨hg9,hC1⟩:=oY hC1
      obtain⟨hg10,hC1⟩:=oY hC1
      refine pH u1 ?_ (hp:=by exact And.intro hg7 (And.intro hg8 (And.intro hg9 (hg10))))
      refine pE (p4 ?_)
      obtain⟨hg11,hC1⟩:=oY hC1
      refine pH u1 ?_ (hp:=by exact hg11)
      cases hC1
      exact qV ⟨⟨[0,4,5,6],[]⟩,_,by rfl,hN1⟩
    ·refine s7 (s3 (sB ?_))
     cases hC1
     cases hN1
     exact sA ⟨⟨[0,4,5],[]⟩,_,rfl,by rfl⟩
   ·rintro _ ⟨aD,rfl,rfl⟩
    dsimp only at hC0⊢
    refine s5 (p4 (p5 ?_))
    obtain⟨hg12,hC0⟩:=oY hC0
    obtain⟨hg13,hC0⟩:=oY hC0
    refine rG u1 ?_ (hp:=by exact And.intro (fun hh=>hh) (And.intro hg12 (And.intro (fun hh=>hh) (And.intro (fun hh=>hh) (And.intro hg13 (And.intro (fun hh=>hh) (And.intro (fun hh=>hh) ((fun hh=>tZ hh)))))))))
    refine oZ hC0 (fun hC0 hc8=> ?_) (fun hC0 hc8=> ?_)
    ·refine oU u1 ?_
     refine oW (p6 ?_)
     cases hC0
     exact⟨[],by rfl,by rfl,by rfl⟩
    ·refine p7 (p4 ?_)
     refine oU u1 ?_
     refine oW ?_
     cases hC0
     exact⟨[],by rfl,by rfl,by rfl⟩
attribute [irreducible] EL
def a84 (O:Int):Unit:=
 ()
section
variable (O:Int)
@[reducible] def ZP:List Slot:=[(.val (.int .i64) O,none)]
@[reducible] def ZQ:List Blk:=[]
@[go_sem] def ZR:Ret:=⟨[],[(.val .bool (((decide ((0:Int)≤O))&&(decide (O≤(1114111:Int))))&&((decide (O<(55296:Int)))||(decide ((57343:Int)<O)))),none)],[]⟩
def a85:List Slot→List Blk→Option Ret:=pR (V:=Int) (fun x=>ZP x) (fun x=>ZQ) fun x=>ZR x
@[go_sem] theorem aKf:a85 (no_index (ZP O)) (no_index ZQ)=some (ZR O):=pT (fun a0 b0 h1 h2=>by cases h1;cases h2;rfl) O
end
@[reducible,go_sem] def a86:Nat×Sig:=(217,⟨[.v],a85,[],[],none⟩)
theorem ZS:Env Tryz.prog [] (pK []):=⟨trivial,pS,pM⟩
theorem aFR:pN Tryz.prog a86:=by
 refine pU ZS Tryz.func217 (c:=_) rfl (N:=17) (by kernel_rfl) (ts:=[(2,none)]) rfl (fun _ _=>rfl) ?_
 intro O hs hrow
 dsimp only[ZP,ZQ,ZR,pP,enumH,pB,pL,pQ,Nat.reduceAdd] at hs hrow⊢
 obtain⟨z0,hC0⟩: ∃z,(a84 O)=z:=⟨_,rfl⟩
 try rw[hC0]
 unfold a84 at hC0
 refine oU ZS ?_
 refine oU ZS ?_ (hp:=by exact And.intro (fun hh=>hh) (And.intro (fun hh=>pZ hh) (And.intro (fun hh=>hh) (And.intro (fun hh=>hh) (And.intro (fun hh=>hh) (And.intro (fun hh=>hh) (And.intro (fun hG hh=>BB hG hh) ((fun hh=>pZ hh)))))))))
 refine oW ?_
 cases hC0
 exact⟨[],by rfl,by rfl,by rfl⟩
def GJ (O:(List Int)) (Z:Int):Option (List Int):=
 if (decide ((IntKind.wrap .u32 Z)≤(2047:Int)))=true then
  if (List.length O+List.length ([(bits .or .u8 (192:Int) (IntKind.wrap .u8 (uU .i32 Z (6:Int)))),(bits .or .u8 (128:Int) (bits .and .u8 (IntKind.wrap .u8 Z) (63:Int)))]:List Int))*1≤140737488355328 then
   some ((O++([(bits .or .u8 (192:Int) (IntKind.wrap .u8 (uU .i32 Z (6:Int)))),(bits .or .u8 (128:Int) (bits .and .u8 (IntKind.wrap .u8 Z) (63:Int)))]:List Int)))
  else none
 else
  pW (σ:=Bool) (
    if (decide ((IntKind.wrap .u32 Z)<(55296:Int)))=true then
     some ((decide ((IntKind.wrap .u32 Z)<(55296:Int))))
    else
     some (((decide ((57343:Int)<(IntKind.wrap .u32 Z)))&&(decide ((IntKind.wrap .u32 Z)≤(65535:Int)))))
   ) fun aA=>
  if aA=true then
   if (List.length O+List.length ([(bits .or .u8 (224:Int) (IntKind.wrap .u8 (uU .i32 Z (12:Int)))),(bits .or .u8 (128:Int) (bits .and .u8 (IntKind.wrap .u8 (uU .i32 Z (6:Int))) (63:Int))),(bits .or .u8 (128:Int) (bits .and .u8 (IntKind.wrap .u8 Z) (63:Int)))]:List Int))*1≤140737488355328 then
    some ((O++([(bits .or .u8 (224:Int) (IntKind.wrap .u8 (uU .i32 Z (12:Int)))),(bits .or .u8 (128:Int) (bits .and .u8 (IntKind.wrap .u8 (uU .i32 Z (6:Int))) (63:Int))),(bits .or .u8 (128:Int) (bits .and .u8 (IntKind.wrap .u8 Z) (63:Int)))]:List Int)))
   else none
  else
   if ((decide ((65535:Int)<(IntKind.wrap .u32 Z)))&&(decide ((IntKind.wrap .u32 Z)≤(1114111:Int))))=true then
    if (List.length O+List.length ([(bits .or .u8 (240:Int) (IntKind.wrap .u8 (uU .i32 Z (18:Int)))),(bits .or .u8 (128:Int) (bits .and .u8 (IntKind.wrap .u8 (uU .i32 Z (12:Int))) (63:Int))),(bits .or .u8 (128:Int) (bits .and .u8 (IntKind.wrap .u8 (uU .i32 Z (6:Int))) (63:Int))),(bits .or .u8 (128:Int) (bits .and .u8 (IntKind.wrap .u8 Z) (63:Int)))]:List Int))*1≤140737488355328 then
     some ((O++([(bits .or .u8 (240:Int) (IntKind.wrap .u8 (uU .i32 Z (18:Int)))),(bits .or .u8 (128:Int) (bits .and .u8 (IntKind.wrap .u8 (uU .i32 Z (12:Int))) (63:Int))),(bits .or .u8 (128:Int) (bits .and .u8 (IntKind.wrap .u8 (uU .i32 Z (6:Int))) (63:Int))),(bits .or .u8 (128:Int) (bits .and .u8 (IntKind.wrap .u8 Z) (63:Int)))]:List Int)))
    else none
   else
    if (List.length O+List.length ([(239:Int),(191:Int),(189:Int)]:List Int))*1≤140737488355328 then
     some ((O++([(239:Int),(191:Int),(189:Int)]:List Int)))
    else none
section
variable (O:(List Int)) (Z:Int) (aA:Nat)
@[reducible] def ZT:List Slot:=[(.val (.list (.int .u8)) O,some 0),(.val (.int .i32) Z,none)]
@[reducible] def ZU:List Blk:=[.grow 5 1 aA]
@[go_sem] def ZV:Ret:=⟨[aA=(List.length O),((GJ O Z)).isSome=true],[(.val (.list (.int .u8)) (val (GJ O Z)),some 0)],[.grow 5 1 (List.length (val (GJ O Z)))]⟩
def a87:List Slot→List Blk→Option Ret:=pR (V:=((List Int)×Int×Nat)) (fun x=>ZT x.1 x.2.1) (fun x=>ZU x.2.2) fun x=>ZV x.1 x.2.1 x.2.2
@[go_sem] theorem aKg:a87 (no_index (ZT O Z)) (no_index (ZU aA))=some (ZV O Z aA):=pT (fun⟨a0,a1,a2⟩ ⟨b0,b1,b2⟩ h1 h2=>by cases h1;cases h2;rfl) (O,Z,aA)
end
@[reducible,go_sem] def a88:Nat×Sig:=(221,⟨[.own,.v],a87,[],[],none⟩)
theorem AK:Env Tryz.prog [AE,L8,AC,PJ] (pK []):=⟨⟨CN,⟨VK,⟨CK,⟨a7z,trivial⟩⟩⟩⟩,pS,pM⟩
theorem aFS:pN Tryz.prog a88:=by
 refine pU AK Tryz.func221 (c:=_) rfl (N:=78) (by kernel_rfl) (ts:=[(4,none)]) rfl (fun _ _=>rfl) ?_
 intro⟨O,Z,aA⟩ hs hrow
 dsimp only[ZT,ZU,ZV,pP,enumH,pB,pL,pQ,Nat.reduceAdd] at hs hrow⊢
 obtain⟨rfl,hz⟩:=hs
 obtain⟨z0,hC0⟩:=Option.isSome_iff_exists.1 hz
 try rw[pY hC0]
 clear hz
 unfold GJ at hC0
 refine oU AK ?_
 refine oU AK ?_
 refine pV ?_
 refine oU AK ?_
 refine oZ hC0 (fun hC0 hc1=> ?_) (fun hC0 hc1=> ?_)
 ·obtain⟨hg1,hC0⟩:=oY hC0
  refine oU AK ?_ (hp:=by exact And.intro (show (0:Int)≤(6:Int) from by decide) (And.intro (by first|exact rfl|exact trivial) (hg1)))
  refine oW (pC ?_)
  cases hC0
  exact⟨[(0,0)],by rfl,by rfl,by rfl⟩
 ·refine p5 ?_
  refine oU AK ?_
  obtain⟨aB,hC1,hC0⟩:=oX hC0
  refine vL (fun s=>s=(fun x=>⟨[(0,(.val (.list (.int .u8)) O,some 0)),(1,(.val (.int .i32) Z,none)),(5,(.val (.int .u32) (IntKind.wrap .u32 Z),none)),(25,(.val .bool x,none))],[(0,.grow 5 1 (List.length O))],1,78,1⟩) aB) ?_ ?_
  ·refine oZ hC1 (fun hC1 hc2=> ?_) (fun hC1 hc2=> ?_)
   ·refine p7 ?_
    cases hC1
    exact qG ⟨⟨[0,1,5,25],[(0,0)]⟩,by rfl⟩
   ·refine pH AK ?_ (hp:=by exact And.intro (fun hh=>hh) ((fun hh=>pZ hh)))
    cases hC1
    exact qG ⟨⟨[0,1,5,25],[(0,0)]⟩,by rfl⟩
  ·rintro _ rfl
   dsimp only at hC0⊢
   refine p4 ?_
   refine oZ hC0 (fun hC0 hc3=> ?_) (fun hC0 hc3=> ?_)
   ·obtain⟨hg2,hC0⟩:=oY hC0
    refine oU AK ?_ (hp:=by exact And.intro (show (0:Int)≤(12:Int) from by decide) (And.intro (show (0:Int)≤(6:Int) from by decide) (And.intro (by first|exact rfl|exact trivial) (hg2))))
    refine oW (pC ?_)
    cases hC0
    exact⟨[(0,0)],by rfl,by rfl,by rfl⟩
   ·refine oU AK ?_ (hp:=by exact And.intro (fun hh=>hh) ((fun hh=>pZ hh)))
    refine oZ hC0 (fun hC0 hc4=> ?_) (fun hC0 hc4=> ?_)
    ·obtain⟨hg3,hC0⟩:=oY hC0
     refine oU AK ?_ (hp:=by exact And.intro (show (0:Int)≤(18:Int) from by decide) (And.intro (show (0:Int)≤(12:Int) from by decide) (And.intro (show (0:Int)≤(6:Int) from by decide) (And.intro (by first|exact rfl|exact trivial) (hg3)))))
     refine oW (pC ?_)
     cases hC0
     exact⟨[(0,0)],by rfl,by rfl,by rfl⟩
    ·obtain⟨hg4,hC0⟩:=oY hC0
     refine oU AK ?_ (hp:=by exact And.intro (by first|exact rfl|exact trivial) (hg4))
     refine oW (pC ?_)
     cases hC0
     exact⟨[(0,0)],by rfl,by rfl,by rfl⟩
attribute [irreducible] GJ
end
end Go.Proofs.YtfchbnahjcdiiaaGreatDoor
namespace Go.Proofs.YtfchbnahjcdiiaaGreatDoor
open Vc
set_option maxRecDepth 100000
set_option maxHeartbeats 4000000
set_option linter.unusedSimpArgs false
set_option linter.unusedVariables false
noncomputable section
def LU (O:(List p8)) (Z:(List UInt8)):Int→Option (Int⊕(Unit⊕Int)):=fun aA=>
 if (decide (aA<(List.length O:Int)))=true then
  if 0≤aA∧aA<(List.length O:Int) then
   if (decide (((pX (.pair .str (.pair .str .unit)) O aA).1)=Z))=true then
    some (.inr (.inr (aA)))
   else
    if i64 (aA+(1:Int)) then
     some (.inl (aA+(1:Int)))
    else none
  else none
 else
  some (.inr (.inl ()))
def IK (O:(List p8)) (Z:(List UInt8)):Option Int:=
 qP (pF (LU O Z) (0:Int)) fun _=>
 some ((-1:Int))
section
variable (O:(List p8)) (Z:(List UInt8))
@[reducible] def ZW:List Slot:=[(.val (.list (.pair .str (.pair .str .unit))) O,none),(.val .clo (some (201,[(0,0)])),none)]
@[reducible] def ZX:List Blk:=[.cells .str Z []]
@[go_sem] def ZY:Ret:=⟨[((IK O Z)).isSome=true],[(.val (.int .i64) (val (IK O Z)),none)],[.cells .str Z []]⟩
def a89:List Slot→List Blk→Option Ret:=pR (V:=((List p8)×(List UInt8))) (fun x=>ZW x.1) (fun x=>ZX x.2) fun x=>ZY x.1 x.2
@[go_sem] theorem aKh:a89 (no_index (ZW O)) (no_index (ZX Z))=some (ZY O Z):=pT (fun⟨a0,a1⟩ ⟨b0,b1⟩ h1 h2=>by cases h1;cases h2;rfl) (O,Z)
end
@[reducible,go_sem] def a9a:Nat×Sig:=(172,⟨[.v,.f [(.str,[])]],a89,[],[0],none⟩)
theorem D0:Env Tryz.prog [CL,CM] (pK [a8U]):=⟨⟨G3,⟨G4,trivial⟩⟩,pA aFN pS,pM⟩
theorem aFT:pN Tryz.prog a9a:=by
 refine pU D0 Tryz.func172 (c:=_) rfl (N:=19) (by kernel_rfl) (ts:=[(4,none)]) rfl (fun _ _=>rfl) ?_
 intro⟨O,Z⟩ hs hrow
 dsimp only[ZW,ZX,ZY,pP,enumH,pB,pL,pQ,Nat.reduceAdd] at hs hrow⊢
 have hz:=hs
 obtain⟨z0,hC0⟩:=Option.isSome_iff_exists.1 hz
 try rw[pY hC0]
 clear hz hs
 unfold IK at hC0
 refine oU D0 ?_
 refine p5 ?_
 refine oU D0 ?_
 refine pV ?_
 obtain⟨y1,hy1,hC0⟩:=t8 hC0
 refine s9 0 (fun s=> ∃v,y1= .inl v∧s=(fun _=>⟨[],[(0,.cells .str Z [])],1,19,1⟩) v) ?_ ?_
 ·refine s8 hy1 (fun x=>⟨[(0,(.val (.list (.pair .str (.pair .str .unit))) O,none)),(1,(.val .clo (some (201,[(0,0)])),none)),(7,(.val (.int .i64) (List.length O:Int),none)),(8,(.val (.int .i64) x,none))],[(0,.cells .str Z [])],1,19,1⟩) ⟨[0,1,7,8],[(0,0)]⟩ (by rfl) ?_
  intro aA w1 n1 hC1 hN1
  unfold LU at hC1
  dsimp only at hC1⊢
  refine oU D0 ?_
  refine p5 ?_
  refine oZ hC1 (fun hC1 hc1=> ?_) (fun hC1 hc1=> ?_)
  ·refine p7 (p4 (p5 (pV ?_)))
   refine oU D0 ?_
   obtain⟨hg1,hC1⟩:=oY hC1
   refine oU D0 ?_ (hp:=by exact And.intro hg1 ((by first|exact rfl|exact trivial)))
   refine oZ hC1 (fun hC1 hc2=> ?_) (fun hC1 hc2=> ?_)
   ·refine oU D0 ?_
    refine oW (pC (p6 (tJ (tI (pC (p6 ?_))))))
    cases hC1
    cases hN1
    dsimp only at hC0
    cases hC0
    exact⟨[(0,0)],by rfl,by rfl,by rfl⟩
   ·refine p7 (pE (p4 ?_))
    obtain⟨hg2,hC1⟩:=oY hC1
    refine pH D0 ?_ (hp:=by exact hg2)
    cases hC1
    exact qV ⟨⟨[0,1,7,8],[(0,0)]⟩,_,by rfl,hN1⟩
  ·refine s7 (s3 (sB ?_))
   cases hC1
   cases hN1
   exact sA ⟨⟨[],[(0,0)]⟩,_,rfl,by rfl⟩
 ·rintro _ ⟨v,rfl,rfl⟩
  dsimp only at hC0⊢
  refine s5 (p4 ?_)
  refine oU D0 ?_
  refine oW ?_
  cases hC0
  exact⟨[(0,0)],by rfl,by rfl,by rfl⟩
attribute [irreducible] IK
def LV (O:(List p8)) (Z:(List UInt8)):Int→Option (Int⊕(Unit⊕Int)):=fun aA=>
 if (decide (aA<(List.length O:Int)))=true then
  if 0≤aA∧aA<(List.length O:Int) then
   if (!(Op.bytesLess ((pX (.pair .str (.pair .str .unit)) O aA).1) Z||decide (((pX (.pair .str (.pair .str .unit)) O aA).1)=Z)))=true then
    some (.inr (.inr (aA)))
   else
    if i64 (aA+(1:Int)) then
     some (.inl (aA+(1:Int)))
    else none
  else none
 else
  some (.inr (.inl ()))
def IL (O:(List p8)) (Z:(List UInt8)):Option Int:=
 qP (pF (LV O Z) (0:Int)) fun _=>
 some ((-1:Int))
section
variable (O:(List p8)) (Z:(List UInt8))
@[reducible] def ZZ:List Slot:=[(.val (.list (.pair .str (.pair .str .unit))) O,none),(.val .clo (some (173,[(0,0)])),none)]
@[reducible] def a0a:List Blk:=[.cells .str Z []]
@[go_sem] def a0b:Ret:=⟨[((IL O Z)).isSome=true],[(.val (.int .i64) (val (IL O Z)),none)],[.cells .str Z []]⟩
def a9b:List Slot→List Blk→Option Ret:=pR (V:=((List p8)×(List UInt8))) (fun x=>ZZ x.1) (fun x=>a0a x.2) fun x=>a0b x.1 x.2
@[go_sem] theorem aKi:a9b (no_index (ZZ O)) (no_index (a0a Z))=some (a0b O Z):=pT (fun⟨a0,a1⟩ ⟨b0,b1⟩ h1 h2=>by cases h1;cases h2;rfl) (O,Z)
end
@[reducible,go_sem] def a9c:Nat×Sig:=(172,⟨[.v,.f [(.str,[])]],a9b,[],[0],none⟩)
theorem D1:Env Tryz.prog [CL,CM] (pK [a8K]):=⟨⟨G3,⟨G4,trivial⟩⟩,pA aFM pS,pM⟩
theorem aFU:pN Tryz.prog a9c:=by
 refine pU D1 Tryz.func172 (c:=_) rfl (N:=19) (by kernel_rfl) (ts:=[(4,none)]) rfl (fun _ _=>rfl) ?_
 intro⟨O,Z⟩ hs hrow
 dsimp only[ZZ,a0a,a0b,pP,enumH,pB,pL,pQ,Nat.reduceAdd] at hs hrow⊢
 have hz:=hs
 obtain⟨z0,hC0⟩:=Option.isSome_iff_exists.1 hz
 try rw[pY hC0]
 clear hz hs
 unfold IL at hC0
 refine oU D1 ?_
 refine p5 ?_
 refine oU D1 ?_
 refine pV ?_
 obtain⟨y1,hy1,hC0⟩:=t8 hC0
 refine s9 0 (fun s=> ∃v,y1= .inl v∧s=(fun _=>⟨[],[(0,.cells .str Z [])],1,19,1⟩) v) ?_ ?_
 ·refine s8 hy1 (fun x=>⟨[(0,(.val (.list (.pair .str (.pair .str .unit))) O,none)),(1,(.val .clo (some (173,[(0,0)])),none)),(7,(.val (.int .i64) (List.length O:Int),none)),(8,(.val (.int .i64) x,none))],[(0,.cells .str Z [])],1,19,1⟩) ⟨[0,1,7,8],[(0,0)]⟩ (by rfl) ?_
  intro aA w1 n1 hC1 hN1
  unfold LV at hC1
  dsimp only at hC1⊢
  refine oU D1 ?_
  refine p5 ?_
  refine oZ hC1 (fun hC1 hc1=> ?_) (fun hC1 hc1=> ?_)
  ·refine p7 (p4 (p5 (pV ?_)))
   refine oU D1 ?_
   obtain⟨hg1,hC1⟩:=oY hC1
   refine oU D1 ?_ (hp:=by exact And.intro hg1 ((by first|exact rfl|exact trivial)))
   refine oZ hC1 (fun hC1 hc2=> ?_) (fun hC1 hc2=> ?_)
   ·refine oU D1 ?_
    refine oW (pC (p6 (tJ (tI (pC (p6 ?_))))))
    cases hC1
    cases hN1
    dsimp only at hC0
    cases hC0
    exact⟨[(0,0)],by rfl,by rfl,by rfl⟩
   ·refine p7 (pE (p4 ?_))
    obtain⟨hg2,hC1⟩:=oY hC1
    refine pH D1 ?_ (hp:=by exact hg2)
    cases hC1
    exact qV ⟨⟨[0,1,7,8],[(0,0)]⟩,_,by rfl,hN1⟩
  ·refine s7 (s3 (sB ?_))
   cases hC1
   cases hN1
   exact sA ⟨⟨[],[(0,0)]⟩,_,rfl,by rfl⟩
 ·rintro _ ⟨v,rfl,rfl⟩
  dsimp only at hC0⊢
  refine s5 (p4 ?_)
  refine oU D1 ?_
  refine oW ?_
  cases hC0
  exact⟨[(0,0)],by rfl,by rfl,by rfl⟩
attribute [irreducible] IL
def EM (O:(List p8)):Option (List p8):=
 if (0+List.length O)*32≤140737488355328 then
  some ((([]:List p8)++O))
 else none
section
variable (O:(List p8))
@[reducible] def a0c:List Slot:=[(.val (.list (.pair .str (.pair .str .unit))) O,none)]
@[reducible] def a0d:List Blk:=[]
@[go_sem] def a0e:Ret:=⟨[((EM O)).isSome=true],[(.own 0 (List.length (val (EM O))),none)],[.row 144 (.pair .str (.pair .str .unit)) (val (EM O)) (List.length (val (EM O)))]⟩
def a9d:List Slot→List Blk→Option Ret:=pR (V:=(List p8)) (fun x=>a0c x) (fun x=>a0d) fun x=>a0e x
@[go_sem] theorem aKj:a9d (no_index (a0c O)) (no_index a0d)=some (a0e O):=pT (fun a0 b0 h1 h2=>by cases h1;cases h2;rfl) O
end
@[reducible,go_sem] def a9e:Nat×Sig:=(170,⟨[.v],a9d,[],[],none⟩)
theorem LW:Env Tryz.prog [LA] (pK []):=⟨⟨VL,trivial⟩,pS,pM⟩
theorem aFV:pN Tryz.prog a9e:=by
 refine pU LW Tryz.func170 (c:=_) rfl (N:=8) (by kernel_rfl) (ts:=[(2,none)]) rfl (fun _ _=>rfl) ?_
 intro O hs hrow
 dsimp only[a0c,a0d,a0e,pP,enumH,pB,pL,pQ,Nat.reduceAdd] at hs hrow⊢
 have hz:=hs
 obtain⟨z0,hC0⟩:=Option.isSome_iff_exists.1 hz
 try rw[pY hC0]
 clear hz hs
 unfold EM at hC0
 refine oU LW ?_
 refine p5 ?_
 refine oU LW ?_
 refine aEA (by simp only[go_sem];rfl) (fun hnil=> ?_) (fun hnil=> ?_)
 ·subst hnil
  obtain⟨_,hC0⟩:=oY hC0
  refine oU LW ?_
  refine oW (p6 ?_)
  cases hC0
  exact⟨[(0,96)],by rfl,by rfl,by rfl⟩
 ·refine p7 (p4 ?_)
  obtain⟨hg1,hC0⟩:=oY hC0
  refine oU LW ?_ (hp:=by exact And.intro (by first|exact rfl|exact trivial) (hg1))
  refine oW ?_
  cases hC0
  exact⟨[(0,96)],by rfl,by rfl,by rfl⟩
attribute [irreducible] EM
def a9f:Unit:=
 ()
section
@[reducible] def a0g:List Slot:=[]
@[reducible] def a0h:List Blk:=[]
@[go_sem] def a0i:Ret:=⟨[],[(.val (.list .str) ([([110,101,119]:List UInt8),([102,117,122,122,121]:List UInt8),([116,114,97,110,115,108,97,116,101,100]:List UInt8),([114,101,118,105,101,119,101,100]:List UInt8),([111,98,115,111,108,101,116,101]:List UInt8)]:List (List UInt8)),none)],[]⟩
def a9g:List Slot→List Blk→Option Ret:=pR (V:=Unit) (fun x=>a0g) (fun x=>a0h) fun x=>a0i
@[go_sem] theorem aKk:a9g (no_index a0g) (no_index a0h)=some a0i:=pT (fun _ _ h1 h2=>by cases h1;cases h2;rfl) ()
end
@[reducible,go_sem] def Q4:Nat×Sig:=(127,⟨[],a9g,[],[],none⟩)
theorem a0j:Env Tryz.prog [v8] (pK []):=⟨⟨vV,trivial⟩,pS,pM⟩
theorem a9h:pN Tryz.prog Q4:=by
 refine pU a0j Tryz.func127 (c:=_) rfl (N:=2) (by kernel_rfl) (ts:=[(0,none)]) rfl (fun _ _=>rfl) ?_
 intro⟨⟩ hs hrow
 dsimp only[a0g,a0h,a0i,pP,enumH,pB,pL,pQ,Nat.reduceAdd] at hs hrow⊢
 obtain⟨z0,hC0⟩: ∃z,a9f=z:=⟨_,rfl⟩
 try rw[hC0]
 unfold a9f at hC0
 refine oU a0j ?_
 refine oU a0j ?_
 refine oW ?_
 cases hC0
 exact⟨[],by rfl,by rfl,by rfl⟩
end
end Go.Proofs.YtfchbnahjcdiiaaGreatDoor
namespace Go.Proofs.YtfchbnahjcdiiaaGreatDoor
open Vc
set_option maxRecDepth 100000
set_option maxHeartbeats 4000000
set_option linter.unusedSimpArgs false
set_option linter.unusedVariables false
noncomputable section
def LX (O:(List UInt8)) (Z:(List Int)):((List (List UInt8))×Int×Int)→Option (((List (List UInt8))×Int×Int)⊕((List (List UInt8))×Int)):=fun(aA,aB,aC)=>
 if (decide (aC<(List.length Z:Int)))=true then
  if 0≤aC∧aC<(List.length Z:Int) then
   if 0≤aB∧aB≤(pX (.int .i64) Z aC)∧(pX (.int .i64) Z aC)≤(List.length O:Int) then
    if (List.length aA+List.length ([(oV O aB (pX (.int .i64) Z aC))]:List (List UInt8)))*16≤140737488355328 then
     if 0≤aC∧aC<(List.length Z:Int) then
      if i64 (aC+(1:Int)) then
       some (.inl ((aA++([(oV O aB (pX (.int .i64) Z aC))]:List (List UInt8))),(pX (.int .i64) Z aC),(aC+(1:Int))))
      else none
     else none
    else none
   else none
  else none
 else
  some (.inr (aA,aB))
def D2 (O:(List UInt8)) (Z:(List Int)):Option ((List UInt8)×(List (List UInt8))×(List UInt8)):=
 pW (pF (LX O Z) (([]:List (List UInt8)),(0:Int),(0:Int))) fun(aA,aB)=>
 if 0≤aB∧aB≤(List.length O:Int)∧(List.length O:Int)≤(List.length O:Int) then
  if (List.length aA+List.length ([(oV O aB (List.length O:Int))]:List (List UInt8)))*16≤140737488355328 then
   (IC (aA++([(oV O aB (List.length O:Int))]:List (List UInt8)))).bind fun aC=>
   some (((pX .str (aA++([(oV O aB (List.length O:Int))]:List (List UInt8))) (0:Int)),(([]:List (List UInt8))++(oV (aA++([(oV O aB (List.length O:Int))]:List (List UInt8))) (1:Int) ((List.length (aA++([(oV O aB (List.length O:Int))]:List (List UInt8))):Int)- (1:Int)))),(pX .str (aA++([(oV O aB (List.length O:Int))]:List (List UInt8))) ((List.length (aA++([(oV O aB (List.length O:Int))]:List (List UInt8))):Int)- (1:Int)))))
  else none
 else none
section
variable (O:(List UInt8)) (Z:(List Int))
@[reducible] def a0k:List Slot:=[(.val .str O,none),(.val (.list (.int .i64)) Z,none)]
@[reducible] def a0l:List Blk:=[]
@[go_sem] def a0m:Ret:=⟨[((D2 O Z)).isSome=true],[(.val vM ((val (D2 O Z)).1,((val (D2 O Z)).2.1,((val (D2 O Z)).2.2,()))),none)],[]⟩
def a9i:List Slot→List Blk→Option Ret:=pR (V:=((List UInt8)×(List Int))) (fun x=>a0k x.1 x.2) (fun x=>a0l) fun x=>a0m x.1 x.2
@[go_sem] theorem aKl:a9i (no_index (a0k O Z)) (no_index a0l)=some (a0m O Z):=pT (fun⟨a0,a1⟩ ⟨b0,b1⟩ h1 h2=>by cases h1;cases h2;rfl) (O,Z)
end
@[reducible,go_sem] def a9j:Nat×Sig:=(31,⟨[.v,.v],a9i,[],[],none⟩)
theorem BH:Env Tryz.prog [tK,q7,v8,BE,AF] (pK [a7R]):=⟨⟨uH,⟨q8,⟨vV,⟨E6,⟨CO,trivial⟩⟩⟩⟩⟩,pA aFu pS,pM⟩
theorem aFW:pN Tryz.prog a9j:=by
 refine pU BH Tryz.func31 (c:=_) rfl (N:=35) (by kernel_rfl) (ts:=[(4,some 37)]) rfl (fun _ _=>rfl) ?_
 intro⟨O,Z⟩ hs hrow
 dsimp only[a0k,a0l,a0m,pP,enumH,pB,pL,pQ,Nat.reduceAdd] at hs hrow⊢
 have hz:=hs
 obtain⟨z0,hC0⟩:=Option.isSome_iff_exists.1 hz
 try rw[pY hC0]
 clear hz hs
 unfold D2 at hC0
 refine oU BH ?_
 refine oU BH ?_
 refine oU BH ?_
 refine p5 ?_
 refine oU BH ?_
 refine pV ?_
 obtain⟨y1,hy1,hC0⟩:=oX hC0
 refine s9 0 (fun s=>s=(fun x=>⟨[(0,(.val .str O,none)),(4,(.val .ref (some (0,0)),none)),(5,(.val (.list .str) x.1,some 1)),(6,(.val (.int .i64) x.2,none))],[(0,.cells vM (([]:List UInt8),(([]:List (List UInt8)),(([]:List UInt8),()))) [(1,2)]),(1,.grow 9 1 (List.length x.1)),(2,.grow 9 1 (List.length ([]:List (List UInt8))))],3,35,0⟩) y1) ?_ ?_
 ·refine s8 hy1 (fun x=>⟨[(0,(.val .str O,none)),(1,(.val (.list (.int .i64)) Z,none)),(4,(.val .ref (some (0,0)),none)),(5,(.val (.list .str) x.1,some 1)),(6,(.val (.int .i64) x.2.1,none)),(7,(.val (.int .i64) x.2.2,none))],[(0,.cells vM (([]:List UInt8),(([]:List (List UInt8)),(([]:List UInt8),()))) [(1,2)]),(1,.grow 9 1 (List.length x.1)),(2,.grow 9 1 (List.length ([]:List (List UInt8))))],3,35,0⟩) ⟨[0,1,4,5,6,7],[(0,0),(1,32),(2,1)]⟩ (by rfl) ?_
  intro x1 w1 n1 hC1 hN1
  obtain⟨aA,aB,aC⟩:=x1
  unfold LX at hC1
  dsimp only at hC1⊢
  refine p5 ?_
  refine oU BH ?_
  refine oZ hC1 (fun hC1 hc1=> ?_) (fun hC1 hc1=> ?_)
  ·refine p7 (p4 (p5 (pV ?_)))
   obtain⟨hg1,hC1⟩:=oY hC1
   obtain⟨hg2,hC1⟩:=oY hC1
   obtain⟨hg3,hC1⟩:=oY hC1
   refine oU BH ?_ (hp:=by exact And.intro hg1 (And.intro hg2 (And.intro (by first|exact rfl|exact trivial) (hg3))))
   obtain⟨hg4,hC1⟩:=oY hC1
   refine pH BH ?_ (hp:=by exact hg4)
   refine pE (p4 ?_)
   obtain⟨hg5,hC1⟩:=oY hC1
   refine pH BH ?_ (hp:=by exact hg5)
   cases hC1
   exact qV ⟨⟨[0,1,4,5,6,7],[(0,0),(1,1),(2,2)]⟩,_,by rfl,hN1⟩
  ·refine s7 (s3 (sB ?_))
   cases hC1
   cases hN1
   exact sA ⟨⟨[0,4,5,6],[(0,0),(1,1),(2,2)]⟩,by rfl⟩
 ·rintro _ rfl
  obtain⟨aD,aE⟩:=y1
  dsimp only at hC0⊢
  refine s5 (p4 ?_)
  obtain⟨hg6,hC0⟩:=oY hC0
  obtain⟨hg7,hC0⟩:=oY hC0
  obtain⟨aF,hv8,hw8,hC0⟩:=pJ hC0
  try simp only[go_sem] at hw8
  refine oU BH ?_ (hp:=by exact And.intro hg6 (And.intro (by first|exact rfl|exact trivial) (And.intro hg7 ((pI hv8))))) (h:=by simp only[go_sem,hw8];rfl)
  refine oW ?_
  cases hC0
  exact⟨[],by rfl,by rfl,by rfl⟩
attribute [irreducible] D2
def LY (O:uF) (Z:uF):((List (Int×((List UInt8)×Unit)))×Int)→Option (((List (Int×((List UInt8)×Unit)))×Int)⊕(List (Int×((List UInt8)×Unit)))):=fun(aA,aB)=>
 if (decide (aB<(List.length ((([O.1]:List (List UInt8))++O.2.1)++([O.2.2.1]:List (List UInt8))):Int)))=true then
  if 0≤aB∧aB<(List.length ((([O.1]:List (List UInt8))++O.2.1)++([O.2.2.1]:List (List UInt8))):Int) then
   if 0≤aB∧aB<(List.length ((([Z.1]:List (List UInt8))++Z.2.1)++([Z.2.2.1]:List (List UInt8))):Int) then
    if (!decide ((pX .str ((([O.1]:List (List UInt8))++O.2.1)++([O.2.2.1]:List (List UInt8))) aB)=(pX .str ((([Z.1]:List (List UInt8))++Z.2.1)++([Z.2.2.1]:List (List UInt8))) aB)))=true then
     if 0≤aB∧aB<(List.length ((([O.1]:List (List UInt8))++O.2.1)++([O.2.2.1]:List (List UInt8))):Int) then
      if (List.length aA+List.length ([(aB,((pX .str ((([O.1]:List (List UInt8))++O.2.1)++([O.2.2.1]:List (List UInt8))) aB),()))]:List (Int×((List UInt8)×Unit))))*24≤140737488355328 then
       if i64 (aB+(1:Int)) then
        some (.inl ((aA++([(aB,((pX .str ((([O.1]:List (List UInt8))++O.2.1)++([O.2.2.1]:List (List UInt8))) aB),()))]:List (Int×((List UInt8)×Unit)))),(aB+(1:Int))))
       else none
      else none
     else none
    else
     if i64 (aB+(1:Int)) then
      some (.inl (aA,(aB+(1:Int))))
     else none
   else none
  else none
 else
  some (.inr aA)
def D3 (O:uF) (Z:uF):Option ((List (Int×((List UInt8)×Unit)))×Int):=
 if (!decide ((List.length O.2.1:Int)=(List.length Z.2.1:Int)))=true then
  some ((([]:List (Int×((List UInt8)×Unit))),(1:Int)))
 else
  (G9 O).bind fun aA=>
  (G9 Z).bind fun aB=>
  pW (pF (LY O Z) (([]:List (Int×((List UInt8)×Unit))),(0:Int))) fun aC=>
  some ((aC,(0:Int)))
section
variable (O:uF) (Z:uF)
@[reducible] def a0n:List Slot:=[(.val vM O,none),(.val vM Z,none)]
@[reducible] def a0o:List Blk:=[]
@[go_sem] def a0p:Ret:=⟨[((D3 O Z)).isSome=true],[(.val (.list L3) ((val (D3 O Z)).1),some 0),(.val (.int .i64) ((val (D3 O Z)).2),none)],[.grow 100 2 (List.length ((val (D3 O Z)).1))]⟩
def a9k:List Slot→List Blk→Option Ret:=pR (V:=(uF×uF)) (fun x=>a0n x.1 x.2) (fun x=>a0o) fun x=>a0p x.1 x.2
@[go_sem] theorem aKm:a9k (no_index (a0n O Z)) (no_index a0o)=some (a0p O Z):=pT (fun⟨a0,a1⟩ ⟨b0,b1⟩ h1 h2=>by cases h1;cases h2;rfl) (O,Z)
end
@[reducible,go_sem] def a9l:Nat×Sig:=(32,⟨[.v,.v],a9k,[],[],none⟩)
theorem yV:Env Tryz.prog [q7,v8,BE,PL,VM] (pK [a7T]):=⟨⟨q8,⟨vV,⟨E6,⟨a7A,⟨aFm,trivial⟩⟩⟩⟩⟩,pA aFv pS,pM⟩
theorem aFX:pN Tryz.prog a9l:=by
 refine pU yV Tryz.func32 (c:=_) rfl (N:=46) (by kernel_rfl) (ts:=[(4,none),(5,none)]) rfl (fun _ _=>rfl) ?_
 intro⟨O,Z⟩ hs hrow
 dsimp only[a0n,a0o,a0p,pP,enumH,pB,pL,pQ,Nat.reduceAdd] at hs hrow⊢
 have hz:=hs
 obtain⟨z0,hC0⟩:=Option.isSome_iff_exists.1 hz
 try rw[pY hC0]
 clear hz hs
 unfold D3 at hC0
 refine oU yV ?_
 refine p5 ?_
 refine oU yV ?_
 refine oZ hC0 (fun hC0 hc1=> ?_) (fun hC0 hc1=> ?_)
 ·refine oU yV ?_
  refine oW (p6 ?_)
  cases hC0
  exact⟨[(0,352)],by rfl,by rfl,by rfl⟩
 ·refine p7 (p4 ?_)
  refine oU yV ?_
  obtain⟨aA,hv1,hw1,hC0⟩:=pJ hC0
  try simp only[go_sem] at hw1
  obtain⟨aB,hv2,hw2,hC0⟩:=pJ hC0
  try simp only[go_sem] at hw2
  refine rG yV ?_ (hp:=by exact And.intro (pI hv1) ((pI hv2))) (h:=by simp only[go_sem,hw1,hw2];rfl)
  refine p5 ?_
  refine oU yV ?_
  refine pV ?_
  obtain⟨aC,hy1,hC0⟩:=oX hC0
  refine s9 0 (fun s=>s=(fun x=>⟨[(6,(.val (.list L3) x,some 0))],[(0,.grow 100 2 (List.length x))],1,46,0⟩) aC) ?_ ?_
  ·refine s8 hy1 (fun x=>⟨[(6,(.val (.list L3) x.1,some 0)),(7,(.val (.list .str) ((([O.1]:List (List UInt8))++O.2.1)++([O.2.2.1]:List (List UInt8))),some 1)),(8,(.val (.list .str) ((([Z.1]:List (List UInt8))++Z.2.1)++([Z.2.2.1]:List (List UInt8))),some 2)),(9,(.val (.int .i64) x.2,none))],[(0,.grow 100 2 (List.length x.1)),(1,.grow 9 1 (List.length ((([O.1]:List (List UInt8))++O.2.1)++([O.2.2.1]:List (List UInt8))))),(2,.grow 9 1 (List.length ((([Z.1]:List (List UInt8))++Z.2.1)++([Z.2.2.1]:List (List UInt8)))))],3,46,0⟩) ⟨[6,7,8,9],[(0,352),(1,416),(2,480)]⟩ (by rfl) ?_
   intro x1 w1 n1 hC1 hN1
   obtain⟨aD,aE⟩:=x1
   unfold LY at hC1
   dsimp only at hC1⊢
   refine p5 ?_
   refine oU yV ?_
   refine oZ hC1 (fun hC1 hc2=> ?_) (fun hC1 hc2=> ?_)
   ·refine p7 (p4 (p5 (pV ?_)))
    obtain⟨hg3,hC1⟩:=oY hC1
    obtain⟨hg4,hC1⟩:=oY hC1
    refine rG yV ?_ (hp:=by exact And.intro hg3 (hg4))
    refine oZ hC1 (fun hC1 hc3=> ?_) (fun hC1 hc3=> ?_)
    ·obtain⟨hg5,hC1⟩:=oY hC1
     obtain⟨hg6,hC1⟩:=oY hC1
     refine pH yV ?_ (hp:=by exact And.intro hg5 (And.intro (by first|exact rfl|exact trivial) (hg6)))
     refine pE (p4 ?_)
     obtain⟨hg7,hC1⟩:=oY hC1
     refine pH yV ?_ (hp:=by exact hg7)
     cases hC1
     exact qV ⟨⟨[6,7,8,9],[(0,0),(1,1),(2,2)]⟩,_,by rfl,hN1⟩
    ·refine p7 (pE (p4 ?_))
     obtain⟨hg8,hC1⟩:=oY hC1
     refine pH yV ?_ (hp:=by exact hg8)
     cases hC1
     exact qV ⟨⟨[6,7,8,9],[(0,0),(1,1),(2,2)]⟩,_,by rfl,hN1⟩
   ·refine s7 (s3 (sB ?_))
    cases hC1
    cases hN1
    exact sA ⟨⟨[6],[(0,0)]⟩,by rfl⟩
  ·rintro _ rfl
   dsimp only at hC0⊢
   refine s5 (p4 ?_)
   refine oU yV ?_
   refine oW ?_
   cases hC0
   exact⟨[(0,0)],by rfl,by rfl,by rfl⟩
attribute [irreducible] D3
def D4 (O:(List UInt8)) (Z:(List UInt8)):Option Unit:=
 (CV O Z).bind fun aA=>
 some (())
section
variable (O:(List UInt8)) (Z:(List UInt8))
@[reducible] def a0q:List Slot:=[(.val .str O,none),(.val .str Z,none)]
@[reducible] def a0r:List Blk:=[]
@[go_sem] def a0s:Ret:=⟨[((D4 O Z)).isSome=true],[(.val .bool ((decide ((List.length Z:Int)≤(List.length O:Int)))&&(decide ((oV O (0:Int) (List.length Z:Int))=Z))),none)],[]⟩
def a9m:List Slot→List Blk→Option Ret:=pR (V:=((List UInt8)×(List UInt8))) (fun x=>a0q x.1 x.2) (fun x=>a0r) fun x=>a0s x.1 x.2
@[go_sem] theorem aKn:a9m (no_index (a0q O Z)) (no_index a0r)=some (a0s O Z):=pT (fun⟨a0,a1⟩ ⟨b0,b1⟩ h1 h2=>by cases h1;cases h2;rfl) (O,Z)
end
@[reducible,go_sem] def a0t:Nat×Sig:=(85,⟨[.v,.v],a9m,[],[],none⟩)
theorem a0u:Env Tryz.prog [] (pK [PV]):=⟨trivial,pA XP pS,pM⟩
theorem a9n:pN Tryz.prog a0t:=by
 refine pU a0u Tryz.func85 (c:=_) rfl (N:=8) (by kernel_rfl) (ts:=[(4,none)]) rfl (fun _ _=>rfl) ?_
 intro⟨O,Z⟩ hs hrow
 dsimp only[a0q,a0r,a0s,pP,enumH,pB,pL,pQ,Nat.reduceAdd] at hs hrow⊢
 have hz:=hs
 obtain⟨z0,hC0⟩:=Option.isSome_iff_exists.1 hz
 try rw[pY hC0]
 clear hz hs
 unfold D4 at hC0
 refine oU a0u ?_
 obtain⟨aA,hv1,hw1,hC0⟩:=pJ hC0
 try simp only[go_sem] at hw1
 refine oU a0u ?_ (hp:=by exact(pI hv1)) (h:=by simp only[go_sem,hw1];rfl)
 refine oW ?_
 cases hC0
 exact⟨[],by rfl,by rfl,by rfl⟩
attribute [irreducible] D4
end
end Go.Proofs.YtfchbnahjcdiiaaGreatDoor
namespace Go.Proofs.YtfchbnahjcdiiaaGreatDoor
open Vc
set_option maxRecDepth 100000
set_option maxHeartbeats 4000000
set_option linter.unusedSimpArgs false
set_option linter.unusedVariables false
noncomputable section
def D5 (O:rO) (Z:CH) (aA:CI):Option ((List dT1)×Int):=
 if ((aA.2.2.2.1||(decide (aA.2.1=([]:List UInt8))))||(decide ((200:Int)<(List.length aA.2.1:Int))))=true then
  some ((O.2.2.2.1,(3:Int)))
 else
  (CS O aA.2.1).bind fun aB=>
  if aB.2=true then
   some ((O.2.2.2.1,(9:Int)))
  else
   if (decide ((1000:Int)≤(List.length O.2.2.2.1:Int)))=true then
    some ((O.2.2.2.1,(6:Int)))
   else
    if (List.length ([]:List dT1)+List.length O.2.2.2.1)*128≤140737488355328 then
     if (List.length (([]:List dT1)++O.2.2.2.1)+List.length ([(aA.2.1,(Z.1.2.1,(aA.2.2.1,Z.1.2.2.2)))]:List dT1))*128≤140737488355328 then
      some ((((([]:List dT1)++O.2.2.2.1)++([(aA.2.1,(Z.1.2.1,(aA.2.2.1,Z.1.2.2.2)))]:List dT1)),(0:Int)))
     else none
    else none
section
variable (O:rO) (Z:CH) (aA:CI)
@[reducible] def a0v:List Slot:=[(.val v6 O,none),(.val yS Z,none),(.val E3 aA,none)]
@[reducible] def a0w:List Blk:=[]
@[go_sem] def a0x:Ret:=⟨[((D5 O Z aA)).isSome=true],[(.val v6 (O.1,(O.2.1,(O.2.2.1,((val (D5 O Z aA)).1,())))),none),(.val (.int .i64) ((val (D5 O Z aA)).2),none)],[]⟩
def a9o:List Slot→List Blk→Option Ret:=pR (V:=(rO×CH×CI)) (fun x=>a0v x.1 x.2.1 x.2.2) (fun x=>a0w) fun x=>a0x x.1 x.2.1 x.2.2
@[go_sem] theorem aKo:a9o (no_index (a0v O Z aA)) (no_index a0w)=some (a0x O Z aA):=pT (fun⟨a0,a1,a2⟩ ⟨b0,b1,b2⟩ h1 h2=>by cases h1;cases h2;rfl) (O,Z,aA)
end
@[reducible,go_sem] def a9p:Nat×Sig:=(62,⟨[.v,.v,.v],a9o,[],[],none⟩)
theorem zN:Env Tryz.prog [yT,q7,G6,y3,E8,I8,EA] (pK [a74]):=⟨⟨AD,⟨q8,⟨L9,⟨zK,⟨I5,⟨PM,⟨I9,trivial⟩⟩⟩⟩⟩⟩⟩,pA aFy pS,pM⟩
theorem aFY:pN Tryz.prog a9p:=by
 refine pU zN Tryz.func62 (c:=_) rfl (N:=56) (by kernel_rfl) (ts:=[(6,some 27),(7,none)]) rfl (fun _ _=>rfl) ?_
 intro⟨O,Z,aA⟩ hs hrow
 dsimp only[a0v,a0w,a0x,pP,enumH,pB,pL,pQ,Nat.reduceAdd] at hs hrow⊢
 have hz:=hs
 obtain⟨z0,hC0⟩:=Option.isSome_iff_exists.1 hz
 try rw[pY hC0]
 clear hz hs
 unfold D5 at hC0
 refine oU zN ?_
 refine p5 ?_
 refine oU zN ?_ (hp:=by exact And.intro (fun hh=>hh) (And.intro (fun hh=>hh) (And.intro (fun hh=>tZ hh) (And.intro (fun hh=>hh) (And.intro (fun hh=>hh) (And.intro (fun hh=>hh) ((fun hh=>tZ hh))))))))
 refine oZ hC0 (fun hC0 hc1=> ?_) (fun hC0 hc1=> ?_)
 ·refine oU zN ?_
  refine oW (p6 ?_)
  cases hC0
  exact⟨[],by rfl,by rfl,by rfl⟩
 ·refine p7 (p4 (p5 ?_))
  obtain⟨aB,hv1,hw1,hC0⟩:=pJ hC0
  try simp only[go_sem] at hw1
  refine oU zN ?_ (hp:=by exact(pI hv1)) (h:=by simp only[go_sem,hw1];rfl)
  refine oU zN ?_
  refine oZ hC0 (fun hC0 hc2=> ?_) (fun hC0 hc2=> ?_)
  ·refine oU zN ?_
   refine oW (p6 ?_)
   cases hC0
   exact⟨[],by rfl,by rfl,by rfl⟩
  ·refine p7 (p4 (p5 ?_))
   refine oU zN ?_
   refine oZ hC0 (fun hC0 hc3=> ?_) (fun hC0 hc3=> ?_)
   ·refine oU zN ?_
    refine oW (p6 ?_)
    cases hC0
    exact⟨[],by rfl,by rfl,by rfl⟩
   ·refine p7 (p4 ?_)
    refine rG zN ?_
    obtain⟨hg2,hC0⟩:=oY hC0
    obtain⟨hg3,hC0⟩:=oY hC0
    refine rG zN ?_ (hp:=by exact And.intro (by first|exact rfl|exact trivial) (And.intro hg2 (And.intro (by first|exact rfl|exact trivial) (hg3))))
    refine oU zN ?_
    refine oW ?_
    cases hC0
    exact⟨[],by rfl,by rfl,by rfl⟩
attribute [irreducible] D5
def M1 (O:(List UInt8)):Int→Option (Int⊕(Unit⊕Bool)):=fun Z=>
 if (decide (Z<(List.length O:Int)))=true then
  if 0≤Z∧Z<(List.length O:Int) then
   if ((((!((decide ((97:Int)≤(p9 O Z)))&&(decide ((p9 O Z)≤(122:Int)))))&&(!((decide ((48:Int)≤(p9 O Z)))&&(decide ((p9 O Z)≤(57:Int))))))&&(!decide ((p9 O Z)=(45:Int))))&&((decide ((p9 O Z)<(65:Int)))||(decide ((90:Int)<(p9 O Z)))))=true then
    some (.inr (.inr (false)))
   else
    if i64 (Z+(1:Int)) then
     some (.inl (Z+(1:Int)))
    else none
  else none
 else
  some (.inr (.inl ()))
def EN (O:(List UInt8)):Option Bool:=
 qP (pF (M1 O) (0:Int)) fun _=>
 some (((decide ((1:Int)≤(List.length O:Int)))&&(decide ((List.length O:Int)≤(40:Int)))))
section
variable (O:(List UInt8))
@[reducible] def a0y:List Slot:=[(.val .str O,none)]
@[reducible] def a0z:List Blk:=[]
@[go_sem] def a0A:Ret:=⟨[((EN O)).isSome=true],[(.val .bool (val (EN O)),none)],[]⟩
def a9q:List Slot→List Blk→Option Ret:=pR (V:=(List UInt8)) (fun x=>a0y x) (fun x=>a0z) fun x=>a0A x
@[go_sem] theorem aKp:a9q (no_index (a0y O)) (no_index a0z)=some (a0A O):=pT (fun a0 b0 h1 h2=>by cases h1;cases h2;rfl) O
end
@[reducible,go_sem] def a9r:Nat×Sig:=(77,⟨[.v],a9q,[],[],none⟩)
theorem D6:Env Tryz.prog [q7] (pK [XE,XJ]):=⟨⟨q8,trivial⟩,pA a8i (pA a8l pS),pM⟩
theorem aFZ:pN Tryz.prog a9r:=by
 refine pU D6 Tryz.func77 (c:=_) rfl (N:=42) (by kernel_rfl) (ts:=[(2,none)]) rfl (fun _ _=>rfl) ?_
 intro O hs hrow
 dsimp only[a0y,a0z,a0A,pP,enumH,pB,pL,pQ,Nat.reduceAdd] at hs hrow⊢
 have hz:=hs
 obtain⟨z0,hC0⟩:=Option.isSome_iff_exists.1 hz
 try rw[pY hC0]
 clear hz hs
 unfold EN at hC0
 refine oU D6 ?_
 refine p5 ?_
 refine oU D6 ?_
 refine pV ?_
 obtain⟨y1,hy1,hC0⟩:=t8 hC0
 refine s9 0 (fun s=> ∃v,y1= .inl v∧s=(fun _=>⟨[(0,(.val .str O,none))],[],0,42,0⟩) v) ?_ ?_
 ·refine s8 hy1 (fun x=>⟨[(0,(.val .str O,none)),(3,(.val (.int .i64) x,none))],[],0,42,0⟩) ⟨[0,3],[]⟩ (by rfl) ?_
  intro Z w1 n1 hC1 hN1
  unfold M1 at hC1
  dsimp only at hC1⊢
  refine p5 ?_
  refine oU D6 ?_
  refine oZ hC1 (fun hC1 hc1=> ?_) (fun hC1 hc1=> ?_)
  ·refine p7 (p4 (p5 (pV ?_)))
   obtain⟨hg1,hC1⟩:=oY hC1
   refine oU D6 ?_ (hp:=by exact hg1)
   refine oU D6 ?_ (hp:=by exact And.intro (fun hh=>hh) (And.intro (fun hh=>hh) (And.intro (fun hh=>pZ hh) (And.intro (fun hh=>hh) (And.intro (fun hh=>pZ hh) (And.intro (fun hh=>hh) (And.intro (fun hh=>hh) (And.intro (fun hh=>hh) (And.intro (fun hh=>hh) (And.intro (fun hG hh=>BB hG hh) ((fun hh=>pZ hh))))))))))))
   refine oZ hC1 (fun hC1 hc2=> ?_) (fun hC1 hc2=> ?_)
   ·refine oU D6 ?_
    refine oW (pC (p6 (tJ (tI (pC (p6 ?_))))))
    cases hC1
    cases hN1
    dsimp only at hC0
    cases hC0
    exact⟨[],by rfl,by rfl,by rfl⟩
   ·refine p7 (pE (p4 ?_))
    obtain⟨hg2,hC1⟩:=oY hC1
    refine pH D6 ?_ (hp:=by exact hg2)
    cases hC1
    exact qV ⟨⟨[0,3],[]⟩,_,by rfl,hN1⟩
  ·refine s7 (s3 (sB ?_))
   cases hC1
   cases hN1
   exact sA ⟨⟨[0],[]⟩,_,rfl,by rfl⟩
 ·rintro _ ⟨v,rfl,rfl⟩
  dsimp only at hC0⊢
  refine s5 (p4 ?_)
  refine oU D6 ?_ (hp:=by exact And.intro (fun hh=>hh) (And.intro (fun hh=>hh) ((fun hh=>pZ hh))))
  refine oW ?_
  cases hC0
  exact⟨[],by rfl,by rfl,by rfl⟩
attribute [irreducible] EN
def BJ (O:(List UInt8)) (Z:(List UInt8)):Option ((List UInt8)×Bool):=
 (GE O Z).bind fun aA=>
 some ((aA.1,aA.2))
section
variable (O:(List UInt8)) (Z:(List UInt8))
@[reducible] def a0B:List Slot:=[(.val .str O,none),(.val .str Z,none)]
@[reducible] def a0C:List Blk:=[]
@[go_sem] def a0D:Ret:=⟨[((BJ O Z)).isSome=true],[(.val .str ((val (BJ O Z)).1),none),(.val .bool ((val (BJ O Z)).2),none)],[]⟩
def a9s:List Slot→List Blk→Option Ret:=pR (V:=((List UInt8)×(List UInt8))) (fun x=>a0B x.1 x.2) (fun x=>a0C) fun x=>a0D x.1 x.2
@[go_sem] theorem aKq:a9s (no_index (a0B O Z)) (no_index a0C)=some (a0D O Z):=pT (fun⟨a0,a1⟩ ⟨b0,b1⟩ h1 h2=>by cases h1;cases h2;rfl) (O,Z)
end
@[reducible,go_sem] def a0E:Nat×Sig:=(86,⟨[.v,.v],a9s,[],[],none⟩)
theorem a0F:Env Tryz.prog [] (pK [a8o]):=⟨trivial,pA aFE pS,pM⟩
theorem a9t:pN Tryz.prog a0E:=by
 refine pU a0F Tryz.func86 (c:=_) rfl (N:=11) (by kernel_rfl) (ts:=[(4,none),(5,none)]) rfl (fun _ _=>rfl) ?_
 intro⟨O,Z⟩ hs hrow
 dsimp only[a0B,a0C,a0D,pP,enumH,pB,pL,pQ,Nat.reduceAdd] at hs hrow⊢
 have hz:=hs
 obtain⟨z0,hC0⟩:=Option.isSome_iff_exists.1 hz
 try rw[pY hC0]
 clear hz hs
 unfold BJ at hC0
 refine oU a0F ?_
 obtain⟨aA,hv1,hw1,hC0⟩:=pJ hC0
 try simp only[go_sem] at hw1
 refine oU a0F ?_ (hp:=by exact(pI hv1)) (h:=by simp only[go_sem,hw1];rfl)
 refine oW ?_
 cases hC0
 exact⟨[],by rfl,by rfl,by rfl⟩
attribute [irreducible] BJ
def GL (O:(List UInt8)) (Z:(List UInt8)):Option (List UInt8):=
 (IG O Z).bind fun aA=>
 some (aA)
section
variable (O:(List UInt8)) (Z:(List UInt8))
@[reducible] def a0G:List Slot:=[(.val .str O,none),(.val .str Z,none)]
@[reducible] def a0H:List Blk:=[]
@[go_sem] def a0I:Ret:=⟨[((GL O Z)).isSome=true],[(.val .str (val (GL O Z)),none)],[]⟩
def a9u:List Slot→List Blk→Option Ret:=pR (V:=((List UInt8)×(List UInt8))) (fun x=>a0G x.1 x.2) (fun x=>a0H) fun x=>a0I x.1 x.2
@[go_sem] theorem aKr:a9u (no_index (a0G O Z)) (no_index a0H)=some (a0I O Z):=pT (fun⟨a0,a1⟩ ⟨b0,b1⟩ h1 h2=>by cases h1;cases h2;rfl) (O,Z)
end
@[reducible,go_sem] def a9v:Nat×Sig:=(89,⟨[.v,.v],a9u,[],[],none⟩)
theorem a0J:Env Tryz.prog [] (pK [a8t]):=⟨trivial,pA aFF pS,pM⟩
theorem aF0:pN Tryz.prog a9v:=by
 refine pU a0J Tryz.func89 (c:=_) rfl (N:=8) (by kernel_rfl) (ts:=[(4,none)]) rfl (fun _ _=>rfl) ?_
 intro⟨O,Z⟩ hs hrow
 dsimp only[a0G,a0H,a0I,pP,enumH,pB,pL,pQ,Nat.reduceAdd] at hs hrow⊢
 have hz:=hs
 obtain⟨z0,hC0⟩:=Option.isSome_iff_exists.1 hz
 try rw[pY hC0]
 clear hz hs
 unfold GL at hC0
 refine oU a0J ?_
 obtain⟨aA,hv1,hw1,hC0⟩:=pJ hC0
 try simp only[go_sem] at hw1
 refine oU a0J ?_ (hp:=by exact(pI hv1)) (h:=by simp only[go_sem,hw1];rfl)
 refine oW ?_
 cases hC0
 exact⟨[],by rfl,by rfl,by rfl⟩
attribute [irreducible] GL
end
end Go.Proofs.YtfchbnahjcdiiaaGreatDoor
namespace Go.Proofs.YtfchbnahjcdiiaaGreatDoor
open Vc
set_option maxRecDepth 100000
set_option maxHeartbeats 4000000
set_option linter.unusedSimpArgs false
set_option linter.unusedVariables false
noncomputable section
def a9w (O:Int) (Z:(List UInt8)) (aA:Int):Int→Option (Int⊕(Unit⊕Int)):=fun aB=>
 if (decide (aB<(List.length Z:Int)))=true then
  if 0≤aB∧aB<(List.length Z:Int) then
   if (decide ((p9 Z aB)=aA))=true then
    some (.inr (.inr (aB)))
   else
    if (((!decide (O=(4:Int)))==true)=true→0≤aB∧aB<(List.length Z:Int)) then
     if ((!decide (O=(4:Int)))&&(decide ((p9 Z aB)=(92:Int))))=true then
      if i64 (aB+(1:Int)) then
       if i64 ((aB+(1:Int))+(1:Int)) then
        some (.inl ((aB+(1:Int))+(1:Int)))
       else none
      else none
     else
      if i64 (aB+(1:Int)) then
       some (.inl (aB+(1:Int)))
      else none
    else none
  else none
 else
  some (.inr (.inl ()))
def D7 (O:Int) (Z:(List UInt8)) (aA:Int):Option Int:=
 if (!((decide ((1:Int)≤O))&&(decide (O≤(4:Int)))))=true then
  some ((-1:Int))
 else
  qP (pF (a9w O Z aA) (0:Int)) fun _=>
  some ((-1:Int))
section
variable (O:Int) (Z:(List UInt8)) (aA:Int)
@[reducible] def a0K:List Slot:=[(.val (.int .i64) O,none),(.val .str Z,none),(.val (.int .u8) aA,none)]
@[reducible] def a0L:List Blk:=[]
@[go_sem] def a0M:Ret:=⟨[((D7 O Z aA)).isSome=true],[(.val (.int .i64) (val (D7 O Z aA)),none)],[]⟩
def a9x:List Slot→List Blk→Option Ret:=pR (V:=(Int×(List UInt8)×Int)) (fun x=>a0K x.1 x.2.1 x.2.2) (fun x=>a0L) fun x=>a0M x.1 x.2.1 x.2.2
@[go_sem] theorem aKs:a9x (no_index (a0K O Z aA)) (no_index a0L)=some (a0M O Z aA):=pT (fun⟨a0,a1,a2⟩ ⟨b0,b1,b2⟩ h1 h2=>by cases h1;cases h2;rfl) (O,Z,aA)
end
@[reducible,go_sem] def a9y:Nat×Sig:=(88,⟨[.v,.v,.v],a9x,[],[],none⟩)
theorem yW:Env Tryz.prog [q7] (pK [XW]):=⟨⟨q8,trivial⟩,pA a8r pS,pM⟩
theorem aF1:pN Tryz.prog a9y:=by
 refine pU yW Tryz.func88 (c:=_) rfl (N:=33) (by kernel_rfl) (ts:=[(6,none)]) rfl (fun _ _=>rfl) ?_
 intro⟨O,Z,aA⟩ hs hrow
 dsimp only[a0K,a0L,a0M,pP,enumH,pB,pL,pQ,Nat.reduceAdd] at hs hrow⊢
 have hz:=hs
 obtain⟨z0,hC0⟩:=Option.isSome_iff_exists.1 hz
 try rw[pY hC0]
 clear hz hs
 unfold D7 at hC0
 refine oU yW ?_
 refine p5 ?_
 refine oU yW ?_
 refine oZ hC0 (fun hC0 hc1=> ?_) (fun hC0 hc1=> ?_)
 ·refine oU yW ?_
  refine oW (p6 ?_)
  cases hC0
  exact⟨[],by rfl,by rfl,by rfl⟩
 ·refine p7 (p4 (p5 ?_))
  refine oU yW ?_
  refine pV ?_
  obtain⟨y1,hy1,hC0⟩:=t8 hC0
  refine s9 0 (fun s=> ∃v,y1= .inl v∧s=(fun _=>⟨[],[],0,33,0⟩) v) ?_ ?_
  ·refine s8 hy1 (fun x=>⟨[(0,(.val (.int .i64) O,none)),(1,(.val .str Z,none)),(2,(.val (.int .u8) aA,none)),(7,(.val (.int .i64) x,none))],[],0,33,0⟩) ⟨[0,1,2,7],[]⟩ (by rfl) ?_
   intro aB w1 n1 hC1 hN1
   unfold a9w at hC1
   dsimp only at hC1⊢
   refine p5 ?_
   refine oU yW ?_
   refine oZ hC1 (fun hC1 hc2=> ?_) (fun hC1 hc2=> ?_)
   ·refine p7 (p4 (p5 (pV (p5 ?_))))
    obtain⟨hg1,hC1⟩:=oY hC1
    refine oU yW ?_ (hp:=by exact hg1)
    refine oZ hC1 (fun hC1 hc3=> ?_) (fun hC1 hc3=> ?_)
    ·refine oU yW ?_
     refine oW (p6 (pC (p6 (tJ (tI (pC (p6 ?_)))))))
     cases hC1
     cases hN1
     dsimp only at hC0
     cases hC0
     exact⟨[],by rfl,by rfl,by rfl⟩
    ·refine p7 (p4 ?_)
     obtain⟨hg2,hC1⟩:=oY hC1
     refine oU yW ?_ (hp:=by exact And.intro (fun hh=>hh) (And.intro (fun hh=>hh) (And.intro hg2 (And.intro (fun hh=>hh) ((fun hh=>pZ hh))))))
     refine oZ hC1 (fun hC1 hc4=> ?_) (fun hC1 hc4=> ?_)
     ·obtain⟨hg3,hC1⟩:=oY hC1
      refine pH yW ?_ (hp:=by exact hg3)
      refine pE (p4 ?_)
      obtain⟨hg4,hC1⟩:=oY hC1
      refine pH yW ?_ (hp:=by exact hg4)
      cases hC1
      exact qV ⟨⟨[0,1,2,7],[]⟩,_,by rfl,hN1⟩
     ·refine p7 (pE (p4 ?_))
      obtain⟨hg5,hC1⟩:=oY hC1
      refine pH yW ?_ (hp:=by exact hg5)
      cases hC1
      exact qV ⟨⟨[0,1,2,7],[]⟩,_,by rfl,hN1⟩
   ·refine s7 (s3 (sB ?_))
    cases hC1
    cases hN1
    exact sA ⟨⟨[],[]⟩,_,rfl,by rfl⟩
  ·rintro _ ⟨v,rfl,rfl⟩
   dsimp only at hC0⊢
   refine s5 (p4 ?_)
   refine oU yW ?_
   refine oW ?_
   cases hC0
   exact⟨[],by rfl,by rfl,by rfl⟩
attribute [irreducible] D7
def IM (O:(List UInt8)) (Z:(List UInt8)):Option (List UInt8):=
 (LN O Z).bind fun aA=>
 if ((decide ((List.length Z:Int)≤(List.length O:Int)))&&(decide ((oV O ((List.length O:Int)- (List.length Z:Int)) (List.length O:Int))=Z)))=true then
  if i64 ((List.length O:Int)- (List.length Z:Int)) then
   if 0≤(0:Int)∧(0:Int)≤((List.length O:Int)- (List.length Z:Int))∧((List.length O:Int)- (List.length Z:Int))≤(List.length O:Int) then
    some ((oV O (0:Int) ((List.length O:Int)- (List.length Z:Int))))
   else none
  else none
 else
  some (O)
section
variable (O:(List UInt8)) (Z:(List UInt8))
@[reducible] def a0N:List Slot:=[(.val .str O,none),(.val .str Z,none)]
@[reducible] def a0O:List Blk:=[]
@[go_sem] def a0P:Ret:=⟨[((IM O Z)).isSome=true],[(.val .str (val (IM O Z)),none)],[]⟩
def a9z:List Slot→List Blk→Option Ret:=pR (V:=((List UInt8)×(List UInt8))) (fun x=>a0N x.1 x.2) (fun x=>a0O) fun x=>a0P x.1 x.2
@[go_sem] theorem aKt:a9z (no_index (a0N O Z)) (no_index a0O)=some (a0P O Z):=pT (fun⟨a0,a1⟩ ⟨b0,b1⟩ h1 h2=>by cases h1;cases h2;rfl) (O,Z)
end
@[reducible,go_sem] def a9A:Nat×Sig:=(95,⟨[.v,.v],a9z,[],[],none⟩)
theorem M2:Env Tryz.prog [q7] (pK [a8z]):=⟨⟨q8,trivial⟩,pA aFI pS,pM⟩
theorem aF2:pN Tryz.prog a9A:=by
 refine pU M2 Tryz.func95 (c:=_) rfl (N:=16) (by kernel_rfl) (ts:=[(4,none)]) rfl (fun _ _=>rfl) ?_
 intro⟨O,Z⟩ hs hrow
 dsimp only[a0N,a0O,a0P,pP,enumH,pB,pL,pQ,Nat.reduceAdd] at hs hrow⊢
 have hz:=hs
 obtain⟨z0,hC0⟩:=Option.isSome_iff_exists.1 hz
 try rw[pY hC0]
 clear hz hs
 unfold IM at hC0
 refine oU M2 ?_
 refine p5 ?_
 obtain⟨aA,hv1,hw1,hC0⟩:=pJ hC0
 try simp only[go_sem] at hw1
 refine oU M2 ?_ (hp:=by exact(pI hv1)) (h:=by simp only[go_sem,hw1];rfl)
 refine oZ hC0 (fun hC0 hc1=> ?_) (fun hC0 hc1=> ?_)
 ·obtain⟨hg2,hC0⟩:=oY hC0
  obtain⟨hg3,hC0⟩:=oY hC0
  refine oU M2 ?_ (hp:=by exact And.intro hg2 (hg3))
  refine oW (p6 ?_)
  cases hC0
  exact⟨[],by rfl,by rfl,by rfl⟩
 ·refine p7 (p4 ?_)
  refine oU M2 ?_
  refine oW ?_
  cases hC0
  exact⟨[],by rfl,by rfl,by rfl⟩
attribute [irreducible] IM
def M3 (O:(List UInt8)):Int→Option (Int⊕(Unit⊕Int)):=fun Z=>
 if (decide (Z≤(4:Int)))=true then
  (LM Z).bind fun aA=>
  if (decide ((pX .str ([([110,101,119]:List UInt8),([102,117,122,122,121]:List UInt8),([116,114,97,110,115,108,97,116,101,100]:List UInt8),([114,101,118,105,101,119,101,100]:List UInt8),([111,98,115,111,108,101,116,101]:List UInt8)]:List (List UInt8)) Z)=O))=true then
   some (.inr (.inr (Z)))
  else
   if i64 (Z+(1:Int)) then
    some (.inl (Z+(1:Int)))
   else none
 else
  some (.inr (.inl ()))
def zO (O:(List UInt8)):Option Int:=
 qP (pF (M3 O) (0:Int)) fun _=>
 some ((-1:Int))
section
variable (O:(List UInt8))
@[reducible] def a0Q:List Slot:=[(.val .str O,none)]
@[reducible] def a0R:List Blk:=[]
@[go_sem] def a0S:Ret:=⟨[((zO O)).isSome=true],[(.val (.int .i64) (val (zO O)),none)],[]⟩
def a9B:List Slot→List Blk→Option Ret:=pR (V:=(List UInt8)) (fun x=>a0Q x) (fun x=>a0R) fun x=>a0S x
@[go_sem] theorem aKu:a9B (no_index (a0Q O)) (no_index a0R)=some (a0S O):=pT (fun a0 b0 h1 h2=>by cases h1;cases h2;rfl) O
end
@[reducible,go_sem] def a9C:Nat×Sig:=(103,⟨[.v],a9B,[],[],none⟩)
theorem EO:Env Tryz.prog [] (pK [a8x]):=⟨trivial,pA aFH pS,pM⟩
theorem aF3:pN Tryz.prog a9C:=by
 refine pU EO Tryz.func103 (c:=_) rfl (N:=13) (by kernel_rfl) (ts:=[(2,none)]) rfl (fun _ _=>rfl) ?_
 intro O hs hrow
 dsimp only[a0Q,a0R,a0S,pP,enumH,pB,pL,pQ,Nat.reduceAdd] at hs hrow⊢
 have hz:=hs
 obtain⟨z0,hC0⟩:=Option.isSome_iff_exists.1 hz
 try rw[pY hC0]
 clear hz hs
 unfold zO at hC0
 refine oU EO ?_
 refine p5 ?_
 refine oU EO ?_
 refine pV ?_
 obtain⟨y1,hy1,hC0⟩:=t8 hC0
 refine s9 0 (fun s=> ∃v,y1= .inl v∧s=(fun _=>⟨[],[],0,13,0⟩) v) ?_ ?_
 ·refine s8 hy1 (fun x=>⟨[(0,(.val .str O,none)),(3,(.val (.int .i64) x,none))],[],0,13,0⟩) ⟨[0,3],[]⟩ (by rfl) ?_
  intro Z w1 n1 hC1 hN1
  unfold M3 at hC1
  dsimp only at hC1⊢
  refine p5 ?_
  refine oU EO ?_
  refine oZ hC1 (fun hC1 hc1=> ?_) (fun hC1 hc1=> ?_)
  ·refine p7 (p4 (p5 (pV ?_)))
   obtain⟨aA,hv1,hw1,hC1⟩:=pJ hC1
   try simp only[go_sem] at hw1
   refine oU EO ?_ (hp:=by exact(pI hv1)) (h:=by simp only[go_sem,hw1];rfl)
   refine oZ hC1 (fun hC1 hc2=> ?_) (fun hC1 hc2=> ?_)
   ·refine oU EO ?_
    refine oW (pC (p6 (tJ (tI (pC (p6 ?_))))))
    cases hC1
    cases hN1
    dsimp only at hC0
    cases hC0
    exact⟨[],by rfl,by rfl,by rfl⟩
   ·refine p7 (pE (p4 ?_))
    obtain⟨hg2,hC1⟩:=oY hC1
    refine pH EO ?_ (hp:=by exact hg2)
    cases hC1
    exact qV ⟨⟨[0,3],[]⟩,_,by rfl,hN1⟩
  ·refine s7 (s3 (sB ?_))
   cases hC1
   cases hN1
   exact sA ⟨⟨[],[]⟩,_,rfl,by rfl⟩
 ·rintro _ ⟨v,rfl,rfl⟩
  dsimp only at hC0⊢
  refine s5 (p4 ?_)
  refine oU EO ?_
  refine oW ?_
  cases hC0
  exact⟨[],by rfl,by rfl,by rfl⟩
attribute [irreducible] zO
def M4 (O:(List UInt8)):Int→Option (Int⊕(Unit⊕Bool)):=fun Z=>
 if (decide (Z<(List.length O:Int)))=true then
  if 0≤Z∧Z<(List.length O:Int) then
   if (((((!((decide ((97:Int)≤(p9 O Z)))&&(decide ((p9 O Z)≤(122:Int)))))&&(!((decide ((48:Int)≤(p9 O Z)))&&(decide ((p9 O Z)≤(57:Int))))))&&(!decide ((p9 O Z)=(45:Int))))&&(!decide ((p9 O Z)=(95:Int))))&&(!decide ((p9 O Z)=(46:Int))))=true then
    some (.inr (.inr (false)))
   else
    if i64 (Z+(1:Int)) then
     some (.inl (Z+(1:Int)))
    else none
  else none
 else
  some (.inr (.inl ()))
def zP (O:(List UInt8)):Option Bool:=
 if ((((decide ((List.length O:Int)<(1:Int)))||(decide ((40:Int)<(List.length O:Int))))==false)=true→0≤(0:Int)∧(0:Int)<(List.length O:Int)) then
  if (((decide ((List.length O:Int)<(1:Int)))||(decide ((40:Int)<(List.length O:Int))))||(!((decide ((97:Int)≤(p9 O (0:Int))))&&(decide ((p9 O (0:Int))≤(122:Int))))))=true then
   some (false)
  else
   qP (pF (M4 O) (1:Int)) fun _=>
   some (true)
 else none
section
variable (O:(List UInt8))
@[reducible] def a0T:List Slot:=[(.val .str O,none)]
@[reducible] def a0U:List Blk:=[]
@[go_sem] def a0V:Ret:=⟨[((zP O)).isSome=true],[(.val .bool (val (zP O)),none)],[]⟩
def a9D:List Slot→List Blk→Option Ret:=pR (V:=(List UInt8)) (fun x=>a0T x) (fun x=>a0U) fun x=>a0V x
@[go_sem] theorem aKv:a9D (no_index (a0T O)) (no_index a0U)=some (a0V O):=pT (fun a0 b0 h1 h2=>by cases h1;cases h2;rfl) O
end
@[reducible,go_sem] def a9E:Nat×Sig:=(104,⟨[.v],a9D,[],[],none⟩)
theorem AL:Env Tryz.prog [q7] (pK [XE,XJ]):=⟨⟨q8,trivial⟩,pA a8i (pA a8l pS),pM⟩
theorem aF4:pN Tryz.prog a9E:=by
 refine pU AL Tryz.func104 (c:=_) rfl (N:=48) (by kernel_rfl) (ts:=[(2,none)]) rfl (fun _ _=>rfl) ?_
 intro O hs hrow
 dsimp only[a0T,a0U,a0V,pP,enumH,pB,pL,pQ,Nat.reduceAdd] at hs hrow⊢
 have hz:=hs
 obtain⟨z0,hC0⟩:=Option.isSome_iff_exists.1 hz
 try rw[pY hC0]
 clear hz hs
 unfold zP at hC0
 refine oU AL ?_
 refine p5 ?_
 obtain⟨hg1,hC0⟩:=oY hC0
 refine oU AL ?_ (hp:=by exact And.intro (fun hh=>hh) (And.intro (fun hh=>hh) (And.intro (fun hh=>tZ hh) (And.intro (fun hh=>hh) (And.intro hg1 (And.intro (fun hh=>hh) (And.intro (fun hh=>hh) ((fun hh=>tZ hh)))))))))
 refine oZ hC0 (fun hC0 hc1=> ?_) (fun hC0 hc1=> ?_)
 ·refine oU AL ?_
  refine oW (p6 ?_)
  cases hC0
  exact⟨[],by rfl,by rfl,by rfl⟩
 ·refine p7 (p4 (p5 ?_))
  refine oU AL ?_
  refine pV ?_
  obtain⟨y1,hy1,hC0⟩:=t8 hC0
  refine s9 0 (fun s=> ∃v,y1= .inl v∧s=(fun _=>⟨[],[],0,48,0⟩) v) ?_ ?_
  ·refine s8 hy1 (fun x=>⟨[(0,(.val .str O,none)),(3,(.val (.int .i64) x,none))],[],0,48,0⟩) ⟨[0,3],[]⟩ (by rfl) ?_
   intro Z w1 n1 hC1 hN1
   unfold M4 at hC1
   dsimp only at hC1⊢
   refine p5 ?_
   refine oU AL ?_
   refine oZ hC1 (fun hC1 hc2=> ?_) (fun hC1 hc2=> ?_)
   ·refine p7 (p4 (p5 (pV ?_)))
    obtain⟨hg2,hC1⟩:=oY hC1
    refine oU AL ?_ (hp:=by exact hg2)
    refine oU AL ?_ (hp:=by exact And.intro (fun hh=>hh) (And.intro (fun hh=>hh) (And.intro (fun hh=>pZ hh) (And.intro (fun hh=>hh) (And.intro (fun hh=>pZ hh) (And.intro (fun hh=>hh) (And.intro (fun hh=>pZ hh) (And.intro (fun hh=>hh) ((fun hh=>pZ hh))))))))))
    refine oZ hC1 (fun hC1 hc3=> ?_) (fun hC1 hc3=> ?_)
    ·refine oU AL ?_
     refine oW (pC (p6 (tJ (tI (pC (p6 ?_))))))
     cases hC1
     cases hN1
     dsimp only at hC0
     cases hC0
     exact⟨[],by rfl,by rfl,by rfl⟩
    ·refine p7 (pE (p4 ?_))
     obtain⟨hg3,hC1⟩:=oY hC1
     refine pH AL ?_ (hp:=by exact hg3)
     cases hC1
     exact qV ⟨⟨[0,3],[]⟩,_,by rfl,hN1⟩
   ·refine s7 (s3 (sB ?_))
    cases hC1
    cases hN1
    exact sA ⟨⟨[],[]⟩,_,rfl,by rfl⟩
  ·rintro _ ⟨v,rfl,rfl⟩
   dsimp only at hC0⊢
   refine s5 (p4 ?_)
   refine oU AL ?_
   refine oW ?_
   cases hC0
   exact⟨[],by rfl,by rfl,by rfl⟩
attribute [irreducible] zP
def GM (O:(List UInt8)):Option Unit:=
 if (((decide ((List.length O:Int)≤(4000:Int)))==true)=true→((LQ O)).isSome=true) then
  some (())
 else none
section
variable (O:(List UInt8))
@[reducible] def a0W:List Slot:=[(.val .str O,none)]
@[reducible] def a0X:List Blk:=[]
@[go_sem] def a0Y:Ret:=⟨[((GM O)).isSome=true],[(.val .bool ((decide ((List.length O:Int)≤(4000:Int)))&&(Lib.validD O)),none)],[]⟩
def a9F:List Slot→List Blk→Option Ret:=pR (V:=(List UInt8)) (fun x=>a0W x) (fun x=>a0X) fun x=>a0Y x
@[go_sem] theorem aKw:a9F (no_index (a0W O)) (no_index a0X)=some (a0Y O):=pT (fun a0 b0 h1 h2=>by cases h1;cases h2;rfl) O
end
@[reducible,go_sem] def a9G:Nat×Sig:=(111,⟨[.v],a9F,[],[],none⟩)
theorem a0Z:Env Tryz.prog [q7] (pK [a8H]):=⟨⟨q8,trivial⟩,pA aFL pS,pM⟩
theorem aF5:pN Tryz.prog a9G:=by
 refine pU a0Z Tryz.func111 (c:=_) rfl (N:=10) (by kernel_rfl) (ts:=[(2,none)]) rfl (fun _ _=>rfl) ?_
 intro O hs hrow
 dsimp only[a0W,a0X,a0Y,pP,enumH,pB,pL,pQ,Nat.reduceAdd] at hs hrow⊢
 have hz:=hs
 obtain⟨z0,hC0⟩:=Option.isSome_iff_exists.1 hz
 try rw[pY hC0]
 clear hz hs
 unfold GM at hC0
 refine oU a0Z ?_
 obtain⟨hg1,hC0⟩:=oY hC0
 refine oU a0Z ?_ (hp:=by exact And.intro (fun hh=>hh) (And.intro hg1 ((fun hh=>pZ hh))))
 refine oW ?_
 cases hC0
 exact⟨[],by rfl,by rfl,by rfl⟩
attribute [irreducible] GM
def y7 (O:(List (List UInt8))) (Z:(List UInt8)):Option Bool:=
 (xG O Z).bind fun aA=>
 some ((decide ((0:Int)≤aA)))
section
variable (O:(List (List UInt8))) (Z:(List UInt8))
@[reducible] def a00:List Slot:=[(.val (.list .str) O,none),(.val .str Z,none)]
@[reducible] def a01:List Blk:=[]
@[go_sem] def a02:Ret:=⟨[((y7 O Z)).isSome=true],[(.val .bool (val (y7 O Z)),none)],[]⟩
def a9H:List Slot→List Blk→Option Ret:=pR (V:=((List (List UInt8))×(List UInt8))) (fun x=>a00 x.1 x.2) (fun x=>a01) fun x=>a02 x.1 x.2
@[go_sem] theorem aKx:a9H (no_index (a00 O Z)) (no_index a01)=some (a02 O Z):=pT (fun⟨a0,a1⟩ ⟨b0,b1⟩ h1 h2=>by cases h1;cases h2;rfl) (O,Z)
end
@[reducible,go_sem] def a9I:Nat×Sig:=(126,⟨[.v,.v],a9H,[],[],none⟩)
theorem a03:Env Tryz.prog [] (pK [PX]):=⟨trivial,pA a8B pS,pM⟩
theorem aF6:pN Tryz.prog a9I:=by
 refine pU a03 Tryz.func126 (c:=_) rfl (N:=9) (by kernel_rfl) (ts:=[(4,none)]) rfl (fun _ _=>rfl) ?_
 intro⟨O,Z⟩ hs hrow
 dsimp only[a00,a01,a02,pP,enumH,pB,pL,pQ,Nat.reduceAdd] at hs hrow⊢
 have hz:=hs
 obtain⟨z0,hC0⟩:=Option.isSome_iff_exists.1 hz
 try rw[pY hC0]
 clear hz hs
 unfold y7 at hC0
 refine oU a03 ?_
 obtain⟨aA,hv1,hw1,hC0⟩:=pJ hC0
 try simp only[go_sem] at hw1
 refine oU a03 ?_ (hp:=by exact(pI hv1)) (h:=by simp only[go_sem,hw1];rfl)
 refine oW ?_
 cases hC0
 exact⟨[],by rfl,by rfl,by rfl⟩
attribute [irreducible] y7
def D8 (O:(List p8)) (Z:(List UInt8)):Option Int:=
 (IK O Z).bind fun aA=>
 some (aA)
section
variable (O:(List p8)) (Z:(List UInt8))
@[reducible] def a04:List Slot:=[(.val (.list (.pair .str (.pair .str .unit))) O,none),(.val .str Z,none)]
@[reducible] def a05:List Blk:=[]
@[go_sem] def a06:Ret:=⟨[((D8 O Z)).isSome=true],[(.val (.int .i64) (val (D8 O Z)),none)],[]⟩
def a9J:List Slot→List Blk→Option Ret:=pR (V:=((List p8)×(List UInt8))) (fun x=>a04 x.1 x.2) (fun x=>a05) fun x=>a06 x.1 x.2
@[go_sem] theorem aKy:a9J (no_index (a04 O Z)) (no_index a05)=some (a06 O Z):=pT (fun⟨a0,a1⟩ ⟨b0,b1⟩ h1 h2=>by cases h1;cases h2;rfl) (O,Z)
end
@[reducible,go_sem] def a9K:Nat×Sig:=(171,⟨[.v,.v],a9J,[],[],none⟩)
theorem a07:Env Tryz.prog [q7] (pK [a9a]):=⟨⟨q8,trivial⟩,pA aFT pS,pM⟩
theorem aF7:pN Tryz.prog a9K:=by
 refine pU a07 Tryz.func171 (c:=_) rfl (N:=8) (by kernel_rfl) (ts:=[(4,none)]) rfl (fun _ _=>rfl) ?_
 intro⟨O,Z⟩ hs hrow
 dsimp only[a04,a05,a06,pP,enumH,pB,pL,pQ,Nat.reduceAdd] at hs hrow⊢
 have hz:=hs
 obtain⟨z0,hC0⟩:=Option.isSome_iff_exists.1 hz
 try rw[pY hC0]
 clear hz hs
 unfold D8 at hC0
 refine oU a07 ?_
 obtain⟨aA,hv1,hw1,hC0⟩:=pJ hC0
 try simp only[go_sem] at hw1
 refine oU a07 ?_ (hp:=by exact And.intro (by first|exact rfl|exact trivial) ((pI hv1))) (h:=by simp only[go_sem,hw1];rfl)
 refine oW ?_
 cases hC0
 exact⟨[],by rfl,by rfl,by rfl⟩
attribute [irreducible] D8
end
end Go.Proofs.YtfchbnahjcdiiaaGreatDoor
namespace Go.Proofs.YtfchbnahjcdiiaaGreatDoor
open Vc
set_option maxRecDepth 100000
set_option maxHeartbeats 4000000
set_option linter.unusedSimpArgs false
set_option linter.unusedVariables false
noncomputable section
def GN (O:Int) (Z:(List UInt8)) (aA:Int):Int→Option (Int⊕(Unit⊕Int)):=fun aB=>
 if (decide (aB<(List.length Z:Int)))=true then
  if 0≤aB∧aB<(List.length Z:Int) then
   if (decide ((p9 Z aB)=aA))=true then
    some (.inr (.inr (aB)))
   else
    if (((!decide (O=(4:Int)))==true)=true→0≤aB∧aB<(List.length Z:Int)) then
     if ((!decide (O=(4:Int)))&&(decide ((p9 Z aB)=(92:Int))))=true then
      if i64 (aB+(1:Int)) then
       if i64 ((aB+(1:Int))+(1:Int)) then
        some (.inl ((aB+(1:Int))+(1:Int)))
       else none
      else none
     else
      if i64 (aB+(1:Int)) then
       some (.inl (aB+(1:Int)))
      else none
    else none
  else none
 else
  some (.inr (.inl ()))
def AM (O:Int) (Z:(List UInt8)) (aA:Int):Option Int:=
 if (!((decide ((1:Int)≤O))&&(decide (O≤(4:Int)))))=true then
  some ((-1:Int))
 else
  qP (pF (GN O Z aA) (0:Int)) fun _=>
  some ((-1:Int))
section
variable (O:Int) (Z:(List UInt8)) (aA:Int)
@[reducible] def a08:List Slot:=[(.val (.int .i64) O,none),(.val .str Z,none),(.val (.int .u8) aA,none)]
@[reducible] def a09:List Blk:=[]
@[go_sem] def a1a:Ret:=⟨[((AM O Z aA)).isSome=true],[(.val (.int .i64) (val (AM O Z aA)),none)],[]⟩
def a9L:List Slot→List Blk→Option Ret:=pR (V:=(Int×(List UInt8)×Int)) (fun x=>a08 x.1 x.2.1 x.2.2) (fun x=>a09) fun x=>a1a x.1 x.2.1 x.2.2
@[go_sem] theorem aKz:a9L (no_index (a08 O Z aA)) (no_index a09)=some (a1a O Z aA):=pT (fun⟨a0,a1,a2⟩ ⟨b0,b1,b2⟩ h1 h2=>by cases h1;cases h2;rfl) (O,Z,aA)
end
@[reducible,go_sem] def a9M:Nat×Sig:=(139,⟨[.v,.v,.v],a9L,[],[],none⟩)
theorem yX:Env Tryz.prog [q7] (pK [YV]):=⟨⟨q8,trivial⟩,pA a8N pS,pM⟩
theorem aF8:pN Tryz.prog a9M:=by
 refine pU yX Tryz.func139 (c:=_) rfl (N:=33) (by kernel_rfl) (ts:=[(6,none)]) rfl (fun _ _=>rfl) ?_
 intro⟨O,Z,aA⟩ hs hrow
 dsimp only[a08,a09,a1a,pP,enumH,pB,pL,pQ,Nat.reduceAdd] at hs hrow⊢
 have hz:=hs
 obtain⟨z0,hC0⟩:=Option.isSome_iff_exists.1 hz
 try rw[pY hC0]
 clear hz hs
 unfold AM at hC0
 refine oU yX ?_
 refine p5 ?_
 refine oU yX ?_
 refine oZ hC0 (fun hC0 hc1=> ?_) (fun hC0 hc1=> ?_)
 ·refine oU yX ?_
  refine oW (p6 ?_)
  cases hC0
  exact⟨[],by rfl,by rfl,by rfl⟩
 ·refine p7 (p4 (p5 ?_))
  refine oU yX ?_
  refine pV ?_
  obtain⟨y1,hy1,hC0⟩:=t8 hC0
  refine s9 0 (fun s=> ∃v,y1= .inl v∧s=(fun _=>⟨[],[],0,33,0⟩) v) ?_ ?_
  ·refine s8 hy1 (fun x=>⟨[(0,(.val (.int .i64) O,none)),(1,(.val .str Z,none)),(2,(.val (.int .u8) aA,none)),(7,(.val (.int .i64) x,none))],[],0,33,0⟩) ⟨[0,1,2,7],[]⟩ (by rfl) ?_
   intro aB w1 n1 hC1 hN1
   unfold GN at hC1
   dsimp only at hC1⊢
   refine p5 ?_
   refine oU yX ?_
   refine oZ hC1 (fun hC1 hc2=> ?_) (fun hC1 hc2=> ?_)
   ·refine p7 (p4 (p5 (pV (p5 ?_))))
    obtain⟨hg1,hC1⟩:=oY hC1
    refine oU yX ?_ (hp:=by exact hg1)
    refine oZ hC1 (fun hC1 hc3=> ?_) (fun hC1 hc3=> ?_)
    ·refine oU yX ?_
     refine oW (p6 (pC (p6 (tJ (tI (pC (p6 ?_)))))))
     cases hC1
     cases hN1
     dsimp only at hC0
     cases hC0
     exact⟨[],by rfl,by rfl,by rfl⟩
    ·refine p7 (p4 ?_)
     obtain⟨hg2,hC1⟩:=oY hC1
     refine oU yX ?_ (hp:=by exact And.intro (fun hh=>hh) (And.intro (fun hh=>hh) (And.intro hg2 (And.intro (fun hh=>hh) ((fun hh=>pZ hh))))))
     refine oZ hC1 (fun hC1 hc4=> ?_) (fun hC1 hc4=> ?_)
     ·obtain⟨hg3,hC1⟩:=oY hC1
      refine pH yX ?_ (hp:=by exact hg3)
      refine pE (p4 ?_)
      obtain⟨hg4,hC1⟩:=oY hC1
      refine pH yX ?_ (hp:=by exact hg4)
      cases hC1
      exact qV ⟨⟨[0,1,2,7],[]⟩,_,by rfl,hN1⟩
     ·refine p7 (pE (p4 ?_))
      obtain⟨hg5,hC1⟩:=oY hC1
      refine pH yX ?_ (hp:=by exact hg5)
      cases hC1
      exact qV ⟨⟨[0,1,2,7],[]⟩,_,by rfl,hN1⟩
   ·refine s7 (s3 (sB ?_))
    cases hC1
    cases hN1
    exact sA ⟨⟨[],[]⟩,_,rfl,by rfl⟩
  ·rintro _ ⟨v,rfl,rfl⟩
   dsimp only at hC0⊢
   refine s5 (p4 ?_)
   refine oU yX ?_
   refine oW ?_
   cases hC0
   exact⟨[],by rfl,by rfl,by rfl⟩
attribute [irreducible] AM
def M5 (O:(List UInt8)):Option Bool:=
 (y7 ([([110,101,119]:List UInt8),([102,117,122,122,121]:List UInt8),([116,114,97,110,115,108,97,116,101,100]:List UInt8),([114,101,118,105,101,119,101,100]:List UInt8),([111,98,115,111,108,101,116,101]:List UInt8)]:List (List UInt8)) O).bind fun Z=>
 some (Z)
attribute [irreducible] M5
def IN (O:(List UInt8)) (Z:Int):(Int×Int)→Option ((Int×Int)⊕(Int⊕Int)):=fun(aA,aB)=>
 if (decide (aB<(List.length O:Int)))=true then
  if 0≤aB∧aB<(List.length O:Int) then
   (GH (p9 O aB) Z).bind fun aC=>
   if (decide (aC<(0:Int)))=true then
    some (.inr (.inr ((-1:Int))))
   else
    if i64 (Z*aA) then
     if i64 ((Z*aA)+aC) then
      if i64 (aB+(1:Int)) then
       some (.inl (((Z*aA)+aC),(aB+(1:Int))))
      else none
     else none
    else none
  else none
 else
  some (.inr (.inl aA))
def BK (O:(List UInt8)) (Z:Int):Option Int:=
 qP (pF (IN O Z) ((0:Int),(0:Int))) fun aA=>
 if (decide (O=([]:List UInt8)))=true then
  some ((-1:Int))
 else
  some (aA)
section
variable (O:(List UInt8)) (Z:Int)
@[reducible] def a1c:List Slot:=[(.val .str O,none),(.val (.int .i64) Z,none)]
@[reducible] def a1d:List Blk:=[]
@[go_sem] def a1e:Ret:=⟨[((BK O Z)).isSome=true],[(.val (.int .i64) (val (BK O Z)),none)],[]⟩
def a9N:List Slot→List Blk→Option Ret:=pR (V:=((List UInt8)×Int)) (fun x=>a1c x.1 x.2) (fun x=>a1d) fun x=>a1e x.1 x.2
@[go_sem] theorem aKA:a9N (no_index (a1c O Z)) (no_index a1d)=some (a1e O Z):=pT (fun⟨a0,a1⟩ ⟨b0,b1⟩ h1 h2=>by cases h1;cases h2;rfl) (O,Z)
end
@[reducible,go_sem] def a1f:Nat×Sig:=(204,⟨[.v,.v],a9N,[],[],none⟩)
theorem yY:Env Tryz.prog [q7] (pK [a8Z]):=⟨⟨q8,trivial⟩,pA aFO pS,pM⟩
theorem a9O:pN Tryz.prog a1f:=by
 refine pU yY Tryz.func204 (c:=_) rfl (N:=29) (by kernel_rfl) (ts:=[(4,none)]) rfl (fun _ _=>rfl) ?_
 intro⟨O,Z⟩ hs hrow
 dsimp only[a1c,a1d,a1e,pP,enumH,pB,pL,pQ,Nat.reduceAdd] at hs hrow⊢
 have hz:=hs
 obtain⟨z0,hC0⟩:=Option.isSome_iff_exists.1 hz
 try rw[pY hC0]
 clear hz hs
 unfold BK at hC0
 refine oU yY ?_
 refine oU yY ?_
 refine p5 ?_
 refine oU yY ?_
 refine pV ?_
 obtain⟨y1,hy1,hC0⟩:=t8 hC0
 refine s9 0 (fun s=> ∃v,y1= .inl v∧s=(fun x=>⟨[(0,(.val .str O,none)),(5,(.val (.int .i64) x,none))],[],0,29,0⟩) v) ?_ ?_
 ·refine s8 hy1 (fun x=>⟨[(0,(.val .str O,none)),(1,(.val (.int .i64) Z,none)),(5,(.val (.int .i64) x.1,none)),(6,(.val (.int .i64) x.2,none))],[],0,29,0⟩) ⟨[0,1,5,6],[]⟩ (by rfl) ?_
  intro x1 w1 n1 hC1 hN1
  obtain⟨aA,aB⟩:=x1
  unfold IN at hC1
  dsimp only at hC1⊢
  refine p5 ?_
  refine oU yY ?_
  refine oZ hC1 (fun hC1 hc1=> ?_) (fun hC1 hc1=> ?_)
  ·refine p7 (p4 (p5 (pV ?_)))
   obtain⟨hg1,hC1⟩:=oY hC1
   obtain⟨aC,hv2,hw2,hC1⟩:=pJ hC1
   try simp only[go_sem] at hw2
   refine oU yY ?_ (hp:=by exact And.intro hg1 ((pI hv2))) (h:=by simp only[go_sem,hw2];rfl)
   refine p5 ?_
   refine oU yY ?_
   refine oZ hC1 (fun hC1 hc2=> ?_) (fun hC1 hc2=> ?_)
   ·refine oU yY ?_
    refine oW (p6 (pC (p6 (tJ (tI (pC (p6 ?_)))))))
    cases hC1
    cases hN1
    dsimp only at hC0
    cases hC0
    exact⟨[],by rfl,by rfl,by rfl⟩
   ·refine p7 (p4 ?_)
    obtain⟨hg3,hC1⟩:=oY hC1
    obtain⟨hg4,hC1⟩:=oY hC1
    refine pH yY ?_ (hp:=by exact And.intro hg3 (hg4))
    refine pE (p4 ?_)
    obtain⟨hg5,hC1⟩:=oY hC1
    refine pH yY ?_ (hp:=by exact hg5)
    cases hC1
    exact qV ⟨⟨[0,1,5,6],[]⟩,_,by rfl,hN1⟩
  ·refine s7 (s3 (sB ?_))
   cases hC1
   cases hN1
   exact sA ⟨⟨[0,5],[]⟩,_,rfl,by rfl⟩
 ·rintro _ ⟨aD,rfl,rfl⟩
  dsimp only at hC0⊢
  refine s5 (p4 (p5 ?_))
  refine oU yY ?_
  refine oZ hC0 (fun hC0 hc3=> ?_) (fun hC0 hc3=> ?_)
  ·refine oU yY ?_
   refine oW (p6 ?_)
   cases hC0
   exact⟨[],by rfl,by rfl,by rfl⟩
  ·refine p7 (p4 ?_)
   refine oU yY ?_
   refine oW ?_
   cases hC0
   exact⟨[],by rfl,by rfl,by rfl⟩
attribute [irreducible] BK
def IP:((List UInt8)×(List Int))→Option (((List UInt8)×(List Int))⊕(List Int)):=fun(O,Z)=>
 if (decide ((0:Int)<(List.length O:Int)))=true then
  (EL O).bind fun aA=>
  if (List.length Z+List.length ([aA.1]:List Int))*8≤140737488355328 then
   if 0≤aA.2∧aA.2≤(List.length O:Int)∧(List.length O:Int)≤(List.length O:Int) then
    some (.inl ((oV O aA.2 (List.length O:Int)),(Z++([aA.1]:List Int))))
   else none
  else none
 else
  some (.inr Z)
def EQ (O:(List UInt8)):Option (List Int):=
 pW (pF IP (O,([]:List Int))) fun Z=>
 some (Z)
section
variable (O:(List UInt8))
@[reducible] def a1g:List Slot:=[(.val .str O,none)]
@[reducible] def a1h:List Blk:=[]
@[go_sem] def a1i:Ret:=⟨[((EQ O)).isSome=true],[(.val (.list (.int .i64)) (val (EQ O)),some 0)],[.grow 3 1 (List.length (val (EQ O)))]⟩
def a9P:List Slot→List Blk→Option Ret:=pR (V:=(List UInt8)) (fun x=>a1g x) (fun x=>a1h) fun x=>a1i x
@[go_sem] theorem aKB:a9P (no_index (a1g O)) (no_index a1h)=some (a1i O):=pT (fun a0 b0 h1 h2=>by cases h1;cases h2;rfl) O
end
@[reducible,go_sem] def a9Q:Nat×Sig:=(208,⟨[.v],a9P,[],[],none⟩)
theorem ES:Env Tryz.prog [q7,AF] (pK [a83]):=⟨⟨q8,⟨CO,trivial⟩⟩,pA aFQ pS,pM⟩
theorem aF9:pN Tryz.prog a9Q:=by
 refine pU ES Tryz.func208 (c:=_) rfl (N:=22) (by kernel_rfl) (ts:=[(2,none)]) rfl (fun _ _=>rfl) ?_
 intro O hs hrow
 dsimp only[a1g,a1h,a1i,pP,enumH,pB,pL,pQ,Nat.reduceAdd] at hs hrow⊢
 have hz:=hs
 obtain⟨z0,hC0⟩:=Option.isSome_iff_exists.1 hz
 try rw[pY hC0]
 clear hz hs
 unfold EQ at hC0
 refine oU ES ?_
 refine oU ES ?_
 refine p5 (pV ?_)
 obtain⟨Z,hy1,hC0⟩:=oX hC0
 refine s9 0 (fun s=>s=(fun x=>⟨[(3,(.val (.list (.int .i64)) x,some 0))],[(0,.grow 3 1 (List.length x))],1,22,0⟩) Z) ?_ ?_
 ·refine s8 hy1 (fun x=>⟨[(0,(.val .str x.1,none)),(3,(.val (.list (.int .i64)) x.2,some 0))],[(0,.grow 3 1 (List.length x.2))],1,22,0⟩) ⟨[0,3],[(0,32)]⟩ (by rfl) ?_
  intro x1 w1 n1 hC1 hN1
  obtain⟨aA,aB⟩:=x1
  unfold IP at hC1
  dsimp only at hC1⊢
  refine p5 ?_
  refine oU ES ?_
  refine oZ hC1 (fun hC1 hc1=> ?_) (fun hC1 hc1=> ?_)
  ·refine p7 (p4 (pV ?_))
   obtain⟨aC,hv1,hw1,hC1⟩:=pJ hC1
   try simp only[go_sem] at hw1
   refine oU ES ?_ (hp:=by exact(pI hv1)) (h:=by simp only[go_sem,hw1];rfl)
   obtain⟨hg2,hC1⟩:=oY hC1
   refine oU ES ?_ (hp:=by exact And.intro (by first|exact rfl|exact trivial) (hg2))
   obtain⟨hg3,hC1⟩:=oY hC1
   refine pH ES ?_ (hp:=by exact hg3)
   refine pE ?_
   cases hC1
   exact qV ⟨⟨[0,3],[(0,0)]⟩,_,by rfl,hN1⟩
  ·refine s7 (s3 (sB ?_))
   cases hC1
   cases hN1
   exact sA ⟨⟨[3],[(0,0)]⟩,by rfl⟩
 ·rintro _ rfl
  dsimp only at hC0⊢
  refine s5 (p4 ?_)
  refine oU ES ?_
  refine oW ?_
  cases hC0
  exact⟨[(0,0)],by rfl,by rfl,by rfl⟩
attribute [irreducible] EQ
end
end Go.Proofs.YtfchbnahjcdiiaaGreatDoor
