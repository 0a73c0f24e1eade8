/- Packed by a program of mine (wip/tools/pack.py): the same texts with short names and few blanks. -/
import Derived.BigCall
import Derived.BigGuard
import Derived.Handy
import Derived.KernelRfl
import Derived.Lib.Hide
import Derived.Lib.ItoaMem
import Derived.Lib.MapLaws
import Derived.Lib.TrimAscii
import Derived.Lib.TrimUEq
import Derived.Lib.ValidLaws
import Derived.LoopIn
import Derived.LoopNIn
import Derived.OwnWalkIn
import Derived.RangeFuncBox
import Derived.RangeFuncLeaves
import Derived.Shelf.Abstract
import Derived.Shelf.Slices.Clone
import Derived.Shelf.Slices.In.SortNone
import Derived.Shelf.Small.Strs
import Derived.Shelf.Small.Utf8
import Derived.Shelf.Sort.Plain
import Derived.Shelf.Spec.SlicesInsertGrow
import Derived.Shelf.Strings.Builder1
import Derived.Shelf.Strings.Repeat
import Derived.Shelf.Strings.Runes
import Derived.Shelf.Strings.Search1
import Derived.Shelf.Strings.Search3
import Derived.Shelf.Strings.SlTrimAscii
import Derived.Shelf.Strings.Trim
import Derived.Shelf.Unicode.DecodeAny
import Derived.Shelf.Unicode.ValidAny
import Derived.TacticsInMore
import Derived.Test.YtbbpilohihldiaaGreatDoorChecked
import Derived.Test.YtbbpilohihldiaaGreatDoorProg
import Derived.WalkKit
import Derived.Test.YtbbpilohihldiaaGreatDoorY01
set_option linter.unusedVariables false
set_option linter.unusedSimpArgs false
set_option linter.unusedSectionVars false
section
set_option linter.unusedVariables false
namespace Go.Proofs
open Go.RowKit Go.Lib
def Tryz.lays137_ren:Go.Shelf.Ren:=⟨fun|137=>135|217=>182|266=>222|n=>n,fun|9=>9|5=>5|3=>3|n=>n,fun|n=>n⟩
theorem Tryz.lays137:Go.Proofs.Lays.n137 Tryz.prog Tryz.lays137_ren:={
 mixed:=by kernel_rfl
 f137:=Tryz.func135.trans (congrArg some (by kernel_rfl))
 f217:=Tryz.func182.trans (congrArg some (by kernel_rfl))
 f266:=Tryz.func222.trans (congrArg some (by kernel_rfl))
 t3:=Tryz.underlying3
 a3:=Tryz.isAgg3
 z3:=Tryz.sizeOf3
 v3:=Tryz.zeroValue3
 t5:=Tryz.underlying5
 a5:=Tryz.isAgg5
 z5:=Tryz.sizeOf5
 v5:=Tryz.zeroValue5
 t9:=Tryz.underlying9
 a9:=Tryz.isAgg9
 z9:=Tryz.sizeOf9
 v9:=Tryz.zeroValue9}
def Tryz.lays161_ren:Go.Shelf.Ren:=⟨fun|161=>97|231=>142|227=>143|233=>144|235=>145|228=>187|197=>188|151=>189|260=>223|152=>224|137=>135|119=>260|224=>249|225=>248|217=>182|266=>222|n=>n,fun|9=>9|4=>4|3=>3|5=>5|117=>179|116=>178|0=>0|124=>182|105=>214|21=>21|119=>254|46=>219|139=>257|138=>256|n=>n,fun|3=>1|4=>2|n=>n⟩
theorem Tryz.lays161:Go.Proofs.Lays.n161 Tryz.prog Tryz.lays161_ren:={
 mixed:=by kernel_rfl
 f119:=Tryz.func260.trans (congrArg some (by kernel_rfl))
 f137:=Tryz.func135.trans (congrArg some (by kernel_rfl))
 f151:=Tryz.func189.trans (congrArg some (by kernel_rfl))
 f152:=Tryz.func224.trans (congrArg some (by kernel_rfl))
 f161:=Tryz.func97.trans (congrArg some (by kernel_rfl))
 f197:=Tryz.func188.trans (congrArg some (by kernel_rfl))
 f217:=Tryz.func182.trans (congrArg some (by kernel_rfl))
 f224:=Tryz.func249.trans (congrArg some (by kernel_rfl))
 f225:=Tryz.func248.trans (congrArg some (by kernel_rfl))
 f227:=Tryz.func143.trans (congrArg some (by kernel_rfl))
 f228:=Tryz.func187.trans (congrArg some (by kernel_rfl))
 f231:=Tryz.func142.trans (congrArg some (by kernel_rfl))
 f233:=Tryz.func144.trans (congrArg some (by kernel_rfl))
 f235:=Tryz.func145.trans (congrArg some (by kernel_rfl))
 f260:=Tryz.func223.trans (congrArg some (by kernel_rfl))
 f266:=Tryz.func222.trans (congrArg some (by kernel_rfl))
 t0:=Tryz.underlying0
 a0:=Tryz.isAgg0
 z0:=Tryz.sizeOf0
 v0:=Tryz.zeroValue0
 t3:=Tryz.underlying3
 a3:=Tryz.isAgg3
 z3:=Tryz.sizeOf3
 v3:=Tryz.zeroValue3
 t4:=Tryz.underlying4
 a4:=Tryz.isAgg4
 z4:=Tryz.sizeOf4
 v4:=Tryz.zeroValue4
 t5:=Tryz.underlying5
 a5:=Tryz.isAgg5
 z5:=Tryz.sizeOf5
 v5:=Tryz.zeroValue5
 t9:=Tryz.underlying9
 a9:=Tryz.isAgg9
 z9:=Tryz.sizeOf9
 v9:=Tryz.zeroValue9
 t21:=Tryz.underlying21
 a21:=Tryz.isAgg21
 z21:=Tryz.sizeOf21
 v21:=Tryz.zeroValue21
 t46:=Tryz.underlying219
 a46:=Tryz.isAgg219
 z46:=Tryz.sizeOf219
 v46:=Tryz.zeroValue219
 t105:=Tryz.underlying214
 a105:=Tryz.isAgg214
 z105:=Tryz.sizeOf214
 v105:=Tryz.zeroValue214
 t116:=Tryz.underlying178
 a116:=Tryz.isAgg178
 z116:=Tryz.sizeOf178
 t117:=Tryz.underlying179
 a117:=Tryz.isAgg179
 z117:=Tryz.sizeOf179
 v117:=Tryz.zeroValue179
 t119:=Tryz.underlying254
 a119:=Tryz.isAgg254
 z119:=Tryz.sizeOf254
 t124:=Tryz.underlying182
 a124:=Tryz.isAgg182
 z124:=Tryz.sizeOf182
 v124:=Tryz.zeroValue182
 t138:=Tryz.underlying256
 a138:=Tryz.isAgg256
 z138:=Tryz.sizeOf256
 v138:=Tryz.zeroValue256
 t139:=Tryz.underlying257
 a139:=Tryz.isAgg257
 z139:=Tryz.sizeOf257
 v139:=Tryz.zeroValue257
 g3:=by kernel_rfl
 g4:=by kernel_rfl}
def Tryz.lays190_ren:Go.Shelf.Ren:=⟨fun|190=>147|125=>192|258=>191|128=>234|129=>235|302=>225|303=>226|304=>227|305=>228|306=>229|307=>230|308=>231|309=>232|310=>233|333=>261|329=>262|330=>263|334=>264|335=>265|336=>266|344=>279|n=>n,fun|31=>23|9=>9|3=>3|46=>219|0=>0|51=>241|53=>243|4=>4|183=>235|182=>234|131=>57|5=>5|218=>258|222=>262|228=>272|229=>224|n=>n,fun|n=>n⟩
theorem Tryz.lays190:Go.Proofs.Lays.n190 Tryz.prog Tryz.lays190_ren:={
 mixed:=by kernel_rfl
 f125:=Tryz.func192.trans (congrArg some (by kernel_rfl))
 f128:=Tryz.func234.trans (congrArg some (by kernel_rfl))
 f129:=Tryz.func235.trans (congrArg some (by kernel_rfl))
 f190:=Tryz.func147.trans (congrArg some (by kernel_rfl))
 f258:=Tryz.func191.trans (congrArg some (by kernel_rfl))
 f302:=Tryz.func225.trans (congrArg some (by kernel_rfl))
 f303:=Tryz.func226.trans (congrArg some (by kernel_rfl))
 f304:=Tryz.func227.trans (congrArg some (by kernel_rfl))
 f305:=Tryz.func228.trans (congrArg some (by kernel_rfl))
 f306:=Tryz.func229.trans (congrArg some (by kernel_rfl))
 f307:=Tryz.func230.trans (congrArg some (by kernel_rfl))
 f308:=Tryz.func231.trans (congrArg some (by kernel_rfl))
 f309:=Tryz.func232.trans (congrArg some (by kernel_rfl))
 f310:=Tryz.func233.trans (congrArg some (by kernel_rfl))
 f329:=Tryz.func262.trans (congrArg some (by kernel_rfl))
 f330:=Tryz.func263.trans (congrArg some (by kernel_rfl))
 f333:=Tryz.func261.trans (congrArg some (by kernel_rfl))
 f334:=Tryz.func264.trans (congrArg some (by kernel_rfl))
 f335:=Tryz.func265.trans (congrArg some (by kernel_rfl))
 f336:=Tryz.func266.trans (congrArg some (by kernel_rfl))
 f344:=Tryz.func279.trans (congrArg some (by kernel_rfl))
 t0:=Tryz.underlying0
 a0:=Tryz.isAgg0
 z0:=Tryz.sizeOf0
 v0:=Tryz.zeroValue0
 t3:=Tryz.underlying3
 a3:=Tryz.isAgg3
 z3:=Tryz.sizeOf3
 v3:=Tryz.zeroValue3
 t4:=Tryz.underlying4
 a4:=Tryz.isAgg4
 z4:=Tryz.sizeOf4
 v4:=Tryz.zeroValue4
 t5:=Tryz.underlying5
 a5:=Tryz.isAgg5
 z5:=Tryz.sizeOf5
 v5:=Tryz.zeroValue5
 t9:=Tryz.underlying9
 a9:=Tryz.isAgg9
 z9:=Tryz.sizeOf9
 v9:=Tryz.zeroValue9
 t31:=Tryz.underlying23
 a31:=Tryz.isAgg23
 z31:=Tryz.sizeOf23
 v31:=Tryz.zeroValue23
 t46:=Tryz.underlying219
 a46:=Tryz.isAgg219
 z46:=Tryz.sizeOf219
 v46:=Tryz.zeroValue219
 t51:=Tryz.underlying241
 a51:=Tryz.isAgg241
 z51:=Tryz.sizeOf241
 v51:=Tryz.zeroValue241
 t53:=Tryz.underlying243
 a53:=Tryz.isAgg243
 z53:=Tryz.sizeOf243
 v53:=Tryz.zeroValue243
 t131:=Tryz.underlying57
 a131:=Tryz.isAgg57
 z131:=Tryz.sizeOf57
 v131:=Tryz.zeroValue57
 t182:=Tryz.underlying234
 a182:=Tryz.isAgg234
 z182:=Tryz.sizeOf234
 v182:=Tryz.zeroValue234
 t183:=Tryz.underlying235
 a183:=Tryz.isAgg235
 z183:=Tryz.sizeOf235
 v183:=Tryz.zeroValue235
 t218:=Tryz.underlying258
 a218:=Tryz.isAgg258
 z218:=Tryz.sizeOf258
 v218:=Tryz.zeroValue258
 t222:=Tryz.underlying262
 a222:=Tryz.isAgg262
 z222:=Tryz.sizeOf262
 v222:=Tryz.zeroValue262
 t228:=Tryz.underlying272
 a228:=Tryz.isAgg272
 z228:=Tryz.sizeOf272
 v228:=Tryz.zeroValue272
 t229:=Tryz.underlying224
 a229:=Tryz.isAgg224
 z229:=Tryz.sizeOf224
 v229:=Tryz.zeroValue224}
def Tryz.lays196_ren:Go.Shelf.Ren:=⟨fun|196=>243|259=>271|n=>n,fun|0=>0|3=>3|4=>4|5=>5|9=>9|12=>12|46=>219|53=>243|119=>254|138=>256|139=>257|n=>n,fun|3=>1|4=>2|n=>n⟩
theorem Tryz.lays196:Go.Proofs.Lays.n196 Tryz.prog Tryz.lays196_ren:={
 mixed:=by kernel_rfl
 f196:=Tryz.func243.trans (congrArg some (by kernel_rfl))
 f259:=Tryz.func271.trans (congrArg some (by kernel_rfl))
 t0:=Tryz.underlying0
 a0:=Tryz.isAgg0
 z0:=Tryz.sizeOf0
 v0:=Tryz.zeroValue0
 t3:=Tryz.underlying3
 a3:=Tryz.isAgg3
 z3:=Tryz.sizeOf3
 v3:=Tryz.zeroValue3
 t4:=Tryz.underlying4
 a4:=Tryz.isAgg4
 z4:=Tryz.sizeOf4
 v4:=Tryz.zeroValue4
 t5:=Tryz.underlying5
 a5:=Tryz.isAgg5
 z5:=Tryz.sizeOf5
 v5:=Tryz.zeroValue5
 t9:=Tryz.underlying9
 a9:=Tryz.isAgg9
 z9:=Tryz.sizeOf9
 v9:=Tryz.zeroValue9
 t12:=Tryz.underlying12
 a12:=Tryz.isAgg12
 z12:=Tryz.sizeOf12
 v12:=Tryz.zeroValue12
 t46:=Tryz.underlying219
 a46:=Tryz.isAgg219
 z46:=Tryz.sizeOf219
 v46:=Tryz.zeroValue219
 t53:=Tryz.underlying243
 a53:=Tryz.isAgg243
 z53:=Tryz.sizeOf243
 v53:=Tryz.zeroValue243
 t119:=Tryz.underlying254
 a119:=Tryz.isAgg254
 z119:=Tryz.sizeOf254
 t138:=Tryz.underlying256
 a138:=Tryz.isAgg256
 z138:=Tryz.sizeOf256
 v138:=Tryz.zeroValue256
 t139:=Tryz.underlying257
 a139:=Tryz.isAgg257
 z139:=Tryz.sizeOf257
 v139:=Tryz.zeroValue257
 g3:=by kernel_rfl
 g4:=by kernel_rfl}
def Tryz.lays240_ren:Go.Shelf.Ren:=⟨fun|240=>93|276=>133|n=>n,fun|0=>0|4=>4|9=>9|20=>20|70=>82|72=>84|164=>168|37=>42|n=>n,fun|n=>n⟩
theorem Tryz.lays240:Go.Proofs.Lays.n240 Tryz.prog Tryz.lays240_ren:={
 mixed:=by kernel_rfl
 f240:=Tryz.func93.trans (congrArg some (by kernel_rfl))
 f276:=Tryz.func133.trans (congrArg some (by kernel_rfl))
 t0:=Tryz.underlying0
 a0:=Tryz.isAgg0
 z0:=Tryz.sizeOf0
 v0:=Tryz.zeroValue0
 t4:=Tryz.underlying4
 a4:=Tryz.isAgg4
 z4:=Tryz.sizeOf4
 v4:=Tryz.zeroValue4
 t9:=Tryz.underlying9
 a9:=Tryz.isAgg9
 z9:=Tryz.sizeOf9
 v9:=Tryz.zeroValue9
 t20:=Tryz.underlying20
 a20:=Tryz.isAgg20
 z20:=Tryz.sizeOf20
 v20:=Tryz.zeroValue20
 t70:=Tryz.underlying82
 a70:=Tryz.isAgg82
 z70:=Tryz.sizeOf82
 v70:=Tryz.zeroValue82
 t72:=Tryz.underlying84
 a72:=Tryz.isAgg84
 z72:=Tryz.sizeOf84
 v72:=Tryz.zeroValue84
 t164:=Tryz.underlying168
 a164:=Tryz.isAgg168
 z164:=Tryz.sizeOf168
 v164:=Tryz.zeroValue168}
theorem Tryz.builderX72:Builder.X72 Tryz.prog Tryz.lays240_ren:={
 sizeBuilder:=by kernel_rfl
 liesBuilder:=by kernel_rfl}
def Tryz.lays169_ren:Go.Shelf.Ren:=⟨fun|169=>54|n=>n,fun|70=>82|9=>9|0=>0|72=>84|37=>42|127=>125|3=>3|5=>5|n=>n,fun|n=>n⟩
theorem Tryz.lays169:Go.Proofs.Lays.n169 Tryz.prog Tryz.lays169_ren:={
 mixed:=by kernel_rfl
 f169:=Tryz.func54.trans (congrArg some (by kernel_rfl))
 t0:=Tryz.underlying0
 a0:=Tryz.isAgg0
 z0:=Tryz.sizeOf0
 v0:=Tryz.zeroValue0
 t3:=Tryz.underlying3
 a3:=Tryz.isAgg3
 z3:=Tryz.sizeOf3
 v3:=Tryz.zeroValue3
 t9:=Tryz.underlying9
 a9:=Tryz.isAgg9
 z9:=Tryz.sizeOf9
 v9:=Tryz.zeroValue9
 t37:=Tryz.underlying42
 a37:=Tryz.isAgg42
 z37:=Tryz.sizeOf42
 v37:=Tryz.zeroValue42
 t70:=Tryz.underlying82
 a70:=Tryz.isAgg82
 z70:=Tryz.sizeOf82
 v70:=Tryz.zeroValue82
 t72:=Tryz.underlying84
 a72:=Tryz.isAgg84
 z72:=Tryz.sizeOf84
 v72:=Tryz.zeroValue84
 t127:=Tryz.underlying125
 a127:=Tryz.isAgg125
 z127:=Tryz.sizeOf125
 v127:=Tryz.zeroValue125}
theorem Tryz.builderExtra:Builder.Extra Tryz.prog Tryz.lays169_ren:={
 sizeBuilder:=by kernel_rfl
 liesBuilder:=by kernel_rfl
 t5:=Tryz.underlying5
 a5:=Tryz.isAgg5
 z5:=Tryz.sizeOf5
 v5:=Tryz.zeroValue5
 infoByte:=by kernel_rfl
 cellsByte:=by kernel_rfl
 sizeByte:=by kernel_rfl
 neB5:=by decide}
end Go.Proofs
end
namespace Go.Proofs.YtbbpilohihldiaaGreatDoor
open Vc Go.RowKit
theorem aHy {g:Gh}{w w':World}(hH:HeapOk g w (enumH 0 [])) (hb:Below w.heap.size w w'):HeapOk g w' (enumH 0 []):=
 ⟨fun _ _ h=>(by cases h),fun _ _ _ _ _ _ _ h=>(by cases h),fun b o h=>Nat.lt_of_lt_of_le (hH.sl b o h) hb.size,⟨KK hH.tab.1 hb.size fun b h=>hb.block b (Nat.lt_of_lt_of_le h hH.tab.1.1),fun _ _ _ _ h=>(by cases h)⟩⟩
theorem GE {P:Program}{f:FuncId}{C:List Slot→List Blk→Option Ret}(hen: ∀args w,(callFunc f args).run P w= .ok (.enter f args) w)
  (h: ∀(g:Gh) (w:World) (args:List Slot) (vals:List Value) (L:List Blk) (r:Ret),Tabs w→ArgsOk g w args vals→C args L=some r→(∀p∈r.side,p)→
   L=[]∧r.H=[]∧Calls P f vals.toArray w (fun e w'=> ∃v,e= .returned v∧Below w.heap.size w w'∧RetVals g w' r.ret v)):wD P f C:=by
 refine⟨hen,fun g w args vals L r hH ha hC hs=> ?_⟩
 obtain⟨rfl,hr,hc⟩:=h g w args vals L r hH.tab.1 ha hC hs
 refine hc.mono fun e w' ⟨v,he,hb,hv⟩=>⟨v,g,he,⟨fun b o h=>⟨h,hb.cell (p:=⟨b,o,none⟩) (hH.sl b o h)⟩,by rw[hr];exact aHy hH hb,hv,⟨hb.os,hb.tape,hb.output,hb.size,fun b h _=>hb.block b h,fun b o h _=>⟨hb.cell (p:=⟨b,o,none⟩) h,hb.frozen (p:=⟨b,o,none⟩) h⟩,fun b o h=> .inl h,fun b s h=> .inl ((A4 (hb.block b (A3 h))).trans h)⟩,(fun i blk b o h=>by rw[hr] at h;cases h),(fun i t x ts h=>by cases h),(fun i t x ts u y us h=>by cases h),(fun _ _ _ h=>h),(fun _ _ _ _ h=>h)⟩⟩
theorem aHz {P:Program}{f:FuncId}{vals:Array Value}{w:World}{Q:Ending→Prop}(h:Calls P f vals w fun e w'=>Q e∧w'=w):Calls P f vals w fun e w'=>Q e∧Below w.heap.size w w':=
 h.mono fun e w' ⟨h1,h2⟩=>⟨h1,by rw[h2];exact Below.refl _ _⟩
def rW (s:List UInt8) (c:Int):Int:=Lib.indexByte s (Int.toNat c).toUInt8
@[go_sem] def WZ:List Slot→List Blk→Option Ret
 |[(.val .str O,none),(.val (.int .u8) Z,none)],[]=>some ⟨[],[(.val (.int .i64) (rW O Z),none)],[]⟩
 |_,_=>none
set_option maxRecDepth 100000 in
theorem aHA:wD Tryz.prog 135 WZ:=by
 refine GE (fun _ _=>rfl) fun g w args vals L r hT ha hC hs=> ?_
 unfold WZ at hC
 split at hC
 ·rename_i s c
  cases hC
  obtain⟨va,_,rfl,ra,vb,_,rfl,rb,hv⟩:=ha
  obtain rfl:=vQ ra.1
  obtain rfl:=tC rb.1
  cases hv
  exact⟨rfl,rfl,(aHz (Any.strings_IndexByte Tryz.lays137 ⟨List.toArray s⟩ c w)).mono fun e w' ⟨he,hb⟩=>⟨_,he,hb,tV _ _ _ _,trivial⟩⟩
 ·cases hC
@[go_sem] def X0:List Slot→List Blk→Option Ret
 |[(.val .str O,none),(.val .str Z,none)],[]=>some ⟨[(List.all Z fun b=>decide (b.toNat<128))=true∧List.length Z<4294967281],[(.val .str (Lib.trimLeftS O Z),none)],[]⟩
 |_,_=>none
set_option maxRecDepth 100000 in
theorem aHB:wD Tryz.prog 97 X0:=by
 refine GE (fun _ _=>rfl) fun g w args vals L r hT ha hC hs=> ?_
 unfold X0 at hC
 split at hC
 ·rename_i s c
  cases hC
  obtain⟨h1,h2⟩:=hs _ List.mem_cons_self
  obtain⟨va,_,rfl,ra,vb,_,rfl,rb,hv⟩:=ha
  obtain rfl:=vQ ra.1
  obtain rfl:=vQ rb.1
  cases hv
  exact⟨rfl,rfl,(Any.strings_TrimLeft_laid Tryz.lays161 (by kernel_rfl) ⟨List.toArray s⟩ ⟨List.toArray c⟩ w h2 (ascii_of_all h1)).mono fun e w' ⟨he,hb⟩=>⟨_,he,hb,B6 _ _ _,trivial⟩⟩
 ·cases hC
@[go_sem] def X1:List Slot→List Blk→Option Ret
 |[(.val .str O,none)],[]=>some ⟨[List.length O≤9223372036854775807],[(.val .bool (Lib.validD O),none)],[]⟩
 |_,_=>none
set_option maxRecDepth 100000 in
theorem aHC:wD Tryz.prog 243 X1:=by
 refine GE (fun _ _=>rfl) fun g w args vals L r hT ha hC hs=> ?_
 unfold X1 at hC
 split at hC
 ·rename_i s
  cases hC
  have h1:=hs _ List.mem_cons_self
  obtain⟨va,_,rfl,ra,hv⟩:=ha
  obtain rfl:=vQ ra.1
  cases hv
  exact⟨rfl,rfl,(Any.utf8_ValidString Tryz.lays196 ⟨List.toArray s⟩ w h1 hT.2.1).mono fun e w' ⟨he,hb⟩=>⟨_,he,hb,tP _ _ _,trivial⟩⟩
 ·cases hC
end Go.Proofs.YtbbpilohihldiaaGreatDoor
namespace Go.Proofs.YtbbpilohihldiaaGreatDoor
open Vc Go.RowKit
@[go_sem] def g6:List Slot→List Blk→Option Ret:=fun _ _=>none
def tN (l:List (List UInt8)):List (List UInt8):=l.mergeSort fun x y=>decide (x≤y)
@[go_sem] def a9t:(t:Ty)→List t.den→Option (List t.den)
 | .str,l=>some (tN l)
 |_,_=>none
theorem a9u {g:Gh}{w:World}: ∀{l:List (List UInt8)}{xs:List Value},rC (Rd g w .str) 1 l xs→xs=l.map Go.Proofs.encStr
 |[],_,h=>h
 |_::_,_,⟨c1,c2,e,_,h2,h3⟩=>by rw[e,show c1=_ from h2,a9u h3];rfl
theorem a9v {g:Gh}{w:World}: ∀(l:List (List UInt8)),rC (Rd g w .str) 1 l (l.map Go.Proofs.encStr)
 |[]=>rfl
 |x::l=>⟨[.string ⟨x.toArray⟩],_,rfl,rfl,rfl,a9v l⟩
theorem aHD (s:List (List UInt8)) (cur:Array Value) (h:s.length≤cur.size):(Go.Sort.putCells Go.Proofs.encStr 0 s.toArray cur).toList.take s.length=s.map Go.Proofs.encStr:=by
 apply List.ext_getElem
 ·simp [Go.Sort.putCells];omega
 ·intro i h1 h2
  have hi:i<s.length:=by simpa using h2
  simp only[Go.Sort.putCells,List.getElem_take,Array.getElem_toList,Array.getElem_mapIdx,List.getElem_map]
  rw[if_pos (by simp;exact hi)]
  simp [hi]
set_option maxRecDepth 100000 in
theorem aHE:wD Tryz.prog 147 g6∧∀F,some a9t=some F→Q7 Tryz.prog 147 F:=by
 refine⟨⟨fun _ _=>rfl,fun g w args vals L r _ _ hC _=>by cases hC⟩,fun F hF=> ?_⟩
 cases hF
 intro g w e t l l' v n xs hT hown hF hl hn hf
 cases t with
 |str=>
  have hf:tN l=l':=Option.some.inj hf
  subst hf
  subst hl
  have hlen:(tN l).length=l.length:=by simp [tN]
  obtain⟨hx,⟨rfl,h0⟩ |⟨b,cap,cur,rfl,hb0,hbk,hnc,hcm,hcs,htk⟩⟩:=hown
  ·obtain rfl:l=[]:=List.length_eq_zero_iff.1 h0
   refine(Any.slices_Sort_string_none Tryz.lays190 none 0 w).mono ?_
   rintro en w' ⟨rfl,rfl⟩
   exact⟨rfl,hlen,[],⟨rfl,.inl ⟨rfl,rfl⟩⟩,by simp [tN,rC],⟨rfl,rfl,rfl,Nat.le_refl _,fun _ _ _=>rfl⟩⟩
  ·have hxs:=a9u hF
   subst hxs
   have hc1:(Ty.str).cells=1:=rfl
   rw[hc1,Nat.mul_one] at hcs htk
   have hbl:b<w.heap.size:=by
    rcases Nat.lt_or_ge b w.heap.size with h|h
    ·exact h
    ·rw[Array.getElem?_eq_none h] at hbk;cases hbk
   have hH:Go.Sort.Holds Go.Proofs.encStr w b 0 l.toArray:=by
    intro j hj
    have hj':j<l.length:=by simpa using hj
    refine⟨?_,Lib.frozen_of_heap hbk _⟩
    rw[Lib.cell_of_heap hbk,Nat.zero_add]
    have h2:(cur.toList.take l.length)[j]? =(l.map Go.Proofs.encStr)[j]? :=by rw[htk]
    rw[List.getElem?_take_of_lt hj',Array.getElem?_toList] at h2
    rw[h2]
    simp [hj']
   refine(Any.slices_Sort_string Tryz.lays190 b 0 cap l w hH hbl hn).mono ?_
   rintro en w' ⟨rfl,m,os,rfl⟩
   have hsz:(tN l).length≤cur.size:=by rw[hlen,hcs];exact hnc
   have hnew:(Go.Sort.grow (Go.Sort.putRow Go.Proofs.encStr (Go.Sort.ahead w m) b 0 (tN l).toArray) os).heap[b]? =some (.cells (Go.Sort.putCells Go.Proofs.encStr 0 (tN l).toArray cur) e (0,0)):=by
    rw[Go.Sort.heap_grow_old _ _ (by simpa using hbl)]
    simp [Go.Sort.putRow,Go.Sort.mapBlock,Array.getElem?_modify,hbk,Go.Sort.onCells]
   refine⟨rfl,hlen,(tN l).map Go.Proofs.encStr,⟨by simp [hlen,hc1],.inr ⟨b,cap,_,rfl,hb0,hnew,hnc,hcm,?_,?_⟩⟩,a9v _,⟨rfl,rfl,rfl,by simp,fun k hk hne=> ?_⟩⟩
   ·rw[hc1,Nat.mul_one];simpa[Go.Sort.putCells] using hcs
   ·rw[hc1,Nat.mul_one,←hlen];exact aHD _ _ hsz
   ·rw[Go.Sort.heap_grow_old _ _ (by simpa using hk)]
    have hkb:b≠k:=fun h=>hne (by rw[h];rfl)
    simp [Go.Sort.putRow,Go.Sort.mapBlock,Array.getElem?_modify,hkb]
 |_=>cases hf
@[go_sem] def X2:List Slot→List Blk→Option Ret
 |[(.val .ref (some (0,0)),none)],[.cells (.pair .mref (.pair (.list (.int .u8)) .unit)) ((some (0,0)),O) [(1,1)],.grow Z 1 aA]=>some ⟨[aA=List.length O.1],[],[.cells (.pair .mref (.pair (.list (.int .u8)) .unit)) ((some (0,0)),O) [(1,1)],.grow Z 1 aA]⟩
 |_,_=>none
theorem aHF {g:Gh}{w:World}{L:List Blk}{e:Eff}{w':World}{u v:Value}{r:Ret}(hE:EffOk g w (enumH 0 L) e g w' u)
  (hH: ∀i,getH (enumH 0 r.H) i=getH (app e.upd (enumH 0 L)) i) (hin: ∀i,i∈idsOf e.upd→i<L.length) (hlen:r.H.length=L.length)
  (hp: ∀i blk b o,r.H[i]? =some blk→owns g i blk b o→w.heap.size≤b∨ownsAny g (enumH 0 L) b o)
  (hty: ∀(i:Nat) t x ts u y us,L[i]? =some (.cells t x ts)→r.H[i]? =some (.cells u y us)→u=t)
  (hret:RetVals g w' r.ret v):RetOk g w L r g w' v:=
 ⟨fun b o h=>⟨h,hE.le.cell b o h⟩,hE.heap.ext hH,hret,hE.fr.mono fun b o ⟨i,blk,_,h1,h2⟩=>⟨i,blk,h1,h2⟩,hp,fun _ _ _ _ _=>rfl,hty,fun _ _ _ h=>h,fun _ _ _ _ h=>h⟩
set_option maxHeartbeats 1000000 in
set_option maxRecDepth 100000 in
theorem aHG {P:Program}{ρ:Go.Shelf.Ren}(L:Lays.n240 P ρ) (X:Builder.X72 P ρ) {e:TypeId}(b:Nat) (w:World) (h0:w.cell? ⟨b,0,none⟩=some (.pointer none)) (hsh:w.shape? b=some (e,2)) (hl:liesAt P P.depth e (2/P.cellsOf e) 0 (ρ.t 72) 1=true) (hfz:w.frozen? ⟨b,0,none⟩=false):
  Calls P (ρ.f 240) #[.pointer (some ⟨b,0,none⟩)] w fun en w'=>en= .returned (.tuple #[])∧w'=w.setCell ⟨b,0,none⟩ (.pointer (some ⟨b,0,none⟩)):=by
 obtain⟨j,hj,hjs⟩:=Option.map_eq_some_iff.1 X.sizeBuilder
 have mixed:=L.mixed
 have t72:=L.t72;have a72:=L.a72;have z72:=L.z72;have v72:=L.v72;have u72:=run_underlying L.t72
 have t70:=L.t70;have a70:=L.a70;have z70:=L.z70;have v70:=L.v70;have u70:=run_underlying L.t70
 have t9:=L.t9;have a9:=L.a9;have z9:=L.z9;have v9:=L.v9;have u9:=run_underlying L.t9
 have t4:=L.t4;have a4:=L.a4;have z4:=L.z4;have v4:=L.v4;have u4:=run_underlying L.t4
 have t164:=L.t164;have a164:=L.a164;have z164:=L.z164;have v164:=L.v164;have u164:=run_underlying L.t164
 go_enter L.f240,Body.n240_ntmps ρ
 go_wp2
 rw[Lib.run_to_unsafe w ⟨b,0,none⟩ L.t70 L.t164 hj (by rw[hjs];decide) hsh (Nat.zero_lt_succ 1)]
 simp only[Result.andThen]
 rw[Oper.upon_value]
 go_wp2
 rw[run_callFunc_extern L.f276 (by kernel_rfl) (by kernel_rfl) (by kernel_rfl) (e:=Extern.AbiNoEscape.same) (by kernel_rfl)]
 rw[Lib.run_noEscape]
 simp only[Result.andThen]
 rw[Oper.upon_value]
 go_wp2
 rw[Lib.run_from_unsafe w ⟨b,0,none⟩ L.t164 L.t70 hj hsh hl]
 simp only[Result.andThen]
 rw[Oper.upon_value]
 go_wp2
 go_end0
 exact⟨rfl,rfl⟩
set_option maxRecDepth 100000 in
theorem aHH:wD Tryz.prog 93 X2:=by
 refine⟨fun _ _=>rfl,fun g w args vals L r hH ha hC hs=> ?_⟩
 unfold X2 at hC
 split at hC
 ·rename_i O Z aA
  cases hC
  obtain⟨va,_,rfl,ra,hv⟩:=ha
  cases hv
  have hg0:getH (enumH 0 [Blk.cells (.pair .mref (.pair (.list (.int .u8)) .unit)) ((some (0,0)),O) [(1,1)],.grow Z 1 aA]) 0=some (.cells (.pair .mref (.pair (.list (.int .u8)) .unit)) ((some (0,0)),O) [(1,1)]):=rfl
  obtain⟨p,cs,hJ,hR,hra,hth,hns,htk⟩:=hH.blk 0 _ hg0
  obtain⟨c1,c2,rfl,hR1,hR2⟩:=hR
  obtain⟨p',hJ',⟨hp0,eb,heb,hk3⟩,hc1⟩:=hR1
  rw[hJ] at hJ'
  obtain rfl:=Option.some.inj hJ'
  obtain⟨b,o,k⟩:=p
  have ho:o=0:=by simpa using hp0
  subst ho
  have hlies:liesAt Tryz.prog Tryz.prog.depth eb (2/Tryz.prog.cellsOf eb) 0 84 1=true:=by
   unfold UA at heb
   split at heb
   ·rename_i h;subst h;kernel_rfl
   ·split at heb
    ·rename_i h;subst h;kernel_rfl
    ·cases heb
  have hva:va= .pointer (some ⟨b,0,none⟩):=by
   obtain⟨q,hq,e⟩:=xG ra.1
   rw[hJ] at hq
   cases hq
   exact e
  subst hva
  have hsh:w.shape? b=some (eb,2):=hth.2 (by decide) _ hk3
  rcases hc1 with rfl|rfl
  ·have h0:w.cell? ⟨b,0,none⟩=some (.pointer none)∧w.frozen? ⟨b,0,none⟩=false:=⟨hra 0 _ rfl,(hth.1 0 (by decide)).2⟩
   refine(aHG Tryz.lays240 Tryz.builderX72 b w h0.1 hsh hlies h0.2).mono ?_
   rintro en w' ⟨rfl,rfl⟩
   refine⟨_,g,rfl,?_⟩
   have hE:=EffOk.store (side:=[]) (rds:=[]) hH (i:=0) (t:= .mref) (y:=some (0,0)) (off:=0) (k:=none) (p:=⟨b,0,k⟩) (cy:=[.pointer (some ⟨b,0,none⟩)]) (v:= .pointer (some ⟨b,0,none⟩)) hg0 hJ (z:=((some (0,0)),O)) (by rfl) ⟨_,hJ,⟨rfl,_,heb,hk3⟩,.inr rfl⟩ trivial (fun _ _ h=>by cases h) (fun _=>rfl)
   refine aHF hE.1 ?_ ?_ rfl ?_ ?_ ?_
   ·intro i
    match i with
    |0=>rfl
    |1=>rfl
    |i+2=>rfl
   ·intro i hi
    simp [idsOf] at hi
    subst hi
    exact Nat.zero_lt_succ _
   ·intro i blk b o hi ho
    exact .inr ⟨i,blk,by rw[Q6];simpa using hi,ho⟩
   ·intro i t x ts u y us h1 h2
    rw[h1] at h2
    cases h2
    rfl
   ·exact⟨[],rfl,rfl⟩
  ·have h0:w.cell? ⟨b,0,none⟩=some (.pointer (some ⟨b,0,none⟩)):=hra 0 _ rfl
   refine(Any.Builder_copyCheck_used Tryz.lays240 Tryz.builderX72 b w h0).mono ?_
   rintro en w' ⟨rfl,rfl⟩
   refine⟨_,g,rfl,⟨fun b o h=>⟨h,rfl⟩,hH,⟨[],rfl,rfl⟩,Fr.refl _ _ _,?_,fun _ _ _ _ _=>rfl,?_,fun _ _ _ h=>h,fun _ _ _ _ h=>h⟩⟩
   ·intro i blk b o hi ho
    exact .inr ⟨i,blk,by rw[Q6];simpa using hi,ho⟩
   ·intro i t x ts u y us h1 h2
    rw[h1] at h2
    cases h2
    rfl
 ·cases hC
theorem a9w {P:Program}(w:World): ∀(l:List Int) (a:Addr) (acc:ByteArray),(∀j x,l[j]? =some x→w.cell? (a.add j)=some (.int .u8 x))→
  (loadBytes a acc l.length).run P w= .ok ⟨acc.data++(qR l).toArray⟩ w
 |[],a,acc,_=>by simp [loadBytes,qR]
 |x::l,a,acc,h=>by
  have h0:w.cell? a=some (.int .u8 x):=by
   have:=h 0 x rfl
   simpa[Addr.add] using this
  have ih:=a9w (P:=P) w l (a.add 1) (acc.push (UInt8.ofNat x.toNat)) (fun j y hy=>by
   have:=h (j+1) y (by simpa using hy)
   have e:(a.add 1).add j=a.add (j+1):=by
    unfold Addr.add
    by_cases hj:j=0
    ·subst hj;simp
    ·simp [hj];omega
   rw[e];exact this)
  have hx:x.toNat.toUInt8=UInt8.ofNat x.toNat:=rfl
  simp only[List.length_cons,loadBytes,Sem.run_bind,run_load,h0,Result.andThen,hx]
  rw[ih]
  congr 1
  apply ByteArray.ext
  simp [ByteArray.push,qR]
theorem aHI {P:Program}(w:World) (pt it ty e:TypeId) (hp:P.underlying pt=some (.pointer e)) (hc:P.cellsOf e=1) (g cells:Nat) (hsh:w.shape? g=some (e,cells)) (l:List Int) (h0:l≠[]) (hn:l.length≤cells) (h63:l.length≤9223372036854775807)
  (hcell: ∀j x,l[j]? =some x→w.cell? ((⟨g,0,none⟩:Addr).add j)=some (.int .u8 x)):
  (Builtin.unsafeString_ #[pt,it] ty #[.pointer (some ⟨g,0,none⟩),.int .i64 l.length]).run P w= .ok (.string ⟨(qR l).toArray⟩) (w.freeze ⟨g,0,none⟩ l.length):=by
 have hl:l.length≠0:=by simpa using h0
 have hlb:=a9w (P:=P) w l ⟨g,0,none⟩ .empty hcell
 have hlies:=Lib.liesAt_bytes (P:=P) hc (cells/P.cellsOf e) l.length (by rw[hc];simpa using hn)
 have h63': ¬(9223372036854775807:Int)<(l.length:Int):=by omega
 have hdef:Builtin.unsafeString_ #[pt,it] ty #[.pointer (some ⟨g,0,none⟩),.int .i64 l.length]=
   (do
    let n←asInt (.int .i64 l.length)
    if n<0 then runtimePanic (.error "unsafe.String: len out of range")
    if n>IntKind.i64.max then unsupported (.unsafePointer "String: a length above the largest int")
    if n=0 then pure (.string .empty)
    else if←variablesAt ⟨g,0,none⟩ (←elemOf pt) n.toNat then do
     let s←loadBytes ⟨g,0,none⟩ .empty n.toNat
     freeze ⟨g,0,none⟩ n.toNat
     pure (.string s)
    else unsupported (.unsafePointer "String: not so many bytes at ptr")):=rfl
 rw[hdef]
 have hmax:IntKind.i64.max=9223372036854775807:=rfl
 have hneg: ¬(l.length:Int)<0:=by omega
 simp [asInt,asIntOf,hmax,h63',hneg,hl,variablesAt,hsh,elemOf,run_underlying hp,hlies,hlb]
set_option maxHeartbeats 2000000 in
set_option maxRecDepth 100000 in
theorem X3 {P:Program}{ρ:Go.Shelf.Ren}(L:Lays.n169 P ρ) (X:Builder.Extra P ρ) (b n cap:Nat) (a q:Option Addr) (s:ByteArray) (w w2:World)
  (c1:w.drew.cell? ⟨b,1,none⟩=some (.slice a n cap)) (hSD:(Builtin.unsafeSliceData_ #[(ρ.t 37)] (ρ.t 127) #[.slice a n cap]).run P w.drew= .ok (.pointer q) w.drew)
  (hUS:(Builtin.unsafeString_ #[(ρ.t 127),(ρ.t 3)] (ρ.t 9) #[.pointer q,.int .i64 n]).run P w.drew= .ok (.string s) w2):
  Calls P (ρ.f 169) #[.pointer (some ⟨b,0,none⟩)] w fun e w'=>e= .returned (.string s)∧w'=w2:=by
 have mixed:=L.mixed
 have t72:=L.t72;have a72:=L.a72;have z72:=L.z72;have v72:=L.v72;have u72:=run_underlying L.t72
 have t70:=L.t70;have a70:=L.a70;have z70:=L.z70;have v70:=L.v70;have u70:=run_underlying L.t70
 have t37:=L.t37;have a37:=L.a37;have z37:=L.z37;have v37:=L.v37;have u37:=run_underlying L.t37
 have t127:=L.t127;have a127:=L.a127;have z127:=L.z127;have v127:=L.v127;have u127:=run_underlying L.t127
 have t3:=L.t3;have a3:=L.a3;have z3:=L.z3;have v3:=L.v3;have u3:=run_underlying L.t3
 have t9:=L.t9;have a9:=L.a9;have z9:=L.z9;have v9:=L.v9;have u9:=run_underlying L.t9
 have t5:=X.t5;have a5:=X.a5;have z5:=X.z5;have v5:=X.v5;have u5:=run_underlying X.t5
 go_enter L.f169,Body.n169_ntmps ρ
 go_wp2
 go_region_o
 all_goals (go_wp2;go_ret;exact⟨rfl,rfl⟩)
set_option maxHeartbeats 2000000 in
set_option maxRecDepth 100000 in
theorem aHJ {P:Program}{ρ:Go.Shelf.Ren}(L:Lays.n169 P ρ) (X:Builder.Extra P ρ) (b g:Nat) (cur:Array Value) (w:World) (hlt:b<w.heap.size)
  (c1:w.drew.cell? ⟨b,1,none⟩=some (.slice (some ⟨g,0,none⟩) 0 0)) (hg:w.drew.heap[g]? =some (.cells cur (ρ.t 5) (0,0))):
  Calls P (ρ.f 169) #[.pointer (some ⟨b,0,none⟩)] w fun e w'=>e= .returned (.string ⟨#[]⟩)∧w'=w.drew.alloc (.view ⟨g,0,none⟩ (ρ.t 5)):=by
 have hUS:=Any.unsafeString_none L X
 have hSD:(Builtin.unsafeSliceData_ #[(ρ.t 37)] (ρ.t 127) #[.slice (some ⟨g,0,none⟩) 0 0]).run P w.drew= .ok (.pointer (some ⟨w.drew.heap.size,0,none⟩)) (w.drew.alloc (.view ⟨g,0,none⟩ (ρ.t 5))):=
  Lib.run_unsafeSliceData_zero w.drew _ _ (ρ.t 5) L.t127 ⟨g,0,none⟩ 0 ((ρ.t 5),cur.size) (by simp [World.shape?,hg])
 have c2:(w.drew.alloc (.view ⟨g,0,none⟩ (ρ.t 5))).cell? ⟨b,1,none⟩=some (.slice (some ⟨g,0,none⟩) 0 0):=
  (World.cell?_of_block (a:=⟨b,1,none⟩) (Lib.alloc_old w.drew _ b hlt)).trans c1
 have c3:(w.alloc (.view ⟨g,0,none⟩ (ρ.t 5))).drew.cell? ⟨b,1,none⟩=some (.slice (some ⟨g,0,none⟩) 0 0):=c2
 have c0:w.cell? ⟨b,1,none⟩=some (.slice (some ⟨g,0,none⟩) 0 0):=c1
 have mixed:=L.mixed
 have t72:=L.t72;have a72:=L.a72;have z72:=L.z72;have v72:=L.v72;have u72:=run_underlying L.t72
 have t70:=L.t70;have a70:=L.a70;have z70:=L.z70;have v70:=L.v70;have u70:=run_underlying L.t70
 have t37:=L.t37;have a37:=L.a37;have z37:=L.z37;have v37:=L.v37;have u37:=run_underlying L.t37
 have t127:=L.t127;have a127:=L.a127;have z127:=L.z127;have v127:=L.v127;have u127:=run_underlying L.t127
 have t3:=L.t3;have a3:=L.a3;have z3:=L.z3;have v3:=L.v3;have u3:=run_underlying L.t3
 have t9:=L.t9;have a9:=L.a9;have z9:=L.z9;have v9:=L.v9;have u9:=run_underlying L.t9
 have t5:=X.t5;have a5:=X.a5;have z5:=X.z5;have v5:=X.v5;have u5:=run_underlying X.t5
 go_enter L.f169,Body.n169_ntmps ρ
 go_wp2
 go_region_o
 all_goals (go_wp2;go_ret;exact⟨rfl,rfl⟩)
@[go_sem] def X4:List Slot→List Blk→Option Ret
 |[(.val .ref (some (0,0)),none)],[.cells (.pair .mref (.pair (.list (.int .u8)) .unit)) ((some (0,0)),O) [(1,1)],.grow 5 1 Z]=>some ⟨[Z=List.length O.1],[(.val .str (qR O.1),none)],[.cells (.pair .mref (.pair (.list (.int .u8)) .unit)) ((some (0,0)),O) [],.dead]⟩
 |_,_=>none
theorem X5 {g:Gh}{w w':World}{m:Option (Nat×Nat)}{b:(Ty.pair (.list (.int .u8)) .unit).den}{e n:Nat}{s:List UInt8}{sd:List Prop}(hH:HeapOk g w (enumH 0 [Blk.cells (.pair .mref (.pair (.list (.int .u8)) .unit)) (m,b) [(1,1)],.grow e 1 n]))
  (hos:w'.os=w.os) (htape:w'.tape=w.tape) (hout:w'.output=w.output) (hsz:w.heap.size≤w'.heap.size)
  (hcell: ∀b o,b<w.heap.size→w'.cell? ⟨b,o,none⟩=w.cell? ⟨b,o,none⟩) (hshape: ∀b s,w.shape? b=some s→w'.shape? b=some s)
  (hblk: ∀b,b<w.heap.size→(∀o,¬owns g 1 (.grow e 1 n) b o)→w'.heap[b]? =w.heap[b]?):
  RetOk g w [Blk.cells (.pair .mref (.pair (.list (.int .u8)) .unit)) (m,b) [(1,1)],.grow e 1 n] ⟨sd,[(.val .str s,none)],[.cells (.pair .mref (.pair (.list (.int .u8)) .unit)) (m,b) [],.dead]⟩ g w' (.string ⟨s.toArray⟩):=by
 have hg0:getH (enumH 0 [Blk.cells (.pair .mref (.pair (.list (.int .u8)) .unit)) (m,b) [(1,1)],.grow e 1 n]) 0=some (.cells (.pair .mref (.pair (.list (.int .u8)) .unit)) (m,b) [(1,1)]):=rfl
 have hg1:getH (enumH 0 [Blk.cells (.pair .mref (.pair (.list (.int .u8)) .unit)) (m,b) [(1,1)],.grow e 1 n]) 1=some (.grow e 1 n):=rfl
 have hle:Le g w g w':=⟨fun _ _ h=>h,fun b o h=>hcell b o (hH.sl b o h),fun _ _ h=>h,fun _ _ _ h=>h⟩
 have hno: ∀c o,owns g 0 (.cells (.pair .mref (.pair (.list (.int .u8)) .unit)) (m,b) [(1,1)]) c o→∀o',¬owns g 1 (.grow e 1 n) c o':=fun c o h o' h'=>by
  obtain⟨v,hv,hb⟩:=h'
  exact hH.dis 0 1 _ _ c o (by decide) hg0 hg1 h ⟨v,hv,hb⟩
 obtain⟨p,cs,hJ,hR,hra,hth,hns,htk⟩:=hH.blk 0 _ hg0
 have hown0: ∀j,j<2→owns g 0 (.cells (.pair .mref (.pair (.list (.int .u8)) .unit)) (m,b) [(1,1)]) p.1 (p.2+j):=fun j hj=>⟨p,hJ,rfl,Nat.le_add_right _ _,Nat.add_lt_add_left hj _⟩
 have hpl:p.1<w.heap.size:=LB (hH.blk 0 _ hg0) (hown0 0 (by decide))
 have hpb:w'.heap[p.1]? =w.heap[p.1]? :=hblk p.1 hpl (hno p.1 _ (hown0 0 (by decide)))
 have hbk0:BlkOk g w' 0 (.cells (.pair .mref (.pair (.list (.int .u8)) .unit)) (m,b) []):=
  ⟨p,cs,hJ,uS hle hR,fun j v hj=>(hcell _ _ hpl).trans (hra j v hj),⟨fun j hj=>by
   have h1:=hth.1 j hj
   rw[hcell _ _ hpl]
   exact⟨h1.1,(World.frozen?_of_block (a:=⟨p.1,p.2+j,none⟩) hpb).trans h1.2⟩,fun h s hs=>hshape _ _ (hth.2 h s hs)⟩,hns,fun _ _ h=>by cases h⟩
 refine⟨fun b o h=>⟨h,hcell b o (hH.sl b o h)⟩,?_,(show RdS g w' (.val .str s,none) (.string ⟨s.toArray⟩) from⟨B6 _ _ _,trivial⟩),⟨hos,htape,hout,hsz,?_,?_,fun _ _ h=> .inl h,fun b s h=> .inl (hshape b s h)⟩,?_,fun _ _ _ _ _=>rfl,?_,fun _ _ _ h=>h,fun _ _ _ _ h=>h⟩
 ·refine⟨fun i blk h=> ?_,fun i j bi bj c o hij hi hj hoi hoj=> ?_,fun b o h=>Nat.lt_of_lt_of_le (hH.sl b o h) hsz,KK hH.tab.1 hsz (fun c hc=>hblk c (Nat.lt_of_lt_of_le hc hH.tab.1.1) fun o ho=>absurd (hH.tab.2 1 _ c o hg1 ho) (by omega)),fun i blk c o h ho=> ?_⟩
  ·match i,h with
   |0,h=>cases h;exact hbk0
   |1,h=>cases h;trivial
   |i+2,h=>simp [enumH,getH] at h
  ·match i,j,hi,hj with
   |0,0,_,_=>exact hij rfl
   |0,1,_,hj=>cases hj;exact hoj
   |1,_,hi,_=>cases hi;exact hoi
   |0,j+2,_,hj=>simp [enumH,getH] at hj
   |i+2,_,hi,_=>simp [enumH,getH] at hi
  ·match i,h with
   |0,h=>cases h;exact hH.tab.2 0 _ c o hg0 ho
   |1,h=>cases h;exact ho.elim
   |i+2,h=>simp [enumH,getH] at h
 ·intro c hc hn
  exact hblk c hc fun o ho=>hn o ⟨1,_,hg1,ho⟩
 ·intro c o hc hn
  exact⟨hcell c o hc,World.frozen?_of_block (a:=⟨c,o,none⟩) (hblk c hc fun o' ho=>hn ⟨1,_,hg1,by obtain⟨v,hv,hb⟩:=ho;exact⟨v,hv,hb⟩⟩)⟩
 ·intro i blk c o hi ho
  match i,hi with
  |0,hi=>cases hi;exact .inr ⟨0,_,hg0,ho⟩
  |1,hi=>cases hi;exact ho.elim
  |i+2,hi=>simp at hi
 ·intro i t x ts u y us h1 h2
  match i,h1,h2 with
  |0,h1,h2=>cases h1;cases h2;rfl
  |1,h1,_=>cases h1
  |i+2,h1,_=>simp at h1
theorem aHK (w:World) (a p:Addr) (n:Nat):(w.freeze a n).cell? p=w.cell? p:=by
 unfold World.freeze
 split
 ·rfl
 ·simp only[World.cell?,Array.getElem?_modify]
  by_cases h:a.block=p.block
  ·rw[if_pos h]
   cases w.heap[p.block]? with
   |none=>rfl
   |some o=>cases o<;>rfl
  ·rw[if_neg h]
theorem aHL (w:World) (a:Addr) (n b:Nat):(w.freeze a n).shape? b=w.shape? b:=by
 unfold World.freeze
 split
 ·rfl
 ·simp only[World.shape?,Array.getElem?_modify]
  by_cases h:a.block=b
  ·rw[if_pos h]
   cases w.heap[b]? with
   |none=>rfl
   |some o=>cases o<;>rfl
  ·rw[if_neg h]
theorem aHM (w:World) (a:Addr) (n b:Nat) (h:b≠a.block):(w.freeze a n).heap[b]? =w.heap[b]? :=by
 unfold World.freeze
 split
 ·rfl
 ·simp only[Array.getElem?_modify]
  rw[if_neg (Ne.symm h)]
theorem aHN (w:World) (a:Addr) (n:Nat):(w.freeze a n).os=w.os∧(w.freeze a n).tape=w.tape∧(w.freeze a n).output=w.output∧(w.freeze a n).heap.size=w.heap.size:=by
 unfold World.freeze
 split
 ·exact⟨rfl,rfl,rfl,rfl⟩
 ·exact⟨rfl,rfl,rfl,by simp⟩
theorem a9x {g:Gh}{w:World}{b:Nat}: ∀{l:List Int}{o:Nat},vH (Rd g w (.int .u8)) w g.S 1 b o l→∀j x,l[j]? =some x→w.cell? ⟨b,o+j,none⟩=some (.int .u8 x)
 |[],_,_,_,_,h=>by cases h
 |y::l,o,⟨⟨cs,_,hra,_,hR⟩,hl⟩,j,x,h=>by
  match j,h with
  |0,h=>
   cases h
   have hR:cs=[.int .u8 y]:=hR
   subst hR
   exact hra 0 _ rfl
  |j+1,h=>
   have:=a9x hl j x (by simpa using h)
   rw[show o+(j+1)=o+1+j by omega]
   exact this
theorem aHO {u:Ty}{m:Option (Nat×Nat)}{bv:(Ty.pair (.list (.int .u8)) .unit).den}{l:List u.den}(hget:pM (.list u) (.pair .mref (.pair (.list (.int .u8)) .unit)) (m,bv) 1=some l):l.length=bv.1.length:=by
 have h2:pM (.list u) (.list (.int .u8)) bv.1 0=some l:=hget
 simp only[pM] at h2
 split at h2
 ·rename_i h
  injection h with h
  subst h
  cases h2
  rfl
 ·cases h2
set_option maxRecDepth 100000 in
theorem aHP:wD Tryz.prog 54 X4:=by
 refine⟨fun _ _=>rfl,fun g w args vals L r hH ha hC hs=> ?_⟩
 unfold X4 at hC
 split at hC
 ·rename_i bv n
  cases hC
  obtain rfl:n=List.length bv.1:=hs _ (by simp)
  obtain⟨va,_,rfl,ra,hv⟩:=ha
  cases hv
  have hg0:getH (enumH 0 [Blk.cells (.pair .mref (.pair (.list (.int .u8)) .unit)) ((some (0,0)),bv) [(1,1)],.grow 5 1 (List.length bv.1)]) 0=some (.cells (.pair .mref (.pair (.list (.int .u8)) .unit)) ((some (0,0)),bv) [(1,1)]):=rfl
  have hg1:getH (enumH 0 [Blk.cells (.pair .mref (.pair (.list (.int .u8)) .unit)) ((some (0,0)),bv) [(1,1)],.grow 5 1 (List.length bv.1)]) 1=some (.grow 5 1 (List.length bv.1)):=rfl
  obtain⟨p,cs,hJ,hR,hra,hth,hns,htk⟩:=hH.blk 0 _ hg0
  obtain⟨v',xs,hv',hown,hmax,hsl⟩:=hH.blk 1 _ hg1
  obtain⟨c1,c2,rfl,hR1,hR2⟩:=hR
  obtain⟨d1,d2,rfl,⟨a,cap,rfl,hcap,hl⟩,hd2⟩:=hR2
  obtain⟨p',hJ',⟨hp0,_,_,_⟩,hc1⟩:=hR1
  rw[hJ] at hJ'
  obtain rfl:=Option.some.inj hJ'
  obtain⟨b,o,k⟩:=p
  have ho:o=0:=by simpa using hp0
  subst ho
  have hlen1:c1.length=1:=by rcases hc1 with rfl|rfl<;>rfl
  obtain⟨q,hq,hva⟩:=xG ra.1
  rw[hJ] at hq
  cases hq
  subst hva
  have hcell1:w.cell? ⟨b,1,none⟩=some (.slice a bv.1.length cap):=hra 1 _ (by rw[List.getElem?_append_right (by omega),hlen1];rfl)
  obtain⟨u,l,v,hget,hcv,hcur⟩:=htk 1 1 (by simp)
  have hvv:v= .slice a bv.1.length cap:=by
   rw[List.getElem?_append_right (by omega),hlen1] at hcv
   exact(Option.some.inj hcv).symm
  have hll:l.length=bv.1.length:=aHO hget
  rw[hll,hv',hvv] at hcur
  obtain rfl:=Option.some.inj hcur
  have hbl:b<w.heap.size:=PV hcell1
  have hdr: ∀(s:List UInt8) (sd:List Prop),RetOk g w _ ⟨sd,[(.val .str s,none)],[.cells (.pair .mref (.pair (.list (.int .u8)) .unit)) ((some (0,0)),bv) [],.dead]⟩ g w.drew (.string ⟨s.toArray⟩):=fun s sd=>
   X5 hH rfl rfl rfl (Nat.le_refl _) (fun _ _ _=>rfl) (fun _ _ h=>h) (fun _ _ _=>rfl)
  obtain⟨hx,⟨hnil,h0⟩ |⟨gb,cap',cur,hsl',hb0,hbk,hnc,hcm,hcs,htake⟩⟩:=hown
  ·have hb0:bv.1=[]:=List.length_eq_zero_iff.1 h0
   have hz:qR bv.1=[]:=by rw[hb0];rfl
   have hl0:List.length bv.1=0:=h0
   injection hnil with e1 e2 e3
   subst e1
   subst e3
   refine(X3 Tryz.lays169 Tryz.builderExtra b bv.1.length 0 none none .empty w w.drew hcell1 rfl (by rw[hl0];exact Any.unsafeString_none Tryz.lays169 Tryz.builderExtra w.drew none)).mono ?_
   rintro e w' ⟨rfl,rfl⟩
   exact⟨_,g,rfl,by rw[hz];exact hdr [] _⟩
  ·injection hsl' with e1 e2 e3
   subst e1
   subst e3
   have hsz:bv.1.length≤cur.size:=by omega
   by_cases hb0:bv.1=[]
   ·have hz:qR bv.1=[]:=by rw[hb0];rfl
    have hl0:List.length bv.1=0:=by rw[hb0];rfl
    by_cases hc0:cap=0
    ·subst hc0
     rw[hl0] at hcell1
     refine(aHJ Tryz.lays169 Tryz.builderExtra b gb cur w hbl hcell1 hbk).mono ?_
     rintro e w' ⟨rfl,rfl⟩
     have hold: ∀c,c<w.heap.size→(w.drew.alloc (.view ⟨gb,0,none⟩ 5)).heap[c]? =w.heap[c]? :=fun c hc=>Lib.alloc_old w.drew _ c hc
     refine⟨_,g,rfl,?_⟩
     rw[hz]
     exact X5 hH rfl rfl rfl (by simp) (fun c o hc=>World.cell?_of_block (a:=⟨c,o,none⟩) (hold c hc)) (fun c s h=>(A4 (hold c (A3 h))).trans h) (fun c hc _=>hold c hc)
    ·refine(X3 Tryz.lays169 Tryz.builderExtra b bv.1.length cap (some ⟨gb,0,none⟩) (some ⟨gb,0,none⟩) .empty w w.drew hcell1 (Lib.run_unsafeSliceData_row _ _ _ _ _ _ hc0) (by rw[hl0];exact Any.unsafeString_none Tryz.lays169 Tryz.builderExtra w.drew _)).mono ?_
     rintro e w' ⟨rfl,rfl⟩
     exact⟨_,g,rfl,by rw[hz];exact hdr [] _⟩
   ·have hcap0:cap≠0:=fun h=>hb0 (List.length_eq_zero_iff.1 (by omega))
    have hcb: ∀j x,bv.1[j]? =some x→w.cell? ⟨gb,j,none⟩=some (.int .u8 x):=by
     rcases hl with hl|⟨b',o',ha',hl⟩
     ·exact absurd hl hb0
     ·cases ha'
      intro j x hj
      have:=a9x hl j x hj
      rwa [Nat.zero_add] at this
    have hbk':w.drew.heap[gb]? =some (.cells cur 5 (0,0)):=hbk
    have hshp:w.drew.shape? gb=some (5,cur.size):=by simp only[World.shape?,hbk']
    refine(X3 Tryz.lays169 Tryz.builderExtra b bv.1.length cap (some ⟨gb,0,none⟩) (some ⟨gb,0,none⟩) ⟨(qR bv.1).toArray⟩ w (w.drew.freeze ⟨gb,0,none⟩ bv.1.length) hcell1 (Lib.run_unsafeSliceData_row _ _ _ _ _ _ hcap0)
     (aHI w.drew _ _ _ 5 (Tryz.lays169).t127 (Tryz.builderExtra).cellsByte gb cur.size hshp bv.1 hb0 hsz (by unfold maxLen at hcm;omega) (fun j x h=>by rw[Addr.add_mid,Nat.zero_add];exact hcb j x h))).mono ?_
    rintro e w' ⟨rfl,rfl⟩
    refine⟨_,g,rfl,?_⟩
    have hblk: ∀c,(∀o,¬owns g 1 (.grow 5 1 (List.length bv.1)) c o)→(w.drew.freeze ⟨gb,0,none⟩ bv.1.length).heap[c]? =w.heap[c]? :=fun c hc=>aHM w.drew _ _ c fun e=>hc 0 ⟨_,hv',by rw[e];rfl⟩
    have hr:=aHN w.drew ⟨gb,0,none⟩ bv.1.length
    refine X5 hH hr.1 hr.2.1 hr.2.2.1 (Nat.le_of_eq hr.2.2.2.symm) (fun c o _=>aHK w.drew _ _ _) (fun c s h=>(aHL w.drew _ _ c).trans h) (fun c _ hc=>hblk c hc)
 ·cases hC
end Go.Proofs.YtbbpilohihldiaaGreatDoor
namespace Go.Proofs.YtbbpilohihldiaaGreatDoor
open Vc Go.RowKit
theorem a9y:rE Tryz.prog 149 ⟨(.pair .str (.pair .str .unit)),0,0,false,[]⟩:=⟨by kernel_rfl,(show ((_∧∃_,_∧_)∨_)∧_ from⟨.inl ⟨rfl,_,Tryz.underlying149,(show _∧_∧_∧_ from⟨rfl,by kernel_rfl,by kernel_rfl,(show _∧_∧_∧_ from⟨rfl,by kernel_rfl,by kernel_rfl,trivial⟩)⟩)⟩,(fun h=>absurd h (by decide))⟩)⟩
theorem QW {P:Program}(w:World) (dT sT ty elem:TypeId) (sz g o dLen dCap:Nat) (a:Addr) (sLen sCap:Nat) (cur:Array Value) (t:TypeId) (cs:List Value)
  (hu:P.underlying dT=some (.slice elem)) (hs:(P.info? elem).map (·.size)=some sz)
  (hg:w.heap[g]? =some (.cells cur t (0,0))) (hn:cs.length=Nat.min sLen dLen*sz)
  (hsrc: ∀j v,cs[j]? =some v→w.cell? (a.add j)=some v) (hfit:o+cs.length≤cur.size) (h1: ∀v∈cs,v.oneCell'=true):
  (Builtin.copy_ #[dT,sT] ty #[.slice (some ⟨g,o,none⟩) dLen dCap,.slice (some a) sLen sCap]).run P w=
   .ok (goInt (Nat.min sLen dLen:Nat)) (w.setRow g (cur.toList.take o++cs++cur.toList.drop (o+cs.length)).toArray):=by
 have hl:=run_loadCells_list (P:=P) w a cs hsrc
 have hst:=run_storeCells_at P g o t cs 0 cur w hg (by simpa using hfit) h1
 cases hq:P.info? elem with
 |none=>simp [hq] at hs
 |some i=>
  have hi:i.size=sz:=by simpa[hq] using hs
  simp [Builtin.copy_,run_underlying hu,Builtin.lenOf,Builtin.firstCells,sizeOf,typeInfo,hq,hi,←hn,hl,hst]
theorem aHQ {P:Program}(w:World) (tS tR e:TypeId) (ht:P.underlying tS=some (.slice e)) (size:Nat) (hz: ∀w,(Go.sizeOf e).run P w= .ok size w)
  (a b:Addr) (la ca lb cb:Nat) (hne:a.block≠b.block) (tA tB:TypeId) (kA kB:Nat)
  (hsa:w.shape? a.block=some (tA,kA)) (hkA:kA≠0) (hsb:w.shape? b.block=some (tB,kB)) (hfb: ∀o,w.frozen? ⟨b.block,o,none⟩=false) (hsp:b.spot=none):
  (Extern.SlicesOverlaps.overlaps #[tS,tS] #[tR] #[.slice (some a) la ca,.slice (some b) lb cb]).run P w= .ok (.bool false) w:=by
 have hnb:(a.block != b.block)=true:=by simpa using hne
 have hnb':(a.block==b.block)=false:=by simpa using hne
 have hfb1:w.frozen? b=false:=by
  obtain⟨bb,bo,bs⟩:=b
  cases hsp
  exact hfb bo
 have hfb2:=hfb kB
 change Sem.run P (α:=Value) (do
  let some t:=(#[tS,tS]:Array TypeId)[0]? |stuck "slices.overlaps: no parameter types"
  let .slice elem←underlying t|stuck "slices.overlaps: slice type expected"
  let size←sizeOf elem
  match (some a:Option Addr),(some b:Option Addr) with
  |some a,some b=>
   if la=0∨lb=0∨size=0 then pure (Value.bool false)
   else if a.block != b.block&&(←frozen a)&&(←frozen b) then unsupported .addressObserved
   else do
    if a.block != b.block then do
     noView a;noView b
     if←mayBeOne a b then return Value.bool ((←choose (.extern "sameAddr.stringBytes" 2))==1)
    pure (Value.bool (a.block==b.block&&a.off<b.off+lb*size&&b.off<a.off+la*size))
  |_,_=>pure (Value.bool false)) w=_
 by_cases h0:la=0∨lb=0∨size=0
 ·simp [run_underlying ht,hz,h0]
 ·cases kA with
  |zero=>exact absurd rfl hkA
  |succ kA=>
   cases hfa:w.frozen? a<;>cases hfe:w.frozen? {block:=a.block,off:=kA+1}<;>
   simp [run_underlying ht,hz,h0,hnb,hnb',frozen,noView,viewAt,mayBeOne,stringish,shape,Sem.run,hsa,hsb,hfb1,hfb2,hfa,hfe]
theorem aHR {α:Type}{l:List α}{i n:Nat}(hin:i≤n):(l.drop (i*2)).take ((n-i)*2)=(l.take (n*2)).drop (i*2):=by
 rw[List.drop_take,show n*2-i*2=(n-i)*2 by omega]
theorem a9z {α:Type}{l:List α}{i n:Nat}{v:α}(h:v∈(l.drop (i*2)).take ((n-i)*2)):v∈l.take (n*2):=by
 rw[show (n-i)*2=n*2-i*2 by omega,←List.drop_take] at h
 exact List.mem_of_mem_drop h
theorem aHS {cur c1 c2:Array Value}{mid vs:List Value}{i n m:Nat}(hc1:c1=(cur.toList.take ((i+m)*2)++mid++cur.toList.drop ((i+m)*2+mid.length)).toArray) (hc2:c2=(c1.toList.take (i*2)++vs++c1.toList.drop (i*2+vs.length)).toArray)
  (hml:mid.length=(n-i)*2) (hvl:vs.length=m*2) (hcur:(n+m)*2≤cur.toList.length) (hin:i≤n):c2.toList.take ((n+m)*2)=cur.toList.take (i*2)++vs++mid:=by
 have e1:c1.toList=cur.toList.take ((i+m)*2)++(mid++cur.toList.drop ((i+m)*2+mid.length)):=by rw[hc1,List.append_assoc]
 have l1:(cur.toList.take ((i+m)*2)).length=(i+m)*2:=by rw[List.length_take];omega
 have e2:c1.toList.take (i*2)=cur.toList.take (i*2):=by
  rw[e1,List.take_append_of_le_length (by omega),List.take_take,Nat.min_eq_left (by omega)]
 have e3:c1.toList.drop (i*2+vs.length)=mid++cur.toList.drop ((i+m)*2+mid.length):=by
  rw[e1,hvl,show i*2+m*2=(cur.toList.take ((i+m)*2)).length by omega,List.drop_left]
 have l2:(cur.toList.take (i*2)).length=i*2:=by rw[List.length_take];omega
 have e4:c2.toList=(cur.toList.take (i*2)++vs++mid)++cur.toList.drop ((i+m)*2+mid.length):=by rw[hc2,e2,e3];simp only[List.append_assoc]
 rw[e4,show (n+m)*2=(cur.toList.take (i*2)++vs++mid).length by simp only[List.length_append];omega,List.take_left]
set_option maxHeartbeats 4000000 in
set_option maxRecDepth 100000 in
theorem aHT (b n c i vb voff m vc:Nat) (cur:Array Value) (vs:List Value) (w:World) (hi:i<n) (hm:0<m) (hroom:n+m≤c) (hc63:c≤maxLen) (hvb:vb≠b)
  (hg:w.heap[b]? =some (.cells cur 149 (0,0))) (hcs:cur.size=c*2) (hvl:vs.length=m*2)
  (hvs: ∀j v,vs[j]? =some v→w.cell? ⟨vb,voff+j,none⟩=some v) (h1: ∀v∈cur.toList.take (n*2),v.oneCell'=true) (h1v: ∀v∈vs,v.oneCell'=true):
  Calls Tryz.prog 240 #[.slice (some ⟨b,0,none⟩) n c,.int .i64 i,.slice (some ⟨vb,voff,none⟩) m vc] w fun e w'=>
   e= .returned (.slice (some ⟨b,0,none⟩) (n+m) c)∧∃cur':Array Value,w'=w.drew.setRow b cur'∧cur'.size=cur.size∧cur'.toList.take ((n+m)*2)=cur.toList.take (i*2)++vs++(cur.toList.drop (i*2)).take ((n-i)*2):=by
 have u24:=run_underlying Tryz.underlying24
 have hz1: ¬((m:Int)=0):=by omega
 have hz2: ¬((i:Int)=(n:Int)):=by omega
 have hw1:IntKind.i64.wrap ((i:Int)+(m:Int))=(i:Int)+(m:Int):=by rw[IntKind.wrap_i64];unfold maxLen at hc63;omega
 have hw2:IntKind.i64.wrap ((n:Int)+(m:Int))=(n:Int)+(m:Int):=by rw[IntKind.wrap_i64];unfold maxLen at hc63;omega
 have hb1:(0:Int)≤(i:Int)+(m:Int):=by omega
 have hin:i≤n:=by omega
 have htn:((i:Int)+(m:Int)).toNat=i+m:=by omega
 have hb2: ¬(c=i+m):=by omega
 have hb3:(i:Int)≤(n:Int)+(m:Int):=by omega
 have hb4: ¬(c=i):=by omega
 have z144: ∀w,(Go.sizeOf 149).run Tryz.prog w= .ok 2 w:=fun w=>by
  simp only[sizeOf,typeInfo,Sem.run_bind,run_program,Result.andThen_ok]
  rfl
 have hsz:(Tryz.prog.info? 149).map (·.size)=some 2:=by kernel_rfl
 have hvs0:w.cell? ⟨vb,voff,none⟩=some (vs[0]'(by omega)):=hvs 0 _ (List.getElem?_eq_getElem (by omega))
 obtain⟨⟨tA,kA⟩,hsa,hkA⟩: ∃q:TypeId×Nat,w.shape? vb=some q∧q.2≠0:=by
  have h0:=hvs0
  simp only[World.cell?] at h0
  simp only[World.shape?]
  cases hh:w.heap[vb]? with
  |none=>rw[hh] at h0;simp at h0
  |some o=>
   rw[hh] at h0
   cases o with
   |cells cs e fr=>
    refine⟨(e,cs.size),rfl,fun hz=> ?_⟩
    have hz:cs.size=0:=hz
    have:cs= #[]:=Array.eq_empty_of_size_eq_zero hz
    subst this
    simp at h0
   |_=>simp at h0
 have hov: ∀lb cb,(callFunc 268 #[.slice (some ⟨vb,voff,none⟩) m vc,.slice (some ⟨b,(i+m)*2,none⟩) lb cb]).run Tryz.prog w= .ok (.value (.bool false)) w:=fun lb cb=>by
  rw[run_callFunc_extern Tryz.func268 (by kernel_rfl) (by kernel_rfl) (by kernel_rfl) (e:=Extern.SlicesOverlaps.overlaps #[24,24] #[4]) (by kernel_rfl),
   aHQ w 24 4 149 Tryz.underlying24 2 z144 ⟨vb,voff,none⟩ ⟨b,(i+m)*2,none⟩ m vc lb cb hvb tA 149 kA cur.size hsa hkA (by simp [World.shape?,hg]) (fun o=>Lib.frozen_of_heap hg _) rfl]
  rfl
 have mixed:Tryz.prog.follows .mixedOrders=true:=by kernel_rfl
 obtain⟨mid,hmid⟩: ∃mid,mid=(cur.toList.drop (i*2)).take ((n-i)*2):=⟨_,rfl⟩
 have hml:mid.length=(n-i)*2:=by rw[hmid,List.length_take,List.length_drop,Array.length_toList];omega
 have hmin1:Nat.min (n+m-i) (n+m- (i+m))=n-i:=by simp only[Nat.min_def];split<;>omega
 have hmin2:Nat.min m (n+m-i)=m:=by simp only[Nat.min_def];split<;>omega
 obtain⟨c1,hc1⟩: ∃c1:Array Value,c1=(cur.toList.take ((i+m)*2)++mid++cur.toList.drop ((i+m)*2+mid.length)).toArray:=⟨_,rfl⟩
 have hc1l:c1.size=cur.size:=by rw[hc1];simp only[List.size_toArray,List.length_append,List.length_take,List.length_drop,Array.length_toList,hml];omega
 obtain⟨c2,hc2⟩: ∃c2:Array Value,c2=(c1.toList.take (i*2)++vs++c1.toList.drop (i*2+vs.length)).toArray:=⟨_,rfl⟩
 have hc2l:c2.size=cur.size:=by rw[hc2];simp only[List.size_toArray,List.length_append,List.length_take,List.length_drop,Array.length_toList,hc1l,hvl];omega
 have hcp1: ∀ty dc sc,(Builtin.copy_ #[24,24] ty #[.slice (some ⟨b,(i+m)*2,none⟩) (n+m- (i+m)) dc,.slice (some ⟨b,i*2,none⟩) (n+m-i) sc]).run Tryz.prog w.drew= .ok (goInt (n-i:Nat)) (w.drew.setRow b c1):=fun ty dc sc=>by
  have h:=QW (P:=Tryz.prog) w.drew 24 24 ty 149 2 b ((i+m)*2) (n+m- (i+m)) dc ⟨b,i*2,none⟩ (n+m-i) sc cur 149 mid Tryz.underlying24 hsz hg (by rw[hml,hmin1]) (fun j v hj=>by
    rw[Addr.add_lit]
    rw[hmid,List.getElem?_take] at hj
    split at hj
    ·rw[List.getElem?_drop,Array.getElem?_toList] at hj
     show (w.cell? ⟨b,i*2+j,none⟩)=_
     rw[Lib.cell_of_heap hg]
     exact hj
    ·cases hj) (by rw[hml];omega) (fun v hv=>h1 v (a9z (hmid▸hv)))
  rw[h,hmin1,hc1]
 have hg1:(w.drew.setRow b c1).heap[b]? =some (.cells c1 149 (0,0)):=setRow_heap w.drew b cur c1 _ _ hg
 have hcp2: ∀ty dc,(Builtin.copy_ #[24,24] ty #[.slice (some ⟨b,i*2,none⟩) (n+m-i) dc,.slice (some ⟨vb,voff,none⟩) m vc]).run Tryz.prog (w.drew.setRow b c1)= .ok (goInt (m:Nat)) ((w.drew.setRow b c1).setRow b c2):=fun ty dc=>by
  have h:=QW (P:=Tryz.prog) (w.drew.setRow b c1) 24 24 ty 149 2 b (i*2) (n+m-i) dc ⟨vb,voff,none⟩ m vc c1 149 vs Tryz.underlying24 hsz hg1 (by rw[hvl,hmin2]) (fun j v hj=>by
    rw[Addr.add_lit,World.cell?_of_block (w:=w) (a:=⟨vb,voff+j,none⟩) (setRow_other w.drew b vb c1 hvb)]
    exact hvs j v hj) (by rw[hvl,hc1l];omega) h1v
  rw[h,hmin2,hc2]
 have Hmid:=Lib.hid hmid
 have Hc1:=Lib.hid hc1
 have Hc2:=Lib.hid hc2
 have Hs1:=Lib.hid hc1l
 have Hs2:=Lib.hid hc2l
 have Hml:=Lib.hid hml
 clear hmid hc1 hc2 hc1l hc2l hml hmin1 hmin2
 go_enter Tryz.func240,Tryz.ntmps240
 go_wp2_with (simp only[hov])
 go_region_law_o (refine step_copy_runI rfl _ _ 24 24 rfl _ _ (by simp [Act.eval,Act.put]) (by simp [Act.eval,Act.put]) (hcp1 _ _ _) ?_)
 go_wp2_with (at_builtin;refine wpList_copy_runI _ rfl _ _ 24 24 rfl _ _ rfl rfl (hcp2 _ _) ?_)
 go_ret
 refine⟨rfl,c2,?_,Hs2.out,?_⟩
 ·rw[setRow_setRow]
 ·rw[←Hmid.out]
  exact aHS Hc1.out Hc2.out Hml.out hvl (by rw[Array.length_toList];omega) hin
set_option maxHeartbeats 4000000 in
set_option maxRecDepth 100000 in
theorem aHU (base:Option Addr) (n c i:Nat) (v0:Option Addr) (vc:Nat) (w:World) (hi:i≤n) (hnc:n≤c) (hc63:c≤maxLen):
  Calls Tryz.prog 240 #[.slice base n c,.int .i64 i,.slice v0 0 vc] w fun e w'=>e= .returned (.slice base n c)∧w'=w:=by
 have u24:=run_underlying Tryz.underlying24
 go_enter Tryz.func240,Tryz.ntmps240
 go_wp2_with fail
 all_goals (go_ret;exact⟨rfl,rfl⟩)
set_option maxHeartbeats 4000000 in
set_option maxRecDepth 100000 in
theorem aHV (v:Value) (n vb voff m vc:Nat) (xs vs:List Value) (w:World) (hm:0<m) (hown:w.ownsRow 0 149 2 v n xs) (h63:n+m≤maxLen) (hby:(n+m)*32≤140737488355328)
  (hvl:vs.length=m*2) (hvs: ∀j v,vs[j]? =some v→w.cell? ⟨vb,voff+j,none⟩=some v) (h1v: ∀v∈vs,v.oneCell'=true):
  Calls Tryz.prog 240 #[v,.int .i64 n,.slice (some ⟨vb,voff,none⟩) m vc] w fun e w'=>
   ∃q cap,e= .returned (.slice (some ⟨q,0,none⟩) (n+m) cap)∧w'.ownsRow 0 149 2 (.slice (some ⟨q,0,none⟩) (n+m) cap) (n+m) (xs++vs)∧
   (q=w.heap.size∨v.ownBlock=some q)∧w.grownBy w' v.ownBlock:=by
 have u24:=run_underlying Tryz.underlying24
 obtain⟨inf,hi,hsz,hz⟩:=CI a9y
 have hby2:inf.bytes=32:=by
  have:(Tryz.prog.info? 149).map (·.bytes)=some 32:=by kernel_rfl
  rw[hi] at this
  exact Option.some.inj this
 have hrun: ∀ty,∃q cap w',(Builtin.append_ #[24,24] ty #[v,.slice (some ⟨vb,voff,none⟩) m vc]).run Tryz.prog w= .ok (.slice (some ⟨q,0,none⟩) (n+m) cap) w'∧_:=
  fun ty=>VH (P:=Tryz.prog) w 24 ty 149 inf _ 2 32 Tryz.underlying24 hi hz hsz hby2 (by rfl) v n xs hown ⟨vb,voff,none⟩ m vc vs hvl (fun j u hj=>by rw[Addr.add_lit];exact hvs j u hj) h1v hm h63 hby
 obtain⟨q,cap,w2,hr,h1,h2,h3,h4,h5⟩:=hrun 24
 have H1:=Lib.hid h1
 have H2:=Lib.hid h2
 have H3:=Lib.hid h3
 have Hown:=Lib.hid hown
 have hz1: ¬((m:Int)=0):=by omega
 have hmx:n+m≤9223372036854775807:=by unfold maxLen at h63;omega
 obtain⟨hxl,hv⟩:=hown
 clear h1 h2 h3 h5 hrun hz hsz hby2 hi hxl
 rcases hv with⟨rfl,rfl⟩ |⟨b,c,cur,rfl,_,hbk,hnc,hcm,hcs,htk⟩
 ·clear Hown
  rw[Nat.zero_add] at hr
  go_enter Tryz.func240,Tryz.ntmps240
  go_wp2_with (at_builtin;refine Lib.wpList_append_run _ rfl _ _ _ _ rfl _ _ rfl rfl _ _ hr ?_)
  all_goals (go_ret;exact⟨q,cap,by rw[Nat.zero_add];rfl,H1.out,H2.out,H3.out⟩)
 ·clear hbk hcs htk
  have hcm:c≤9223372036854775807:=by unfold maxLen at hcm;omega
  go_enter Tryz.func240,Tryz.ntmps240
  go_wp2_with (at_builtin;refine Lib.wpList_append_run _ rfl _ _ _ _ rfl _ _ rfl rfl _ _ hr ?_)
  all_goals (go_ret;exact⟨q,cap,rfl,H1.out,H2.out,H3.out⟩)
set_option maxHeartbeats 4000000 in
set_option maxRecDepth 100000 in
theorem aHW (b n c i vb voff m vc:Nat) (cur:Array Value) (vs:List Value) (w:World) (hi:i<n) (hm:0<m) (hnc:n≤c) (hroom:c<n+m) (hbig:(n+m)*32≤140737488355328)
  (hg:w.heap[b]? =some (.cells cur 149 (0,0))) (hcs:cur.size=c*2) (hvl:vs.length=m*2)
  (hvs: ∀j v,vs[j]? =some v→w.cell? ⟨vb,voff+j,none⟩=some v) (h1: ∀v∈cur.toList.take (n*2),v.oneCell'=true) (h1v: ∀v∈vs,v.oneCell'=true):
  Calls Tryz.prog 240 #[.slice (some ⟨b,0,none⟩) n c,.int .i64 i,.slice (some ⟨vb,voff,none⟩) m vc] w fun e w'=>
   ∃G,e= .returned (.slice (some ⟨w.heap.size,0,none⟩) (n+m) G)∧w'.ownsRow 0 149 2 (.slice (some ⟨w.heap.size,0,none⟩) (n+m) G) (n+m) (cur.toList.take (i*2)++vs++(cur.toList.drop (i*2)).take ((n-i)*2))∧w.grownBy w' none:=by
 have u24:=run_underlying Tryz.underlying24
 have mixed:Tryz.prog.follows .mixedOrders=true:=by kernel_rfl
 obtain⟨inf,hinf,hzs,hz⟩:=CI a9y
 have hzb:inf.bytes=32:=by
  have:(Tryz.prog.info? 149).map (·.bytes)=some 32:=by kernel_rfl
  rw[hinf] at this
  exact Option.some.inj this
 have hsz:(Tryz.prog.info? 149).map (·.size)=some 2:=by kernel_rfl
 have hz1: ¬((m:Int)=0):=by omega
 have hz2: ¬((i:Int)=(n:Int)):=by omega
 have hz3:(c:Int)<(n:Int)+(m:Int):=by omega
 have hbw:b<w.heap.size:=by
  rcases Nat.lt_or_ge b w.heap.size with h|h
  ·exact h
  ·rw[Array.getElem?_eq_none h] at hg;cases hg
 have hvw:vb<w.heap.size:=block_lt_of_cell (hvs 0 _ (List.getElem?_eq_getElem (by omega)))
 have hkk:(n:Int)+(m:Int)- (i:Int)=((n+m-i:Nat):Int):=by omega
 have hik:i+(n+m-i)=n+m:=by omega
 have hold:(Builtin.firstCells inf.size i (.slice (some ⟨b,0,none⟩) i c)).run Tryz.prog w.drew= .ok (cur.toList.take (i*2)).toArray w.drew:=by
  rw[hzs]
  exact run_firstCells_some w.drew 2 i ⟨b,0,none⟩ i c (cur.toList.take (i*2)) (by rw[List.length_take,Array.length_toList];omega) (fun j v hj=>by
   rw[Addr.add_lit,Nat.zero_add]
   rw[List.getElem?_take] at hj
   split at hj
   ·rw[Array.getElem?_toList] at hj
    show w.cell? ⟨b,j,none⟩=_
    rw[Lib.cell_of_heap hg]
    exact hj
   ·cases hj)
 have hrz: ∀ty,(Builtin.append_ #[24,3] ty #[.slice (some ⟨b,0,none⟩) i c,.int .i64 ((n:Int)+(m:Int)- (i:Int))]).run Tryz.prog w=
   .ok (.slice (some ⟨w.heap.size,0,none⟩) (n+m) (grownCap w (n+m) c 149)) (w.drew.alloc (.cells ((cur.toList.take (i*2)).toArray++Builtin.zeroCells (uF (.pair .str (.pair .str .unit))).cells (n+m-i)++Builtin.zeroCells (uF (.pair .str (.pair .str .unit))).cells (grownCap w (n+m) c 149- (n+m))) 149)):=fun ty=>by
  have h:=Lib.run_append_grow_zeros (P:=Tryz.prog) w 24 3 ty 149 inf _ .i64 .i64 Tryz.underlying24 Tryz.underlying3 hinf hz (some ⟨b,0,none⟩) i c (cur.toList.take (i*2)) hold (n+m-i) (by omega) (by rw[hzs];decide) (by omega) (by omega) (by rw[hzb];omega) (by rw[hzb,hik];exact growslice_fits hroom hbig)
  rw[hik] at h
  rw[hkk]
  exact h
 obtain⟨G,hG⟩: ∃G,G=grownCap w (n+m) c 149:=⟨_,rfl⟩
 obtain⟨ROW,hROW⟩: ∃ROW:Array Value,ROW=(cur.toList.take (i*2)).toArray++Builtin.zeroCells (uF (.pair .str (.pair .str .unit))).cells (n+m-i)++Builtin.zeroCells (uF (.pair .str (.pair .str .unit))).cells (G- (n+m)):=⟨_,rfl⟩
 rw[←hG] at hrz
 rw[←hROW] at hrz
 have hGn:n+m≤G:=by rw[hG];exact grownCap_ge w _ _ _
 have hGm:G≤maxLen:=by rw[hG];exact grownCap_le_maxLen w (n+m) c _ (by unfold maxLen;omega)
 have hzc:(uF (.pair .str (.pair .str .unit))).cells.size=2:=rfl
 have hRl:ROW.size=G*2:=by
  rw[hROW]
  simp only[Array.size_append,List.size_toArray,size_zeroCells,hzc,List.length_take,Array.length_toList]
  omega
 have hRt:ROW.toList.take (i*2)=cur.toList.take (i*2):=by
  rw[hROW]
  simp only[Array.toList_append,List.append_assoc]
  rw[List.take_append_of_le_length (by rw[List.length_take,Array.length_toList];omega),List.take_take,Nat.min_self]
 obtain⟨q,hq⟩: ∃q,q=w.heap.size:=⟨_,rfl⟩
 obtain⟨mid,hmid⟩: ∃mid,mid=(cur.toList.drop (i*2)).take ((n-i)*2):=⟨_,rfl⟩
 have hml:mid.length=(n-i)*2:=by rw[hmid,List.length_take,List.length_drop,Array.length_toList];omega
 have hmin1:Nat.min m (n+m-i)=m:=by simp only[Nat.min_def];split<;>omega
 have hmin2:Nat.min (n-i) (n+m- (i+m))=n-i:=by simp only[Nat.min_def];split<;>omega
 obtain⟨c1,hc1⟩: ∃c1:Array Value,c1=(ROW.toList.take (i*2)++vs++ROW.toList.drop (i*2+vs.length)).toArray:=⟨_,rfl⟩
 have hc1l:c1.size=G*2:=by rw[hc1];simp only[List.size_toArray,List.length_append,List.length_take,List.length_drop,Array.length_toList,hRl,hvl];omega
 obtain⟨c2,hc2⟩: ∃c2:Array Value,c2=(c1.toList.take ((i+m)*2)++mid++c1.toList.drop ((i+m)*2+mid.length)).toArray:=⟨_,rfl⟩
 have hc2l:c2.size=G*2:=by rw[hc2];simp only[List.size_toArray,List.length_append,List.length_take,List.length_drop,Array.length_toList,hc1l,hml];omega
 obtain⟨W1,hW1⟩: ∃W1,W1=w.drew.alloc (.cells ROW 149):=⟨_,rfl⟩
 rw[←hW1] at hrz
 have hbq:b≠q:=by omega
 have hvq:vb≠q:=by omega
 have hg1:W1.heap[q]? =some (.cells ROW 149 (0,0)):=by rw[hW1,hq];exact heap_alloc_new w.drew _
 have hO1: ∀k,k<w.heap.size→W1.heap[k]? =w.heap[k]? :=fun k hk=>by rw[hW1];exact Below.heap_alloc w.drew _ k hk
 have hcpA: ∀(W:World),W.heap=W1.heap→∀ty dc,(Builtin.copy_ #[24,24] ty #[.slice (some ⟨q,i*2,none⟩) (n+m-i) dc,.slice (some ⟨vb,voff,none⟩) m vc]).run Tryz.prog W= .ok (goInt (m:Nat)) (W.setRow q c1):=fun W hW ty dc=>by
  have h:=QW (P:=Tryz.prog) W 24 24 ty 149 2 q (i*2) (n+m-i) dc ⟨vb,voff,none⟩ m vc ROW 149 vs Tryz.underlying24 hsz (by rw[hW];exact hg1) (by rw[hvl,hmin1]) (fun j v hj=>by
    rw[Addr.add_lit,World.cell?_of_block (w:=w) (a:=⟨vb,voff+j,none⟩) (by rw[hW];exact hO1 vb hvw)]
    exact hvs j v hj) (by rw[hvl,hRl];omega) h1v
  rw[h,hmin1,hc1]
 have hcpB: ∀(W:World),W.heap=(W1.setRow q c1).heap→∀ty dc sc,(Builtin.copy_ #[24,24] ty #[.slice (some ⟨q,(i+m)*2,none⟩) (n+m- (i+m)) dc,.slice (some ⟨b,i*2,none⟩) (n-i) sc]).run Tryz.prog W= .ok (goInt (n-i:Nat)) (W.setRow q c2):=fun W hW ty dc sc=>by
  have h:=QW (P:=Tryz.prog) W 24 24 ty 149 2 q ((i+m)*2) (n+m- (i+m)) dc ⟨b,i*2,none⟩ (n-i) sc c1 149 mid Tryz.underlying24 hsz (by rw[hW];exact setRow_heap W1 q ROW c1 _ _ hg1) (by rw[hml,hmin2]) (fun j v hj=>by
    rw[Addr.add_lit,World.cell?_of_block (w:=w) (a:=⟨b,i*2+j,none⟩) (by rw[hW,setRow_other W1 q b c1 hbq];exact hO1 b hbw),Lib.cell_of_heap hg]
    rw[hmid,List.getElem?_take] at hj
    split at hj
    ·rw[List.getElem?_drop,Array.getElem?_toList] at hj
     exact hj
    ·cases hj) (by rw[hml,hc1l];omega) (fun v hv=>h1 v (a9z (hmid▸hv)))
  rw[h,hmin2,hc2]
 have hGi: ¬(G=i):=by omega
 have hGim: ¬(G=i+m):=by omega
 have hci: ¬(c=i):=by omega
 have hw1:IntKind.i64.wrap ((i:Int)+(m:Int))=(i:Int)+(m:Int):=by rw[IntKind.wrap_i64];omega
 have hw2:IntKind.i64.wrap ((n:Int)+(m:Int))=(n:Int)+(m:Int):=by rw[IntKind.wrap_i64];omega
 have hw3:IntKind.i64.wrap ((n:Int)+(m:Int)- (i:Int))=(n:Int)+(m:Int)- (i:Int):=by rw[IntKind.wrap_i64];omega
 have hb1:(0:Int)≤(i:Int)+(m:Int):=by omega
 have hin:i≤n:=by omega
 have htn:((i:Int)+(m:Int)).toNat=i+m:=by omega
 have hb3:(i:Int)≤(n:Int):=by omega
 have hG63:G≤9223372036854775807:=by unfold maxLen at hGm;omega
 rw[←hq] at hrz⊢
 have hend: ∀W:World,W.heap=((W1.setRow q c1).setRow q c2).heap→W.os=w.os→W.tape=w.tape→W.output=w.output→
   W.ownsRow 0 149 2 (.slice (some ⟨q,0,none⟩) (n+m) G) (n+m) (cur.toList.take (i*2)++vs++mid)∧w.grownBy W none:=fun W hW e1 e2 e3=>by
  have hg2:W.heap[q]? =some (.cells c2 149 (0,0)):=by rw[hW];exact setRow_heap (W1.setRow q c1) q c1 c2 _ _ (setRow_heap W1 q ROW c1 _ _ hg1)
  have hs:w.heap.size≤W.heap.size:=by
   have:=(Array.getElem?_eq_some_iff.1 hg2).1
   omega
  refine⟨⟨?_,.inr ⟨q,G,c2,rfl,Nat.zero_le _,hg2,hGn,hGm,hc2l,?_⟩⟩,⟨e1,e2,e3,hs,fun k hk _=> ?_⟩⟩
  ·simp only[List.length_append,List.length_take,Array.length_toList,hml,hvl];omega
  ·have x1:c1.toList=cur.toList.take (i*2)++vs++ROW.toList.drop (i*2+vs.length):=by rw[hc1,hRt]
   have l1:(cur.toList.take (i*2)++vs).length=(i+m)*2:=by rw[List.length_append,List.length_take,Array.length_toList,hvl];omega
   have x2:c2.toList=cur.toList.take (i*2)++vs++mid++c1.toList.drop ((i+m)*2+mid.length):=by
    rw[hc2]
    show c1.toList.take ((i+m)*2)++mid++_=_
    rw[x1,←l1,List.take_left]
   rw[x2,show (n+m)*2=(cur.toList.take (i*2)++vs++mid).length by rw[List.length_append,l1,hml];omega,List.take_left]
  ·rw[hW,setRow_other _ q k c2 (by omega),setRow_other _ q k c1 (by omega)]
   exact hO1 k hk
 have Hmid:=Lib.hid hmid
 have Hq:=Lib.hid hq
 have Hend:=Lib.hid hend
 have HW1:=Lib.hid hW1
 clear hkk hik hold hROW hG hRl hmid hq hend hW1 hc1 hc2 hc1l hc2l hml hmin1 hmin2 hz hzs hzb hinf hRt hg1 hO1
 go_enter Tryz.func240,Tryz.ntmps240
 go_wp2_with (first
  |(at_builtin;refine Lib.wpList_append_run _ rfl _ _ _ _ rfl _ _ rfl rfl _ _ (hrz _) ?_)
  |(at_builtin;refine wpList_copy_runI _ rfl _ _ 24 24 rfl _ _ rfl rfl (hcpA _ rfl _ _) ?_))
 go_region_law_o (refine step_copy_runI rfl _ _ 24 24 rfl (.slice (some ⟨q,(i+m)*2,none⟩) (n+m- (i+m)) (G- (i+m))) (.slice (some ⟨b,i*2,none⟩) (n-i) (c-i)) (by simp [Act.eval,Act.put]) (by simp [Act.eval,Act.put]) (hcpB (W1.setRow q c1).drew rfl _ (G- (i+m)) (c-i)) ?_)
 go_wp2_with fail
 go_ret
 rw[←Hmid.out]
 exact⟨G,rfl,Hend.out _ rfl (by rw[HW1.out];rfl) (by rw[HW1.out];rfl) (by rw[HW1.out];rfl)⟩
theorem aHX (v:Value) (n i m vc:Nat) (v0:Option Addr) (xs vs:List Value) (w:World) (hin:i≤n) (hown:w.ownsRow 0 149 2 v n xs) (hby:(n+m)*32≤140737488355328)
  (h1: ∀u∈xs,u.oneCell'=true) (hv0:m=0∨∃vb voff,v0=some ⟨vb,voff,none⟩∧v.ownBlock≠some vb∧∀j u,vs[j]? =some u→w.cell? ⟨vb,voff+j,none⟩=some u)
  (hvl:vs.length=m*2) (h1v: ∀v∈vs,v.oneCell'=true):
  Calls Tryz.prog 240 #[v,.int .i64 i,.slice v0 m vc] w fun e w'=>
   ∃v',e= .returned v'∧w'.ownsRow 0 149 2 v' (n+m) (xs.take (i*2)++vs++xs.drop (i*2))∧(m=0→v'=v)∧(∀b,v'.ownBlock=some b→b=w.heap.size∨v.ownBlock=some b)∧w.grownBy w' v.ownBlock:=by
 have h63:n+m≤maxLen:=by unfold maxLen;omega
 rcases Nat.eq_zero_or_pos m with hm|hm
 ·subst hm
  have hvs:vs=[]:=List.length_eq_zero_iff.1 (by omega)
  subst hvs
  have hres:w.ownsRow 0 149 2 v (n+0) (xs.take (i*2)++[]++xs.drop (i*2)):=by
   rw[List.append_nil,List.take_append_drop];exact hown
  obtain⟨base,c,rfl,hnc,hc⟩: ∃base c,v= .slice base n c∧n≤c∧c≤maxLen:=by
   rcases hown.2 with⟨rfl,rfl⟩ |⟨b,c,cur,rfl,_,_,h2,h3,_⟩
   ·exact⟨none,0,rfl,Nat.le_refl _,by unfold maxLen;omega⟩
   ·exact⟨_,c,rfl,h2,h3⟩
  refine(aHU base n c i v0 vc w hin hnc hc).mono ?_
  rintro e w' ⟨rfl,rfl⟩
  exact⟨_,rfl,hres,fun _=>rfl,fun b hb=> .inr hb,World.grownBy.refl _ _⟩
 ·obtain⟨vb,voff,rfl,hvb,hvs⟩: ∃vb voff,v0=some ⟨vb,voff,none⟩∧v.ownBlock≠some vb∧∀j u,vs[j]? =some u→w.cell? ⟨vb,voff+j,none⟩=some u:=by
   rcases hv0 with h|h
   ·omega
   ·exact h
  have hxl:=hown.1
  rcases Nat.lt_or_ge i n with hlt|hge
  ·rcases hown.2 with⟨rfl,rfl⟩ |⟨b,c,cur,rfl,_,hbk,hnc,hcm,hcs,htk⟩
   ·omega
   ·have hb:vb≠b:=fun h=>hvb (by rw[h];rfl)
    have hx1:cur.toList.take (i*2)=xs.take (i*2):=by rw[←htk,List.take_take,Nat.min_eq_left (by omega)]
    have hx2:(cur.toList.drop (i*2)).take ((n-i)*2)=xs.drop (i*2):=by rw[aHR hin,htk]
    rcases Nat.lt_or_ge c (n+m) with hr|hr
    ·refine(aHW b n c i vb voff m vc cur vs w hlt hm hnc hr hby hbk hcs hvl hvs (by rw[htk];exact h1) h1v).mono ?_
     rintro e w' ⟨G,rfl,ho,hg⟩
     rw[hx1,hx2] at ho
     exact⟨_,rfl,ho,fun h=>by omega,fun b hb=> .inl (by simpa[Value.ownBlock] using hb.symm),⟨hg.os,hg.tape,hg.output,hg.size,fun k hk _=>hg.block k hk (by simp)⟩⟩
    ·refine(aHT b n c i vb voff m vc cur vs w hlt hm hr hcm hb hbk hcs hvl hvs (by rw[htk];exact h1) h1v).mono ?_
     rintro e w' ⟨rfl,cur',rfl,hs,ht⟩
     rw[hx1,hx2] at ht
     refine⟨_,rfl,⟨?_,.inr ⟨b,c,cur',rfl,Nat.zero_le _,setRow_heap w.drew b cur cur' _ _ hbk,hr,hcm,by rw[hs,hcs],ht⟩⟩,fun h=>by omega,fun b' hb'=> .inr hb',⟨rfl,rfl,rfl,by simp,fun k hk hne=>setRow_other w.drew b k cur' (fun h=>hne (by rw[h];rfl))⟩⟩
     simp only[List.length_append,List.length_take,List.length_drop,hxl,hvl];omega
  ·obtain rfl:i=n:=by omega
   refine(aHV v i vb voff m vc xs vs w hm hown h63 hby hvl hvs h1v).mono ?_
   rintro e w' ⟨q,cap,rfl,ho,hq,hg⟩
   refine⟨_,rfl,?_,fun h=>by omega,fun b hb=> ?_,hg⟩
   ·rw[←hxl,List.take_length,List.drop_length,List.append_nil];exact ho
   ·have hb:q=b:=by simpa[Value.ownBlock] using hb
    exact hb▸hq
theorem a9A {α:Type}{R:α→List Value→Prop}{c:Nat}: ∀{l:List α}{cs:List Value}(i:Nat),rC R c l cs→rC R c (l.take i) (cs.take (i*c))
 |_,_,0,_=>by simp [rC]
 |[],_,_+1,h=>by rw[show _=[] from h];simp [rC]
 |x::l,_,i+1,⟨c1,c2,e,h1,h2,h3⟩=>by
  refine⟨c1,c2.take (i*c),?_,h1,h2,a9A i h3⟩
  rw[e,Nat.succ_mul,Nat.add_comm,←h1,List.take_length_add_append]
theorem a9B {α:Type}{R:α→List Value→Prop}{c:Nat}: ∀{l:List α}{cs:List Value}(i:Nat),rC R c l cs→rC R c (l.drop i) (cs.drop (i*c))
 |_,_,0,h=>by simpa using h
 |[],_,_+1,h=>by rw[show _=[] from h];simp [rC]
 |x::l,_,i+1,⟨c1,c2,e,h1,h2,h3⟩=>by
  rw[e,show (i+1)*c=c1.length+i*c by rw[h1,Nat.succ_mul,Nat.add_comm],List.drop_length_add_append]
  exact a9B i h3
def y6 {t:Type}(l:List t) (i:Int) (v:List t):List t:=List.take i.toNat l++v++List.drop i.toNat l
@[go_sem] def X6:List Slot→List Blk→Option Ret
 |[(.own 0 O,none),(.val (.int .i64) Z,none),(.val (.list (.pair .str (.pair .str .unit))) aA,none)],[.row 149 (.pair .str (.pair .str .unit)) aB aC]=>
  some ⟨[O=aC,0≤Z∧Z≤List.length aB,(List.length aB+List.length aA)*32≤140737488355328],[(.own 0 (List.length (y6 aB Z aA)),none)],[.row 149 (.pair .str (.pair .str .unit)) (y6 aB Z aA) (List.length (y6 aB Z aA))]⟩
 |_,_=>none
set_option maxRecDepth 100000 in
theorem aHY:wD Tryz.prog 240 X6:=by
 refine⟨fun _ _=>rfl,fun g w args vals L r hH ha hC hs=> ?_⟩
 unfold X6 at hC
 split at hC
 ·rename_i n iI vl l n2
  cases hC
  obtain rfl:n=n2:=hs _ (by simp)
  obtain⟨hi0,hil⟩:=hs (0≤iI∧iI≤List.length l) (by simp)
  have hby:=hs ((List.length l+List.length vl)*32≤140737488355328) (by simp)
  clear hs
  obtain⟨va,_,rfl,ra,vb,_,rfl,rb,vc,_,rfl,rc,hv⟩:=ha
  cases hv
  have hg0:getH (enumH 0 [Blk.row 149 (.pair .str (.pair .str .unit)) l n]) 0=some (.row 149 (.pair .str (.pair .str .unit)) l n):=rfl
  obtain⟨hl,v,xs,hcur,hown,hF,hnone,hseal⟩:=hH.blk 0 _ hg0
  have hva:va=v:=by
   have:=ra.1.1
   rw[hcur] at this
   exact(Option.some.inj this).symm
  subst hva
  obtain⟨i,rfl⟩:=Int.eq_ofNat_of_zero_le hi0
  have hvb:vb= .int .i64 i:=tC rb.1
  subst hvb
  obtain⟨a,cap,rfl,hcap,hlist⟩:=A6 rc.1
  have hRone: ∀(x:(Ty.pair .str (.pair .str .unit)).den) cs,Rd g w (.pair .str (.pair .str .unit)) x cs→∀v∈cs,v.oneCell'=true:=fun x cs h=>y4 h
  obtain⟨vs,hFv,hv0⟩: ∃vs,rC (Rd g w (.pair .str (.pair .str .unit))) 2 vl vs∧(vl.length=0∨∃vb voff,a=some ⟨vb,voff,none⟩∧va.ownBlock≠some vb∧∀j u,vs[j]? =some u→w.cell? ⟨vb,voff+j,none⟩=some u):=by
   rcases hlist with rfl|⟨b,o,rfl,hL⟩
   ·exact⟨[],rfl,.inl rfl⟩
   ·obtain⟨cs,h1,h2,h3⟩:=IE hL
    rcases Nat.eq_zero_or_pos vl.length with h0|h0
    ·exact⟨cs,h1,.inl h0⟩
    ·exact⟨cs,h1,.inr ⟨b,o,rfl,fun hb=>hseal b hb _ (h3 0 (Nat.mul_pos h0 (by decide))),h2⟩⟩
  have hvl:=DZ hFv
  have hil2:(i:Int)≤(l.length:Int):=hil
  have hil':i≤n:=by omega
  subst hl
  refine(aHX va l.length i vl.length cap a xs vs w (by omega) hown hby (LH hRone hF) hv0 hvl (LH hRone hFv)).mono ?_
  rintro e w' ⟨v',rfl,hown',hm0,hob,hgr⟩
  have hlen:(y6 l (i:Int) vl).length=l.length+vl.length:=by
   simp only[y6,Int.toNat_natCast,List.length_append,List.length_take,List.length_drop];omega
  have hF':rC (Rd g w (.pair .str (.pair .str .unit))) 2 (y6 l (i:Int) vl) (xs.take (i*2)++vs++xs.drop (i*2)):=by
   unfold y6
   rw[Int.toNat_natCast]
   exact L9 (L9 (a9A i hF) hFv) (a9B i hF)
  have hsl: ∀b o,g.S b o→w'.cell? ⟨b,o,none⟩=w.cell? ⟨b,o,none⟩:=fun b o h=>World.cell?_of_block (a:=⟨b,o,none⟩) (hgr.block b (hH.sl b o h) (fun e=>hseal b e.symm o h))
  have hE:=EffOk.row (side:=[]) (rds:=[]) (s:=(.own 0 (y6 l (i:Int) vl).length,none)) (val:=v') (k:=0) (g:=g) (w:=w) (H:=enumH 0 [Blk.row 149 (.pair .str (.pair .str .unit)) l l.length]) hH (e:=149) (t:= .pair .str (.pair .str .unit)) (l:=y6 l (i:Int) vl) (n:=(y6 l (i:Int) vl).length) (v:=v') rfl (by rw[hlen];exact hown') hF'
   (fun m hm=>hnone m (by omega)) (fun u hu=>by
    rcases Nat.eq_zero_or_pos vl.length with h0|h0
    ·rw[hlen,h0,Nat.add_zero,hcur] at hu
     rw[hm0 h0]
     exact(Option.some.inj hu).symm
    ·rw[hnone _ (by omega)] at hu;cases hu)
   (.inr ⟨va.ownBlock,hgr,fun b hb o=>⟨0,_,by simp,hg0,va,hcur,hb⟩⟩) hsl
   (fun b hb o hS=>by
    rcases hob b hb with h|h
    ·have:=hH.sl b o hS;omega
    ·exact hseal b h o hS)
   (fun b hb=>(hob b hb).imp (fun h=>by omega) fun h o=>⟨0,_,by simp,hg0,va,hcur,h⟩)
   ⟨⟨by simp [Gh.tok],by
    rw[hlen]
    rcases hown'.2 with⟨rfl,h⟩ |⟨b,cap',_,rfl,_,_,h,_⟩
    ·exact .inl ⟨rfl,h⟩
    ·exact .inr ⟨b,cap',rfl,h⟩⟩,trivial⟩
  refine⟨v',_,rfl,⟨fun b o h=>⟨hE.le.S b o h,hE.le.cell b o h⟩,hE.heap.ext ?_,hE.slot,hE.fr.mono fun b o ⟨i,blk,_,h1,h2⟩=>⟨i,blk,h1,h2⟩,fun i blk b o hi ho=> ?_,fun i t x ts h=> ?_,fun i t x ts u y us h _=> ?_,fun _ _ _ h=>h,fun i m u hi h=> ?_⟩⟩
  ·intro i
   match i with
   |0=>rfl
   |i+1=>rfl
  ·match i,hi with
   |0,hi=>
    cases hi
    exact(hE.perm 0 _ b o (by simp [idsOf]) rfl ho).imp id fun⟨i,blk,_,h1,h2⟩=>⟨i,blk,h1,h2⟩
   |i+1,hi=>simp at hi
  ·match i,h with
   |0,h=>cases h
   |i+1,h=>simp at h
  ·match i,h with
   |0,h=>cases h
   |i+1,h=>simp at h
  ·exact hE.le.cur i m u h
 ·cases hC
end Go.Proofs.YtbbpilohihldiaaGreatDoor
namespace Go.Proofs.YtbbpilohihldiaaGreatDoor.Vc
open Go.RowKit
set_option linter.unusedSectionVars false
@[go_sem] def X7 (np:Nat):DV→Bool
 | .any=>true
 | .nilS=>true
 | .val .ref (some (i,_))=>decide (i<np)
 | .val .ref none=>true
 | .val t _=>t.pure
 |_=>false
@[go_sem] def QX (np:Nat):Slot→Bool
 |(d,none)=>X7 np d
 |(.val (.list t) _,some k)=>t.pure&&decide (k<np)
 |_=>false
@[go_sem] def IS (np:Nat):List (Nat×Slot)→Bool
 |[]=>true
 |(_,s)::r=>QX np s&&IS np r
theorem a9C {np:Nat}: ∀{env:List (Nat×Slot)},IS np env=true→∀t,QX np (lk env t)=true
 |[],_,t=>rfl
 |(k,s)::r,h,t=>by
  simp only[IS,Bool.and_eq_true] at h
  unfold lk
  split
  ·exact h.1
  ·exact a9C h.2 t
theorem aHZ {np:Nat}{g g':Gh}{w:World}(hS:g'.S=g.S) (hJ: ∀i,i<np→g'.J i=g.J i) (hC: ∀i n,i<np→g'.cur i n=g.cur i n) {s:Slot}{v:Value}(hp:QX np s=true) (h:RdS g w s v):RdS g' w s v:=by
 have hV: ∀{t:Ty}{x:t.den},t.pure=true→r7 g w t x v→r7 g' w t x v:=fun ht hv=>by
  rcases hv with⟨h1,cs,h2,h3⟩ |⟨h1,h2⟩
  ·exact .inl ⟨h1,cs,h2,t7 hS ht h3⟩
  ·exact .inr ⟨h1,t7 hS ht h2⟩
 have hD: ∀d,X7 np d=true→wR g w d v→wR g' w d v:=by
  intro d hd hr
  unfold X7 at hd
  split at hd
  ·trivial
  ·exact hr
  ·rename_i i o
   have hi:=of_decide_eq_true hd
   rcases hr with⟨h1,_⟩ |⟨h1,h2⟩
   ·cases h1
   ·refine .inr ⟨h1,?_⟩
    obtain⟨p,hp1,hp2⟩:=h2
    exact⟨p,(hJ i hi).trans hp1,hp2⟩
  ·rcases hr with⟨h1,_⟩ |⟨h1,h2⟩
   ·cases h1
   ·exact .inr ⟨h1,h2⟩
  ·exact hV hd hr
  ·cases hd
 obtain⟨d,k⟩:=s
 cases k with
 |none=>exact⟨hD d hp h.1,trivial⟩
 |some k=>
  unfold QX at hp
  split at hp
  ·rename_i heq;cases heq
  ·rename_i t x k' heq
   cases heq
   simp only[Bool.and_eq_true,decide_eq_true_eq] at hp
   exact⟨hV (t:= .list t) hp.1 h.1,(hC k _ hp.2).trans h.2⟩
  ·cases hp
theorem aH0 {np:Nat}{g g':Gh}{w w':World}{env:List (Nat×Slot)}{tmps:Array Value}(h:EnvOk g w env tmps) (hp:IS np env=true) (hS: ∀b o,g.S b o→g'.S b o) (hc: ∀b o,g.S b o→w'.cell? ⟨b,o,none⟩=w.cell? ⟨b,o,none⟩)
  (hJ: ∀i p,i<np→g.J i=some p→g'.J i=some p) (hC: ∀i n v,i<np→g.cur i n=some v→g'.cur i n=some v):EnvOk g' w' env tmps:=fun t=>by
 have le:Le g w ⟨g'.S,fun i=>if i<np then g'.J i else g.J i,fun i n=>if i<np then g'.cur i n else g.cur i n⟩ w':=by
  refine⟨hS,hc,fun i p hi=> ?_,fun i n v hi=> ?_⟩
  ·show (if i<np then _ else _)=_
   split
   ·rename_i hlt;exact hJ i p hlt hi
   ·exact hi
  ·show (if i<np then _ else _)=_
   split
   ·rename_i hlt;exact hC i n v hlt hi
   ·exact hi
 exact aHZ (np:=np) (g:=⟨g'.S,fun i=>if i<np then g'.J i else g.J i,fun i n=>if i<np then g'.cur i n else g.cur i n⟩) (g':=g') rfl (fun i hi=>(if_pos hi).symm) (fun i n hi=>by show g'.cur i n=(if i<np then g'.cur i n else g.cur i n);rw[if_pos hi]) (a9C hp t) (y3 le (h t))
theorem Good.inner {A A':Nat→Nat→Prop}{L L':List Blk}{g0 g g':Gh}{w0 w w':World}{H H':Heap}(h:Good A L g0 w0 g w H) (k:Good A' L' g w g' w' H') (hA: ∀b o,A' b o→w.heap.size≤b∨ownsAny g H b o) (hl:L.length≤L'.length)
  (hL: ∀i,i<L.length→∀b,L'[i]? =some b→getH H i=some b):Good A L g0 w0 g' w' H':=by
 have own: ∀b o,A' b o→w0.heap.size≤b∨A b o:=fun b o x=>by
  rcases hA b o x with h1|⟨i,blk,h1,h2⟩
  ·exact .inl (Nat.le_trans h.fr.size h1)
  ·exact h.perm i blk b o h1 h2
 refine⟨fun b o x=> ?_,h.fr.trans k.fr own,fun i blk b o h1 h2=> ?_,fun i p hi hp=>k.J i p (by omega) (h.J i p hi hp),fun i hi=>k.live i (by omega),fun i u y us hi hg=> ?_,fun i n v hi hv=>k.cur i n v (by omega) (h.cur i n v hi hv)⟩
 ·obtain⟨h1,h2⟩:=h.shut b o x
  obtain⟨k1,k2⟩:=k.shut b o h1
  exact⟨k1,k2.trans h2⟩
 ·rcases k.perm i blk b o h1 h2 with h3|h3
  ·exact .inl (Nat.le_trans h.fr.size h3)
  ·exact own b o h3
 ·obtain⟨x,ts,hx⟩:=k.ty i u y us (by omega) hg
  exact h.ty i u x ts hi (hL i hi _ hx)
theorem Good.start {g:Gh}{w:World}{H:Heap}{L':List Blk}(hH:HeapOk g w H) (hL: ∀i b,L'[i]? =some b→getH H i=some b∧b≠.dead) (hty: ∀i,i<L'.length→∀b,getH H i=some b→L'[i]? =some b):Good (ownsAny g H) L' g w g w H:=by
 refine⟨fun b o h=>⟨h,rfl⟩,Fr.refl _ _ _,fun i blk b o hg ho=> .inr ⟨i,blk,hg,ho⟩,fun _ _ _ h=>h,fun i hi=> ?_,fun i u y us hi hg=>⟨y,us,hty i hi _ hg⟩,fun _ _ _ _ h=>h⟩
 obtain⟨h1,h2⟩:=hL i L'[i] (by simp)
 have hbk:=hH.blk i _ h1
 generalize L'[i]=blk at hbk h2
 cases blk with
 |cells t x ts=>obtain⟨p,cs,hp,_⟩:=hbk;exact .inl ⟨p,hp⟩
 |grow e c n=>obtain⟨v,xs,hv,_⟩:=hbk;exact .inr ⟨n,v,hv⟩
 |row e t l n=>obtain⟨_,v,xs,hv,_⟩:=hbk;exact .inr ⟨n,v,hv⟩
 |map k v l=>obtain⟨p,es,cl,hp,_⟩:=hbk;exact .inl ⟨p,hp⟩
 |iter s n=>obtain⟨p,hp,_⟩:=hbk;exact .inl ⟨p,hp⟩
 |dead=>exact absurd rfl h2
@[go_sem] def GF (env:List (Nat×Slot)):List Nat→List Slot→List (Nat×Slot)
 |p::ps,s::ss=>GF (rH (some p) s env) ps ss
 |_,_=>env
theorem a9D {g:Gh}{w:World}: ∀{ps:List Nat}{ss:List Slot}{vs:List Value}{env:List (Nat×Slot)}{tmps:Array Value},EnvOk g w env tmps→(∀p∈ps,p<tmps.size)→ArgsOk g w ss vs→ps.length=ss.length→
  EnvOk g w (GF env ps ss) ((ps.zip vs).foldl (fun t (q:Nat×Value)=>t.setIfInBounds q.1 q.2) tmps)∧((ps.zip vs).foldl (fun t (q:Nat×Value)=>t.setIfInBounds q.1 q.2) tmps).size=tmps.size
 |[],[],vs,env,tmps,h,_,ha,_=>by
  have:vs=[]:=ha
  subst this
  exact⟨h,rfl⟩
 |p::ps,s::ss,vs,env,tmps,h,hp,ha,hl=>by
  obtain⟨v,vs',rfl,h1,h2⟩:=ha
  have hput:EnvOk g w (rH (some p) s env) (tmps.setIfInBounds p v):=WF (a:={tmps:=tmps,defers:=[]}) (o:=⟨some p,.move (.tmp 0),0, "",#[],none⟩) (N:=tmps.size) h (Le.refl g w) h1 rfl (by simpa[dstOk] using hp p (by simp))
  have:=a9D (tmps:=tmps.setIfInBounds p v) hput (fun q hq=>by simpa using hp q (List.mem_cons_of_mem _ hq)) h2 (by simpa using hl)
  exact⟨this.1,by rw[List.zip_cons_cons,List.foldl_cons];rw[this.2];simp⟩
def X8 (P:Program) (gf:Nat) (u:Ty) {ι:Type}(pre:u.den→Prop) (items:u.den→List ι) (vl:ι→List Value):Prop:=
 (∀args w,(callFunc gf args).run P w= .ok (.enter gf args) w)∧
 ∀(l b o:Nat) (x:u.den) (cs:List Value) (g:Gh) (W0:World) (J:Nat→World→Prop) (Jx:World→Prop),pre x→Rd g W0 u x cs→
  (∀i W,J i W→W.rangeAt b o cs∧∀b o,g.S b o→W.cell? ⟨b,o,none⟩=W0.cell? ⟨b,o,none⟩)→
  (∀i W d,J i W→J i {W with drawn:=d})→(∀W d,Jx W→Jx {W with drawn:=d})→
  (∀i it W,(items x)[i]? =some it→J i W→YieldAt Fence.wide 0 P l (vl it).toArray W fun e W'=>(e= .returned (.bool true)∧J (i+1) W')∨(e= .returned (.bool false)∧Jx W'))→
  ∀W,J 0 W→Calls P gf #[.func (.yield l) #[] #[],.pointer (some ⟨b,o,none⟩)] W fun e W'=>(∃v,e= .returned v)∧(J (items x).length W'∨Jx W')
def yT {ι σ ρ:Type}(f:ι→σ→Option (σ⊕ρ)):List ι→σ→Option (σ⊕ρ)
 |[],x=>some (.inl x)
 |it::r,x=>(f it x).bind fun w=>match w with
  | .inl x'=>yT f r x'
  | .inr y=>some (.inr y)
theorem aH1 {ι σ ρ:Type}{f:ι→σ→Option (σ⊕ρ)}{it:ι}{r:List ι}{x:σ}{y:σ⊕ρ}(h:yT f (it::r) x=some y): ∃w,f it x=some w∧(∀x',w= .inl x'→yT f r x'=some y)∧(∀z,w= .inr z→y= .inr z):=by
 unfold yT at h
 cases hf:f it x with
 |none=>rw[hf] at h;cases h
 |some w=>
  rw[hf] at h
  refine⟨w,rfl,fun x' e=> ?_,fun z e=> ?_⟩
  ·subst e;exact h
  ·subst e;exact(Option.some.inj h).symm
def qA (st:St):Ex→St→Prop
 | .normal,s=> ∃k:Keep,s.keep k=st
 |_,_=>False
def qF {σ ρ:Type}(encH:σ→List Blk) (E0:List (Nat×Slot)) (N np np':Nat) (w:σ⊕ρ) (Q:Ex→St→Prop):Ex→St→Prop
 | .normal,s=> ∃(k:Keep) (x:σ),w= .inl x∧s.keep k=⟨[],enumH 0 (encH x),pF (encH x),N,np'⟩
 |e,s=> ∃(k:Keep) (B:List Blk),s.keep k=⟨[],enumH 0 B,pF B,N,np'⟩∧(∃z,w= .inr z)∧Q e ⟨E0,enumH 0 B,pF B,N,np⟩
section
variable {B:Nat}{A:Nat→Nat→Prop}{L:List Blk}{g0 g:Gh}{w0 w:World}{b0 o0 n0:Nat}{cs:List Value}{E0:List (Nat×Slot)}{tmps:Array Value}{ds:List Deferred}
structure RInv (B:Nat) (A:Nat→Nat→Prop) (L:List Blk) (g0:Gh) (w0:World) (g:Gh) (w:World) (b0 o0 n0:Nat) (cs:List Value) (E0:List (Nat×Slot)) (tmps:Array Value) (ds:List Deferred) (g1:Gh) (W:World) (H:Heap):Prop where
 env:EnvOk g1 W E0 tmps
 heap:HeapOk g1 W H
 good:Good A L g0 w0 g1 W H
 sld: ∀b o,g.S b o→g1.S b o∧W.cell? ⟨b,o,none⟩=w.cell? ⟨b,o,none⟩
 rng:W.rangeAt b0 o0 cs
 len:cs.length=n0
 lt:0<n0→b0<W.heap.size
 out: ∀o,o0≤o→o<o0+n0→¬ownsAny g1 H b0 o
 defs:DefsOk B W ds
theorem RInv.turn {g1:Gh}{W W2:World}{H:Heap}(h:RInv B A L g0 w0 g w b0 o0 n0 cs E0 tmps ds g1 W H) (t:Turn w0.heap.size W W2) {ds':List Deferred}(hd:DefsOk B W2 ds'):RInv B A L g0 w0 g w b0 o0 n0 cs E0 tmps ds' g1 W2 H:=by
 refine⟨fun x=>y3 (t.le h.heap.sl) (h.env x),t.heapOk h.heap,h.good.turn h.heap.sl t,fun b o x=>⟨(h.sld b o x).1,(t.cell (h.heap.sl b o (h.sld b o x).1) o).1.trans (h.sld b o x).2⟩,fun j v hv=> ?_,h.len,fun x=>Nat.lt_of_lt_of_le (h.lt x) t.size,h.out,hd⟩
 have hj:j<cs.length:=(List.getElem?_eq_some_iff.1 hv).1
 have:=h.len
 exact(t.cell (h.lt (by omega)) _).1.trans (h.rng j v hv)
theorem RInv.inner {g1 g2:Gh}{W W2:World}{H H2:Heap}{L':List Blk}{np':Nat}(h:RInv B A L g0 w0 g w b0 o0 n0 cs E0 tmps ds g1 W H) (k:Good (ownsAny g1 H) L' g1 W g2 W2 H2) (hH:HeapOk g2 W2 H2) (hpin:IS np' E0=true) (hnp:np'=L'.length) (hl:L.length≤L'.length)
  (hL: ∀i,i<L.length→∀b,L'[i]? =some b→getH H i=some b):RInv B A L g0 w0 g w b0 o0 n0 cs E0 tmps ds g2 W2 H2:=by
 subst hnp
 refine⟨aH0 h.env hpin (fun b o x=>(k.shut b o x).1) (fun b o x=>(k.shut b o x).2) (fun i p hi x=>k.J i p hi x) (fun i n v hi x=>k.cur i n v hi x),hH,h.good.inner k (fun b o x=> .inr x) hl hL,fun b o x=> ?_,fun j v hv=> ?_,h.len,fun x=>Nat.lt_of_lt_of_le (h.lt x) k.fr.size,fun o h1 h2 ⟨i,blk,h3,h4⟩=> ?_,h.defs.same fun D hD=> ?_⟩
 ·obtain⟨h1,h2⟩:=h.sld b o x
  exact⟨(k.shut b o h1).1,(k.shut b o h1).2.trans h2⟩
 ·have hj:j<cs.length:=(List.getElem?_eq_some_iff.1 hv).1
  have:=h.len
  exact(k.fr.cell _ _ (h.lt (by omega)) (h.out _ (by omega) (by omega))).1.trans (h.rng j v hv)
 ·rcases k.perm i blk _ _ h3 h4 with h5|h5
  ·have:=h.lt (by omega);omega
  ·exact h.out o h1 h2 h5
 ·rw[k.fr.blk D (Array.getElem?_eq_some_iff.1 hD).1 (fun o ⟨i,blk,h1,h2⟩=>QI (h.heap.blk i blk h1) h2 hD rfl)]
  exact hD
theorem a9E {g1 g2:Gh}{W W2:World}{H H2:Heap}{L':List Blk}(hH:HeapOk g1 W H) (k:Good (ownsAny g1 H) L' g1 W g2 W2 H2) {D:Nat}{ob:Obj}(hD:W.heap[D]? =some ob) (hm:markObj ob=true):W2.heap[D]? =some ob:=by
 rw[k.fr.blk D (Array.getElem?_eq_some_iff.1 hD).1 (fun o ⟨i,blk,h1,h2⟩=>QI (hH.blk i blk h1) h2 hD hm)]
 exact hD
end
theorem Turn.put {B:Nat}{W:World}{l:Nat}{o o':Obj}(h:W.heap[l]? =some o) (hB:B≤l) (hN:NG≤l) (hm:markObj o=true) (hm':markObj o'=true):Turn B W (W.putObj l o'):=by
 have hlt:=(Array.getElem?_eq_some_iff.1 h).1
 refine⟨rfl,rfl,rfl,by simp [World.putObj],fun b hb=> ?_⟩
 by_cases e:b=l
 ·subst e
  exact .inr ⟨hB,hN,_,_,h,World.putObj_heap_same hlt,hm,hm'⟩
 ·exact .inl (World.putObj_heap_other e)
theorem Turn.new (B:Nat) (W:World) (o:Obj):Turn B W (W.alloc o):=by
 refine⟨rfl,rfl,rfl,by simp,fun b hb=> .inl ?_⟩
 exact Below.heap_alloc W o b hb
theorem a9F {e:Ex}{x:Exit}(h:B9 x=some e):(x= .normal∧e= .normal)∨(x= .ret∧e= .ret)∨∃id,x= .exit id∧e= .exit id:=by
 cases x<;>simp only[B9,Option.some.injEq] at h
 ·exact .inl ⟨rfl,h.symm⟩
 ·exact .inr (.inr ⟨_,rfl,h.symm⟩)
 ·cases h
 ·exact .inr (.inl ⟨rfl,h.symm⟩)
 ·cases h
 ·cases h
def aH2:Ex→Option Code
 | .normal=>none
 | .ret=>some .ret
 | .exit id=>some (.exit id)
theorem X9 {P:Program}{gf:Nat}{u:Ty}{ι:Type}{pre:u.den→Prop}{items:u.den→List ι}{vl:ι→List Value}(hit:X8 P gf u pre items vl) {sl:ι→List Slot}(hsl: ∀it g w,ArgsOk g w (sl it) (vl it))
  {fo:Operand}{ps:Array Tmp}{assign body:Code}{s:St}{Q:Ex→St→Prop}{c:Nat}{k0:Option Nat}(hf:rQ s.env fo=(.val .clo (some (gf,[(c,0)])),k0)) {xc:u.den}{toks:List (Nat×Nat)}(hc:getH s.H c=some (.cells u xc toks)) (hpre:pre xc)
  {σ ρ:Type}{f:ι→σ→Option (σ⊕ρ)}{x0:σ}{y:σ⊕ρ}(hy:yT f (items xc) x0=some y)
  (E0:List (Nat×Slot)) (E1:ι→List (Nat×Slot)) (encH:σ→List Blk) (np':Nat) (k:Keep) (hk:uQ s.np k.ids=true) (h0:s.keep k=⟨E0,enumH 0 (encH x0),pF (encH x0),s.N,s.np⟩)
  (hcd:k.ids.all (fun q=>decide (q.2≠c))=true) (hpin:IS np' E0=true) (hnp:s.np≤np') (hlen: ∀x,np'≤pF (encH x)) (hdead: ∀x,((encH x).take np').all (fun b=>match b with| .dead=>false|_=>true)=true)
  (hps: ∀it,ps.toList.length=(sl it).length) (hpN:(ps.toList.all fun p=>decide (p<s.N))=true)
  (hround: ∀it x w,f it x=some w→(∀z,w= .inr z→y= .inr z)→Ev true P assign ⟨GF E0 ps.toList (sl it),enumH 0 (encH x),pF (encH x),s.N,np'⟩ (qA ⟨E1 it,enumH 0 (encH x),pF (encH x),s.N,np'⟩)∧
   Ev true P body ⟨E1 it,enumH 0 (encH x),pF (encH x),s.N,np'⟩ (qF encH E0 s.N s.np np' w Q))
  (hdone: ∀x,y= .inl x→Q .normal ⟨E0,enumH 0 (encH x),pF (encH x),s.N,s.np⟩):Ev false P (.rangeFunc fo ps assign body) s Q:=by
 intro ro hro A L g0 w0 g a w B hB hr hg hn
 have hN:ro=none:=by cases ro<;>first|rfl|cases hro
 subst hN
 have hfv:=wV hr.env fo
 rw[hf] at hfv
 obtain⟨p,hpJ,hev⟩: ∃p,g.J c=some p∧a.eval fo= .func (.func gf) #[] #[.pointer (some ⟨p.1,p.2,none⟩)]:=by
  rcases hfv.1 with⟨h1,_⟩ |⟨_,vs,⟨p,vs',h4,h5,h6⟩,h3⟩
  ·cases h1
  ·rw[show vs'=[] from h6] at h5
   subst h5
   simp only[List.cons.injEq,and_true] at h3
   exact⟨p,h4,h3⟩
 obtain⟨p',cs,hp',hRc,hra,hth,hns,htk⟩:=hr.heap.blk c _ hc
 rw[hpJ] at hp'
 obtain rfl:=Option.some.inj hp'
 have hcl:=qU hRc
 obtain⟨hr1,hg1,hn1,_⟩:=WE hr hg hn k hk
 have hout: ∀o,p.2≤o→o<p.2+u.cells→¬ownsAny (rZ g s.np k.ids) (s.keep k).H p.1 o:=by
  rintro o h1 h2 ⟨i,blk,h3,h4⟩
  have h3':getH (L3 s k (uQ s.np k.ids)).H i=some blk:=h3
  rw[hk] at h3'
  obtain⟨o',h5,rfl⟩:=E6 h3'
  obtain⟨c1,h6,h7⟩:=(G9 hk h5 fun c1 hc1=>hr.heap.blk o' c1 hc1).2 _ _ h4
  have h8:=List.all_eq_true.1 hcd _ h5
  exact hr.heap.dis o' c c1 _ p.1 o (of_decide_eq_true h8) h6 hc h7 ⟨p,hpJ,rfl,h1,h2⟩
 rw[h0] at hr1 hg1 hout
 have inv0:RInv B A L g0 w0 g w p.1 p.2 u.cells cs E0 a.tmps a.defers (rZ g s.np k.ids) w (enumH 0 (encH x0)):=
  ⟨hr1.env,hr1.heap,hg1,fun b o h=>⟨h,rfl⟩,hra,hcl,fun hpos=>by
   obtain⟨v,hv⟩:=Option.isSome_iff_exists.1 (hth.1 0 hpos).1
   exact PV hv,hout,hr.def_⟩
 have hNG:NG≤w.heap.size:=hr.heap.tab.1.1
 have hBw:w0.heap.size≤w.heap.size:=hg.fr.size
 refine wpIn_rangeFunc fun fn _=> ?_
 obtain⟨rec,hrec⟩: ∃rec:LoopState→Option Code→Loop,rec=fun st pe=>{state:=st,pending:=pe,fn,tmps:=a.tmps,params:=ps,assign,body,defers:=w.heap.size}:=⟨_,rfl⟩
 obtain⟨W1,hW1⟩: ∃W1,(w.alloc (.deferred (some []))).alloc (.loop (rec .ready none))=W1:=⟨_,rfl⟩
 have hL1:W1.heap[w.heap.size+1]? =some (.loop (rec .ready none)):=by
  rw[←hW1];have:=World.alloc_heap_new (w.alloc (.deferred (some []))) (.loop (rec .ready none));rwa [World.size_alloc] at this
 have hK1:W1.heap[w.heap.size]? =some (.deferred (some [])):=by
  rw[←hW1];exact(Below.heap_alloc _ _ _ (by simp)).trans (World.alloc_heap_new w _)
 have t1:Turn w0.heap.size w W1:=by rw[←hW1];exact(Turn.new _ _ _).trans (Turn.new _ _ _)
 obtain⟨ds,hds⟩: ∃ds:List Deferred,{target:= .collected w.heap.size,args:= #[]}::a.defers=ds:=⟨_,rfl⟩
 have hd1:DefsOk B W1 ds:=by
  rw[←hds]
  refine⟨List.nodup_cons.2 ⟨fun hm=> ?_,hr.def_.1⟩,fun d hd=> ?_⟩
  ·obtain⟨D,h1,_,_,h4⟩:=hr.def_.2 _ hm
   have h5:w.heap.size=D:=by injection h1 with h1;injection h1
   have:=(Array.getElem?_eq_some_iff.1 h4).1
   omega
  ·rcases List.mem_cons.1 hd with rfl|hd
   ·exact⟨_,rfl,by omega,hNG,hK1⟩
   ·obtain⟨D,h1,h2,h3,h4⟩:=hr.def_.2 _ hd
    have hlt:=(Array.getElem?_eq_some_iff.1 h4).1
    refine⟨D,h1,h2,h3,?_⟩
    rw[←hW1]
    exact(Below.heap_alloc _ _ D (by simp;omega)).trans ((Below.heap_alloc _ _ D hlt).trans h4)
 let l:=w.heap.size+1
 let J:Nat→World→Prop:=fun i W=> ∃g1 x,yT f ((items xc).drop i) x=some y∧RInv B A L g0 w0 g w p.1 p.2 u.cells cs E0 a.tmps ds g1 W (enumH 0 (encH x))∧
  (∀j,pF (encH x)≤j→g1.J j=none∧∀n,g1.cur j n=none)∧W.heap[l]? =some (.loop (rec .ready none))
 let Jx:World→Prop:=fun W=> ∃g1 Bl e cd z,aH2 e=some cd∧y= .inr z∧Q e ⟨E0,enumH 0 Bl,pF Bl,s.N,s.np⟩∧RInv B A L g0 w0 g w p.1 p.2 u.cells cs E0 a.tmps ds g1 W (enumH 0 Bl)∧
  (∀j,pF Bl≤j→g1.J j=none∧∀n,g1.cur j n=none)∧s.np≤pF Bl∧W.heap[l]? =some (.loop (rec .done (some cd)))
 have tdrawn: ∀(W:World) (d:Nat),Turn w0.heap.size W {W with drawn:=d}:=fun W d=>⟨rfl,rfl,rfl,Nat.le_refl _,fun _ _=> .inl rfl⟩
 have hJd: ∀i W d,J i W→J i {W with drawn:=d}:=fun i W d ⟨g1,x,h1,h2,h3,h4⟩=>⟨g1,x,h1,h2.turn (tdrawn W d) (h2.defs.same fun _ h=>h),h3,h4⟩
 have hJxd: ∀W d,Jx W→Jx {W with drawn:=d}:=fun W d ⟨g1,Bl,e,cd,z,h1,h2,h3,h4,h5,h6,h7⟩=>⟨g1,Bl,e,cd,z,h1,h2,h3,h4.turn (tdrawn W d) (h4.defs.same fun _ h=>h),h5,h6,h7⟩
 have hround2: ∀i it W,(items xc)[i]? =some it→J i W→YieldAt Fence.wide 0 P l (vl it).toArray W fun e W'=>(e= .returned (.bool true)∧J (i+1) W')∨(e= .returned (.bool false)∧Jx W'):=by
  rintro i it W hi ⟨g1,x,hfold,inv,nb,hl⟩
  have hil:i<(items xc).length:=(List.getElem?_eq_some_iff.1 hi).1
  have hdrop:(items xc).drop i=it::(items xc).drop (i+1):=by
   rw[List.drop_eq_getElem_cons hil]
   congr 1
   exact(List.getElem?_eq_some_iff.1 hi).2
  rw[hdrop] at hfold
  obtain⟨wv,hw,hinl,hinr⟩:=aH1 hfold
  obtain⟨evA,evB⟩:=hround it x wv hw hinr
  have hvl:(vl it).toArray.size=ps.size:=by
   rw[List.size_toArray,(QR (hsl it g1 W)).1,←hps it,Array.length_toList]
  have hyl:=run_yield (P:=P) (args:=(vl it).toArray) hl (by rw[hrec];exact hvl)
  rw[hrec] at hyl
  refine⟨fn,_,assign,body,hyl,roundIn_of_wpIn trivial ?_⟩
  have hz:(ps.zip (vl it).toArray).foldl (fun tmps (t,v)=>tmps.setIfInBounds t v) a.tmps=(ps.toList.zip (vl it)).foldl (fun t (q:Nat×Value)=>t.setIfInBounds q.1 q.2) a.tmps:=by
   rw[←Array.foldl_toList,Array.toList_zip]
  rw[hz]
  obtain⟨henv,hsz⟩:=a9D inv.env (fun q hq=>by rw[hr.size];exact of_decide_eq_true (List.all_eq_true.1 hpN q hq)) (hsl it g1 W) (hps it)
  have hL'len:((encH x).take np').length=np':=by
   rw[List.length_take]
   have:=hlen x
   rw[QS] at this
   omega
  have hLget: ∀i b,((encH x).take np')[i]? =some b→getH (enumH 0 (encH x)) i=some b:=fun i b h=>by
   rw[v8]
   exact(List.getElem?_take_of_lt (by have:=(List.getElem?_eq_some_iff.1 h).1;omega)).symm.trans h
  have hLget2: ∀i b,((encH x).take np')[i]? =some b→getH (enumH 0 (encH x)) i=some b∧b≠.dead:=fun i b h=>⟨hLget i b h,fun e=>by
   have:=List.all_eq_true.1 (hdead x) b (List.mem_of_getElem? h)
   subst e
   cases this⟩
  have hLty: ∀i,i<((encH x).take np').length→∀b,getH (enumH 0 (encH x)) i=some b→((encH x).take np')[i]? =some b:=fun i hi b h=>by
   rw[v8] at h
   exact(List.getElem?_take_of_lt (by omega)).trans h
  have gs:=Good.start inv.heap hLget2 hLty
  have rA:Rel W.heap.size g1 W ⟨GF E0 ps.toList (sl it),enumH 0 (encH x),pF (encH x),s.N,np'⟩ {tmps:=(ps.toList.zip (vl it)).foldl (fun t (q:Nat×Value)=>t.setIfInBounds q.1 q.2) a.tmps,defers:=[]}:=⟨henv,inv.heap,hsz.trans hr.size,nb,a8s _ _,hlen x⟩
  have hlow:L.length≤((encH x).take np').length:=by rw[hL'len,←hn];exact hnp
  refine wpIn_mono (evA (some l) rfl _ _ g1 W g1 _ W _ (Nat.le_refl _) rA gs hL'len.symm) fun e a1 wa hp=> ?_
  obtain⟨e',g2,s2,e1,e2,e3,e4,e5⟩:=hp
  rcases a9F e1 with⟨rfl,rfl⟩ |⟨rfl,rfl⟩ |⟨id,rfl,rfl⟩
  ·obtain⟨kA,hkA⟩:=e2
   obtain⟨g3,k1,k2,k3,_⟩:=CK e3 e4 e5 kA
   rw[hkA] at k1 k2
   have inva:=inv.inner k2 k1.heap hpin hL'len.symm hlow (fun i hi b h=>hLget i b h)
   have hla:=a9E inv.heap k2 hl rfl
   refine⟨_,run_beginRound hla (by rw[hrec]),?_⟩
   obtain⟨Wb,hWb⟩: ∃Wb,wa.putObj l (.loop {rec .ready none with state:= .busy})=Wb:=⟨_,rfl⟩
   have tb:Turn w0.heap.size wa Wb:=by rw[←hWb];exact Turn.put hla (by show w0.heap.size≤w.heap.size+1;omega) (by show NG≤w.heap.size+1;omega) rfl rfl
   have hlt:=(Array.getElem?_eq_some_iff.1 hla).1
   have other: ∀{W:World}{o o':Obj}{D:Nat},W.heap[l]? =some (.loop (rec .ready none))∨W.heap[l]? =some (.loop {rec .ready none with state:= .busy})→W.heap[D]? =some (.deferred (some []))→(W.putObj l o').heap[D]? =some (.deferred (some [])):=by
    intro W o o' D h1 h2
    rw[World.putObj_heap_other (fun e=>by subst e;rcases h1 with h1|h1<;>(rw[h1] at h2;cases h2))]
    exact h2
   have invb:=inva.turn tb (inva.defs.same fun D hD=>by rw[←hWb];exact other (o:= .loop (rec .ready none)) (.inl hla) hD)
   have hlb:Wb.heap[l]? =some (.loop {rec .ready none with state:= .busy}):=by rw[←hWb];exact World.putObj_heap_same hlt
   rw[hWb]
   have gsb:=Good.start invb.heap hLget2 hLty
   have rB:Rel W.heap.size g3 Wb ⟨E1 it,enumH 0 (encH x),pF (encH x),s.N,np'⟩ a1:=⟨fun t=>y3 (tb.le k1.heap.sl) (k1.env t),invb.heap,k1.size,k1.nb,k1.def_.same fun D hD=>by rw[←hWb];exact other (o:= .loop (rec .ready none)) (.inl hla) hD,hlen x⟩
   have hWW:W.heap.size≤Wb.heap.size:=Nat.le_trans k2.fr.size tb.size
   refine wpIn_mono (evB (some l) rfl _ _ g3 Wb g3 a1 Wb _ hWW rB gsb hL'len.symm) fun e a2 wc hp=> ?_
   obtain⟨e',g4,s4,e1,e2,e3,e4,e5⟩:=hp
   have u7: ∀(kB:Keep) (Bl:List Blk),s4.keep kB=⟨[],enumH 0 Bl,pF Bl,s.N,np'⟩→∀jump:Option Code,∃g5,RInv B A L g0 w0 g w p.1 p.2 u.cells cs E0 a.tmps ds g5 (wc.putObj l (.loop (rec (if jump.isNone then .ready else .done) jump))) (enumH 0 Bl)∧
     (∀j,pF Bl≤j→g5.J j=none∧∀n,g5.cur j n=none)∧np'≤pF Bl∧(wc.putObj l (.loop (rec (if jump.isNone then .ready else .done) jump))).heap[l]? =some (.loop (rec (if jump.isNone then .ready else .done) jump))∧
     (Instr.endRound l jump).run P wc= .ok (.bool jump.isNone) (wc.putObj l (.loop (rec (if jump.isNone then .ready else .done) jump))):=by
    intro kB Bl hkB jump
    obtain⟨g5,j1,j2,j3,_⟩:=CK e3 e4 e5 kB
    rw[hkB] at j1 j2
    have invc:=invb.inner j2 j1.heap hpin hL'len.symm hlow (fun i hi b h=>hLget i b h)
    have hlc:=a9E invb.heap j2 hlb rfl
    have hltc:=(Array.getElem?_eq_some_iff.1 hlc).1
    have tc:Turn w0.heap.size wc (wc.putObj l (.loop (rec (if jump.isNone then .ready else .done) jump))):=Turn.put hlc (by show w0.heap.size≤w.heap.size+1;omega) (by show NG≤w.heap.size+1;omega) rfl rfl
    refine⟨g5,invc.turn tc (invc.defs.same fun D hD=>other (o:= .loop (rec .ready none)) (.inr hlc) hD),j1.nb,j1.np,World.putObj_heap_same hltc,?_⟩
    have:=run_endRound (P:=P) jump hlc
    rw[this,hrec]
   rcases a9F e1 with⟨rfl,rfl⟩ |⟨rfl,rfl⟩ |⟨id,rfl,rfl⟩
   ·obtain⟨kB,x',rfl,hkB⟩:=e2
    obtain⟨g5,q1,q2,q3,q4,q5⟩:=u7 kB _ hkB none
    exact⟨_,_,q5,.inl ⟨rfl,g5,x',hinl x' rfl,q1,q2,q4⟩⟩
   ·obtain⟨kB,Bl,hkB,⟨z,rfl⟩,hq⟩:=e2
    obtain⟨g5,q1,q2,q3,q4,q5⟩:=u7 kB _ hkB (some .ret)
    exact⟨_,_,q5,.inr ⟨rfl,g5,Bl,.ret,.ret,z,rfl,hinr z rfl,hq,q1,q2,Nat.le_trans hnp q3,q4⟩⟩
   ·obtain⟨kB,Bl,hkB,⟨z,rfl⟩,hq⟩:=e2
    obtain⟨g5,q1,q2,q3,q4,q5⟩:=u7 kB _ hkB (some (.exit id))
    exact⟨_,_,q5,.inr ⟨rfl,g5,Bl,.exit id,.exit id,z,rfl,hinr z rfl,hq,q1,q2,Nat.le_trans hnp q3,q4⟩⟩
  ·exact e2.elim
  ·exact e2.elim
 refine⟨l,[{target:= .collected w.heap.size,args:= #[]}],W1,{target:= .fn (.func gf) #[.pointer (some ⟨p.1,p.2,none⟩)],args:= #[.func (.yield l) #[] #[]]},W1,gf,#[.func (.yield l) #[] #[]]++ #[.pointer (some ⟨p.1,p.2,none⟩)],W1,?_,?_,fun _ _=>trivial,?_,fun h=>(by cases h),?_⟩
 ·rw[←hW1,hrec];exact run_enterLoop_outer _ _ _ _ _
 ·simp only[resolve,hev]
  simp [go_sem]
 ·simp [invoke,go_sem,hit.1]
 ·have inv1:=inv0.turn t1 hd1
  refine(a8A (ro:=none) (n:=0-1) (hit.2 l p.1 p.2 xc cs g w J Jx hpre hRc (fun i W ⟨g1,x,_,h2,_⟩=>⟨h2.rng,fun b o hb=>(h2.sld b o hb).2⟩) hJd hJxd hround2 W1 ⟨_,x0,hy,inv1,hr1.nb,hL1⟩)).mono ?_
  have hend: ∀{W:World}{r:Loop},W.heap[l]? =some (.loop r)→∀{ds0:List Deferred},DefsOk B W ds0→DefsOk B (W.putObj l (.loop {r with state:= .exhausted})) ds0:=by
   intro W r h1 ds0 h2
   refine h2.same fun D hD=> ?_
   rw[World.putObj_heap_other (fun e=>by subst e;rw[h1] at hD;cases hD)]
   exact hD
  rintro e W2 ⟨⟨v,rfl⟩,(⟨g1,x,h1,h2,h3,h4⟩ |⟨g1,Bl,e,cd,z,h1,h2,h3,h4,h5,h6,h7⟩)⟩
  ·rw[List.drop_length] at h1
   have hyx:y= .inl x:=(Option.some.inj h1).symm
   have hin:=h2.turn (Turn.put (o':= .loop {rec .ready none with state:= .exhausted}) h4 (by show w0.heap.size≤w.heap.size+1;omega) (by show NG≤w.heap.size+1;omega) rfl rfl) (hend h4 h2.defs)
   refine⟨none,W2.putObj l (.loop {rec .ready none with state:= .exhausted}),by have:=run_endLoop (P:=P) h4 (by rw[hrec];simp);rw[hrec] at this⊢;exact this,?_⟩
   refine⟨.normal,g1,_,rfl,hdone x hyx,⟨hin.env,hin.heap,hr.size,h3,?_,Nat.le_trans hnp (hlen x)⟩,hin.good,hn⟩
   have:=hin.defs
   rw[←hds] at this
   exact this
  ·have hin:=h4.turn (Turn.put (o':= .loop {rec .done (some cd) with state:= .exhausted}) h7 (by show w0.heap.size≤w.heap.size+1;omega) (by show NG≤w.heap.size+1;omega) rfl rfl) (hend h7 h4.defs)
   refine⟨some cd,W2.putObj l (.loop {rec .done (some cd) with state:= .exhausted}),by have:=run_endLoop (P:=P) h7 (by rw[hrec];simp);rw[hrec] at this⊢;exact this,?_⟩
   have hdef:=hin.defs
   rw[←hds] at hdef
   have hrel:Rel B g1 (W2.putObj l (.loop {rec .done (some cd) with state:= .exhausted})) ⟨E0,enumH 0 Bl,pF Bl,s.N,s.np⟩ {a with defers:=[{target:= .collected w.heap.size,args:= #[]}]++a.defers}:=⟨hin.env,hin.heap,hr.size,h5,hdef,h6⟩
   cases e with
   |normal=>cases h1
   |ret=>
    obtain rfl:=Option.some.inj h1
    exact wpIn_ret ⟨.ret,g1,_,rfl,h3,hrel,hin.good,hn⟩
   |exit id=>
    obtain rfl:=Option.some.inj h1
    exact wpIn_exit ⟨.exit id,g1,_,rfl,h3,hrel,hin.good,hn⟩
section
variable {σ ρ:Type}{encH:σ→List Blk}{E0:List (Nat×Slot)}{N np np':Nat}{w:σ⊕ρ}{Q:Ex→St→Prop}{st s:St}
theorem XA (k:Keep) (h:s.keep k=st):qA st .normal s:=⟨k,h⟩
theorem XB (k:Keep) (x:σ) (hw:w= .inl x) (h:s.keep k=⟨[],enumH 0 (encH x),pF (encH x),N,np'⟩):qF encH E0 N np np' w Q .normal s:=⟨k,x,hw,h⟩
theorem aH3 (k:Keep) (B:List Blk) (z:ρ) (hw:w= .inr z) (h:s.keep k=⟨[],enumH 0 B,pF B,N,np'⟩) (hq:Q .ret ⟨E0,enumH 0 B,pF B,N,np⟩):qF encH E0 N np np' w Q .ret s:=⟨k,B,h,⟨z,hw⟩,hq⟩
end
end Go.Proofs.YtbbpilohihldiaaGreatDoor.Vc
namespace Go.Proofs.YtbbpilohihldiaaGreatDoor
open Go.RowKit Go.Shelf Vc
section
attribute [local go_sem] Oper.semAt_some
def yU (d:(Ty.pair .str (.pair (.list .str) (.pair .str .unit))).den):List (Int×List UInt8):=
 (0,d.1)::((List.range d.2.1.length).map fun j:Nat=>((j:Int)+1,d.2.1.getD j []))++[((d.2.1.length:Int)+1,d.2.2.1)]
def GG (it:Int×List UInt8):List Value:=[.int .i64 it.1,.string ⟨it.2.toArray⟩]
@[go_sem] def QY (it:Int×List UInt8):List Slot:=[(.val (.int .i64) it.1,none),(.val .str it.2,none)]
theorem XC (it:Int×List UInt8) (g:Gh) (w:World):ArgsOk g w (QY it) (GG it):=⟨_,_,rfl,⟨tV _ _ _ _,trivial⟩,_,_,rfl,⟨B6 _ _ _,trivial⟩,rfl⟩
theorem aH4 (d:(Ty.pair .str (.pair (.list .str) (.pair .str .unit))).den):(yU d).length=d.2.1.length+2:=by simp [yU]
theorem aH5 (d:(Ty.pair .str (.pair (.list .str) (.pair .str .unit))).den):(yU d)[0]? =some (0,d.1):=by simp [yU]
theorem aH6 (d:(Ty.pair .str (.pair (.list .str) (.pair .str .unit))).den) {j:Nat}(h:j<d.2.1.length):(yU d)[j+1]? =some ((j:Int)+1,d.2.1.getD j []):=by
 simp [yU,List.getElem?_append_left,h]
theorem aH7 (d:(Ty.pair .str (.pair (.list .str) (.pair .str .unit))).den):(yU d)[d.2.1.length+1]? =some ((d.2.1.length:Int)+1,d.2.2.1):=by
 simp [yU]
set_option maxRecDepth 100000 in
set_option maxHeartbeats 4000000 in
theorem aH8:X8 Tryz.prog 92 (.pair .str (.pair (.list .str) (.pair .str .unit))) (fun d=>d.2.1.length≤4611686018427387904) yU GG:=by
 refine⟨fun _ _=>rfl,?_⟩
 intro l b o d cs g W0 J Jx hpre hR hrd hJd hJxd hY W h0
 obtain⟨c1,c2,rfl,hh,c3,c4,rfl,hl,c5,c6,rfl,ht,hu⟩:=hR
 rw[show c1=[.string ⟨d.1.toArray⟩] from hh] at hrd
 rw[show c5=[.string ⟨d.2.2.1.toArray⟩] from ht,show c6=[] from hu] at hrd
 obtain⟨a,cap,rfl,hcap,hel⟩:=hl
 have r0: ∀i W,J i W→W.cell? ⟨b,o,none⟩=some (.string ⟨d.1.toArray⟩):=fun i W h=>by simpa using(hrd i W h).1 0 _ rfl
 have r1: ∀i W,J i W→W.cell? ⟨b,o+1,none⟩=some (.slice a d.2.1.length cap):=fun i W h=>(hrd i W h).1 1 _ rfl
 have r2: ∀i W,J i W→W.cell? ⟨b,o+2,none⟩=some (.string ⟨d.2.2.1.toArray⟩):=fun i W h=>(hrd i W h).1 2 _ rfl
 have re: ∀j,j<d.2.1.length→∃b' o',a=some ⟨b',o',none⟩∧∀i W,J i W→W.cell? ⟨b',o'+j,none⟩=some (.string ⟨(d.2.1.getD j []).toArray⟩):=by
  intro j hj
  rcases hel with h|⟨b',o',h1,h2⟩
  ·rw[h] at hj;cases hj
  ·refine⟨b',o',h1,fun i W h=> ?_⟩
   have hg:d.2.1[j]? =some (d.2.1.getD j []):=by rw[List.getD_eq_getElem?_getD,List.getElem?_eq_getElem hj];rfl
   obtain⟨cs,k1,k2,k3,k4⟩:=PY h2 hg
   rw[show cs=[.string ⟨(d.2.1.getD j []).toArray⟩] from k4] at k2
   have k5:=k2 0 _ rfl
   have k6:=k3 0 (by decide)
   rw[Nat.add_zero,show j*Ty.str.cells=j from Nat.mul_one j] at k5 k6
   rw[(hrd i W h).2 _ _ k6]
   exact k5
 have q0:=aH5 d
 have qm:=fun j=>aH6 d (j:=j)
 have ql:=aH7 d
 have qn:=aH4 d
 generalize hn:d.2.1.length=n at*
 refine(callsIn_wide (n:=0)).1 (callsIn_of_wp Tryz.func92 rfl trivial ?_)
 simp only[Tryz.ntmps92,List.size_toArray,List.length_cons,List.length_nil,Nat.reduceAdd,Nat.reduceSub,Array.replicate_succ,Array.replicate_zero,List.push_toArray,List.append_toArray,List.nil_append,List.cons_append]
 have c0:=r0 0 W h0
 obtain⟨fn,tmps,assign,body,hy,hQ⟩:=hY 0 _ W q0 h0
 dsimp only[GG] at hy
 gi_wp2
 refine⟨rfl,hQ.mono ?_⟩
 clear hQ hy
 rintro e W1 (⟨rfl,hJ1⟩ |⟨rfl,hJx⟩)
 ·have s1:=r1 _ W1 hJ1
  gi_wp2
  gi_loopw [13] (fun i wr=> ∃k:Nat,k≤n∧i= .int .i64 k∧J (k+1) wr) (fun i _=>n- (RowKit.intOf i).toNat)
  case atStart=>exact⟨0,Nat.zero_le _,rfl,hJ1⟩
  case round=>
   obtain⟨k,hk,rfl,hJs⟩:=hrel
   by_cases hlt:k<n
   ·obtain⟨b',o',rfl,hce⟩:=re k hlt
    have hc':=hce _ _ hJs
    have hq:=qm k hlt
    clear re qm ql q0 hce
    generalize d.2.1.getD k []=x at hc' hq
    obtain⟨fn,tmps,assign,body,hy,hQ⟩:=hY _ _ wr hq hJs
    dsimp only[GG] at hy
    gi_wp2
    refine⟨rfl,hQ.mono ?_⟩
    clear hQ hy
    rintro e W2 (⟨rfl,hJ2⟩ |⟨rfl,hJx⟩)
    ·gi_wp2
     go_roundw
     case rel=>exact⟨k+1,by omega,by simp,hJ2⟩
     case measure=>
      show n- (k+1)<n-k
      omega
    ·gi_wp2
     refine bodyPost_ret (results_none rfl _ _ _) rfl ?_
     exact⟨⟨_,rfl⟩,.inr hJx⟩
   ·obtain rfl:k=n:=by omega
    have s1:=r1 _ _ hJs
    have s2:=r2 _ _ hJs
    obtain⟨fn,tmps,assign,body,hy,hQ⟩:=hY _ _ wr ql hJs
    dsimp only[GG] at hy
    gi_wp2
    refine⟨rfl,hQ.mono ?_⟩
    clear hQ hy
    rintro e W2 (⟨rfl,hJ2⟩ |⟨rfl,hJx⟩)
    ·gi_wp2
     go_end0
     exact⟨⟨_,rfl⟩,.inl (by rw[qn];exact hJ2)⟩
    ·gi_wp2
     go_end0
     exact⟨⟨_,rfl⟩,.inr hJx⟩
 ·gi_wp2
  refine bodyPost_ret (results_none rfl _ _ _) rfl ?_
  exact⟨⟨_,rfl⟩,.inr hJx⟩
def BA (s:List UInt8) (i:Nat):Nat:=if 0≤Lib.indexByte (s.drop i) 10 then i+(Lib.indexByte (s.drop i) 10).toNat+1 else s.length
def BB (s:List UInt8):Nat→Nat→List (Int×List UInt8)
 |0,_=>[]
 |n+1,i=>if i<s.length then((i:Int),(s.drop i).take (BA s i-i))::BB s n (BA s i) else[]
def BC (s:Ty.str.den):List (Int×List UInt8):=BB s (List.length s) 0
theorem XD: ∀(s:List UInt8) (c:UInt8),Lib.indexByte s c<s.length∧ -1≤Lib.indexByte s c
 |[],_=>by simp [Lib.indexByte]
 |b::l,c=>by
  have:=XD l c
  unfold Lib.indexByte
  split
  ·simp
  ·split
   ·simp;omega
   ·simp only[List.length_cons];omega
theorem aH9 {s:List UInt8}{i:Nat}(h:i<s.length):i<BA s i∧BA s i≤s.length:=by
 have:=XD (s.drop i) 10
 rw[List.length_drop] at this
 unfold BA
 split<;>omega
theorem XE (l:List UInt8) (m n:Nat):(⟨l.toArray⟩:ByteArray).extract m n=⟨((l.drop m).take (n-m)).toArray⟩:=by
 apply ByteArray.ext
 apply Array.toList_inj.1
 simp
set_option maxRecDepth 100000 in
set_option maxHeartbeats 4000000 in
theorem a9G:X8 Tryz.prog 134 .str (fun s=>List.length s≤4611686018427387904) BC GG:=by
 refine⟨fun _ _=>rfl,?_⟩
 intro l b o (d:List UInt8) cs g W0 J Jx hpre hR hrd hJd hJxd hY W h0
 rw[show cs=[.string ⟨d.toArray⟩] from hR] at hrd
 have r0: ∀i W,J i W→W.cell? ⟨b,o,none⟩=some (.string ⟨d.toArray⟩):=fun i W h=>by simpa using(hrd i W h).1 0 _ rfl
 have hlen:(BC d)=BB d d.length 0:=rfl
 refine(callsIn_wide (n:=0)).1 (callsIn_of_wp Tryz.func134 rfl trivial ?_)
 simp only[Tryz.ntmps134,List.size_toArray,List.length_cons,List.length_nil,Nat.reduceAdd,Nat.reduceSub,Array.replicate_succ,Array.replicate_zero,List.push_toArray,List.append_toArray,List.nil_append,List.cons_append]
 gi_wp2
 gi_loopw [3] (fun p wr=> ∃i k n:Nat,i≤d.length∧p= .int .i64 i∧d.length≤n+i∧(BC d).drop k=BB d n i∧k≤(BC d).length∧J k wr) (fun p _=>d.length- (RowKit.intOf p).toNat)
 case atStart=>exact⟨0,0,d.length,Nat.zero_le _,rfl,Nat.le_refl _,rfl,Nat.zero_le _,h0⟩
 case round=>
  obtain⟨i,k,n,hi,rfl,hn,hdrop,hk,hJs⟩:=hrel
  have s1:=r0 _ _ hJs
  by_cases hlt:i<d.length
  ·obtain⟨n',rfl⟩: ∃n',n=n'+1:=⟨n-1,by omega⟩
   have hu:BB d (n'+1) i=((i:Int),(d.drop i).take (BA d i-i))::BB d n' (BA d i):=by rw[BB,if_pos hlt]
   rw[hu] at hdrop
   have hq:(BC d)[k]? =some ((i:Int),(d.drop i).take (BA d i-i)):=by
    have:=congrArg (·[0]?) hdrop
    simpa using this
   have hd2:(BC d).drop (k+1)=BB d n' (BA d i):=by
    have:=congrArg (List.drop 1) hdrop
    simpa[List.drop_drop,Nat.add_comm] using this
   have hk2:k+1≤(BC d).length:=(List.getElem?_eq_some_iff.1 hq).1
   obtain⟨fn,tmps,assign,body,hy,hQ⟩:=hY _ _ wr hq hJs
   dsimp only[GG] at hy
   obtain⟨t1,t2⟩:=aH9 hlt
   gi_wp2
   refine⟨trivial,rfl,(callsIn_wide.2 (Any.strings_IndexByte Tryz.lays137 _ 10 wr)).mono ?_⟩
   rintro e w' ⟨rfl,rfl⟩
   have hext:((⟨d.toArray⟩:ByteArray).extract i d.length).data.toList=d.drop i:=by
    rw[XE]
    show (d.drop i).take (d.length-i)=d.drop i
    exact List.take_of_length_le (by simp)
   rw[hext,show (10:Int).toNat.toUInt8=10 from rfl]
   have hib:=XD (d.drop i) 10
   rw[List.length_drop] at hib
   unfold BA at hy t1 t2 hd2
   generalize hkk:Lib.indexByte (d.drop i) 10=kk at hib hy t1 t2 hd2
   clear hext hu hdrop
   by_cases hkp:0≤kk
   ·rw[if_pos hkp] at hy t1 t2 hd2
    obtain⟨m,rfl⟩: ∃m:Nat,kk=m:=⟨kk.toNat,by omega⟩
    rw[Int.toNat_natCast] at hy t1 t2 hd2
    rw[←XE] at hy
    have hz:((i:Int)+m+1).toNat=i+m+1:=by omega
    gi_wp2
    refine⟨rfl,hQ.mono ?_⟩
    clear hQ hy
    rintro e W2 (⟨rfl,hJ2⟩ |⟨rfl,hJx⟩)
    ·gi_wp2
     go_roundw
     case rel=>exact⟨i+m+1,k+1,n',by omega,by simp,by omega,hd2,hk2,hJ2⟩
     case measure=>
      show d.length- (i+m+1)<d.length-i
      omega
    ·gi_wp2
     refine bodyPost_ret (results_none rfl _ _ _) rfl ?_
     exact⟨⟨_,rfl⟩,.inr hJx⟩
   ·rw[if_neg hkp] at hy t1 t2 hd2
    rw[←XE] at hy
    gi_wp2
    refine⟨rfl,hQ.mono ?_⟩
    clear hQ hy
    rintro e W2 (⟨rfl,hJ2⟩ |⟨rfl,hJx⟩)
    ·gi_wp2
     go_roundw
     case rel=>exact⟨d.length,k+1,n',by omega,by simp,by omega,hd2,hk2,hJ2⟩
     case measure=>
      show d.length-d.length<d.length-i
      omega
    ·gi_wp2
     refine bodyPost_ret (results_none rfl _ _ _) rfl ?_
     exact⟨⟨_,rfl⟩,.inr hJx⟩
  ·obtain rfl:i=d.length:=by omega
   have hkk:k=(BC d).length:=by
    have h1:=congrArg List.length hdrop
    have h2:BB d n d.length=[]:=by
     cases n with
     |zero=>rfl
     |succ n=>rw[BB,if_neg (Nat.lt_irrefl _)]
    rw[h2,List.length_drop,List.length_nil] at h1
    omega
   gi_wp2
   go_end0
   exact⟨⟨_,rfl⟩,.inl (hkk▸hJs)⟩
end
end Go.Proofs.YtbbpilohihldiaaGreatDoor
namespace Go.Proofs.YtbbpilohihldiaaGreatDoor
open Go.RowKit Go.Shelf Go.Lib
set_option maxRecDepth 100000 in
set_option maxHeartbeats 4000000 in
theorem aIa {w:World}(hc:w.cell? ⟨5,15,none⟩=some (.int .u8 4)):
  Calls Tryz.prog 299 #[.int .u64 16] w fun e w'=>e= .returned (.int .i64 4)∧w'=w:=by
 go_enter Tryz.func299,Tryz.ntmps299
 have k0:bits BinOp.and IntKind.u64 16 (IntKind.u64.wrap (-16))=16:=by decide+kernel
 have k1:IntKind.u64.wrap (16*285870213051353865) /288230376151711744=15:=by decide+kernel
 go_wp2
 go_ret
 exact⟨rfl,rfl⟩
set_option maxRecDepth 100000 in
theorem g7 {w:World}(hc:w.cell? ⟨5,15,none⟩=some (.int .u8 4)):
  Calls Tryz.prog 295 #[.int .u64 16] w fun e w'=>e= .returned (.int .i64 4)∧w'=w:=by
 go_enter Tryz.func295,Tryz.ntmps295
 go_wp2_with fail
 refine(aIa hc).mono ?_
 rintro e w' ⟨rfl,rfl⟩
 go_wp2
 go_ret
 exact⟨rfl,rfl⟩
set_option maxRecDepth 100000 in
theorem a9I {w:World}:
  Calls Tryz.prog 294 #[.int .i64 16] w fun e w'=>e= .returned (.bool true)∧w'=w:=by
 have k0:bits BinOp.and IntKind.i64 16 15=0:=by decide+kernel
 go_enter Tryz.func294,Tryz.ntmps294
 go_wp2
 go_ret
 exact⟨rfl,rfl⟩
theorem a9J {w:World}{a:Addr}{v:Value}(h:w.cell? a=some v):a.block<w.heap.size:=by
 unfold World.cell? at h
 split at h
 ·rename_i hb;exact(Array.getElem?_eq_some_iff.1 hb).1
 ·cases h
def GH (n:Nat):UInt8:=if n<10 then(48+n).toUInt8 else(87+n).toUInt8
theorem aIb (w:World) (d:UInt8):(convert 42 9 (.slice (some ⟨w.heap.size,64,none⟩) 1 1)).run Tryz.prog (w.alloc (.cells (Tryz.zeroCells285.setIfInBounds 64 (.int .u8 (d.toNat:Int))) 285))= .ok (.string ⟨#[d]⟩) (w.alloc (.cells (Tryz.zeroCells285.setIfInBounds 64 (.int .u8 (d.toNat:Int))) 285)):=by
 refine run_convert_bytes_back _ _ _ 5 ⟨w.heap.size,64,none⟩ 1 [d] Tryz.underlying42 Tryz.underlying5 Tryz.underlying9 fun j hj=> ?_
 have:j=0:=by simpa using hj
 subst this
 simp [Addr.add,World.cell?_alloc_new]
theorem XF: ∀u:Fin 16,(⟨#[48,49,50,51,52,53,54,55,56,57,97,98,99,100,101,102,103,104,105,106,107,108,109,110,111,112,113,114,115,116,117,118,119,120,121,122]⟩:ByteArray).data[u.val]? =some (GH u.val):=by decide+kernel
set_option maxRecDepth 100000 in
set_option maxHeartbeats 4000000 in
theorem aIc {w:World}(hc:w.cell? ⟨5,15,none⟩=some (.int .u8 4)) (u:Nat) (hu:u<16):
  Calls Tryz.prog 285 #[.slice none 0 0,.int .u64 u,.int .i64 16,.bool false,.bool false] w fun e w'=>e= .returned (.tuple #[.slice none 0 0,.string ⟨#[GH u]⟩])∧Below w.heap.size w w':=by
 have hc2:(w.alloc (.cells Tryz.zeroCells285 285)).cell? ⟨5,15,none⟩=some (.int .u8 4):=by
  rw[World.cell?_of_block (a:=⟨5,15,none⟩) (Below.heap_alloc _ _ _ (a9J hc))]
  exact hc
 go_enter Tryz.func285,Tryz.ntmps285
 go_wp2_with fail
 refine a9I.mono ?_
 rintro e w' ⟨rfl,rfl⟩
 go_wp2_with fail
 refine(g7 hc2).mono ?_
 rintro e w' ⟨rfl,rfl⟩
 go_wp2_with fail
 go_rounds 1
 rw[aIb]
 simp only[Result.andThen]
 rw[Oper.upon_value]
 go_wp2
 go_ret2
 refine⟨?_,(Below.refl _ _).alloc (Nat.le_refl _) _⟩
 have h:=XF ⟨u,hu⟩
 obtain⟨h1,h2⟩:=Array.getElem?_eq_some_iff.1 h
 rw[←h2]
 rfl
theorem aId (w:World) (d e:UInt8):(convert 42 9 (.slice (some ⟨w.heap.size,63,none⟩) 2 2)).run Tryz.prog (w.alloc (.cells ((Tryz.zeroCells285.setIfInBounds 64 (.int .u8 (e.toNat:Int))).setIfInBounds 63 (.int .u8 (d.toNat:Int))) 285))= .ok (.string ⟨#[d,e]⟩) (w.alloc (.cells ((Tryz.zeroCells285.setIfInBounds 64 (.int .u8 (e.toNat:Int))).setIfInBounds 63 (.int .u8 (d.toNat:Int))) 285)):=by
 refine run_convert_bytes_back _ _ _ 5 ⟨w.heap.size,63,none⟩ 2 [d,e] Tryz.underlying42 Tryz.underlying5 Tryz.underlying9 fun j hj=> ?_
 match j,hj with
 |0,_=>simp [Addr.add,World.cell?_alloc_new]
 |1,_=>simp [Addr.add,World.cell?_alloc_new]
theorem aIe: ∀u:Fin 256,bits BinOp.and IntKind.u64 (u.val:Int) 15=((u.val%16:Nat):Int):=by decide+kernel
set_option maxRecDepth 100000 in
set_option maxHeartbeats 4000000 in
theorem aIf {w:World}(hc:w.cell? ⟨5,15,none⟩=some (.int .u8 4)) (u:Nat) (hu:16≤u) (hu2:u<256):
  Calls Tryz.prog 285 #[.slice none 0 0,.int .u64 u,.int .i64 16,.bool false,.bool false] w fun e w'=>e= .returned (.tuple #[.slice none 0 0,.string ⟨#[GH (u/16),GH (u%16)]⟩])∧Below w.heap.size w w':=by
 have hc2:(w.alloc (.cells Tryz.zeroCells285 285)).cell? ⟨5,15,none⟩=some (.int .u8 4):=by
  rw[World.cell?_of_block (a:=⟨5,15,none⟩) (Below.heap_alloc _ _ _ (a9J hc))]
  exact hc
 have h15:=aIe ⟨u,hu2⟩
 have hm:u%16<16:=Nat.mod_lt _ (by decide)
 have hq:u/16<16:=by omega
 have hq2:((u:Int)) /16=((u/16:Nat):Int):=rfl
 dsimp only at h15
 have H15:=Lib.hid h15
 clear h15
 obtain⟨m,hmm⟩: ∃m,u%16=m:=⟨_,rfl⟩
 obtain⟨q,hqq⟩: ∃q,u/16=q:=⟨_,rfl⟩
 rw[hmm] at hm
 rw[hqq] at hq hq2
 have h15:=H15.out
 rw[hmm] at h15
 have HM:=Lib.hid hmm
 have HQ:=Lib.hid hqq
 clear hmm hqq H15
 go_enter Tryz.func285,Tryz.ntmps285
 go_wp2_with fail
 refine a9I.mono ?_
 rintro e w' ⟨rfl,rfl⟩
 go_wp2_with fail
 refine(g7 hc2).mono ?_
 rintro e w' ⟨rfl,rfl⟩
 go_wp2_with fail
 go_rounds 2
 rw[aId]
 simp only[Result.andThen]
 rw[Oper.upon_value]
 go_wp2
 go_ret2
 refine⟨?_,(Below.refl _ _).alloc (Nat.le_refl _) _⟩
 have h:=XF ⟨m,hm⟩
 obtain⟨h1,h2⟩:=Array.getElem?_eq_some_iff.1 h
 have k:=XF ⟨q,hq⟩
 obtain⟨k1,k2⟩:=Array.getElem?_eq_some_iff.1 k
 rw[HM.out,HQ.out,←h2,←k2]
 rfl
def tX (c _b:Int):List UInt8:=if c<16 then[GH c.toNat] else[GH (c.toNat/16),GH (c.toNat%16)]
theorem fb {w:World}(hc:w.cell? ⟨5,15,none⟩=some (.int .u8 4)) (u:Nat) (hu2:u<256):
  Calls Tryz.prog 285 #[.slice none 0 0,.int .u64 u,.int .i64 16,.bool false,.bool false] w fun e w'=>e= .returned (.tuple #[.slice none 0 0,.string ⟨(tX u 16).toArray⟩])∧Below w.heap.size w w':=by
 unfold tX
 by_cases h:(u:Int)<16
 ·rw[if_pos h];exact aIc hc u (by omega)
 ·rw[if_neg h];exact aIf hc u (by omega) hu2
set_option maxRecDepth 100000 in
theorem aIg {w:World}(hc:w.cell? ⟨5,15,none⟩=some (.int .u8 4)) (u:Nat) (hu2:u<256):
  Calls Tryz.prog 272 #[.int .i64 u,.int .i64 16] w fun e w'=>e= .returned (.string ⟨(tX u 16).toArray⟩)∧Below w.heap.size w w':=by
 obtain⟨s,hs⟩: ∃s,tX u 16=s:=⟨_,rfl⟩
 have hfb:=fb hc u hu2
 rw[hs] at hfb⊢
 clear hs
 have hk:IntKind.u64.wrap (u:Int)=u:=by rw[IntKind.wrap_u64];omega
 have hn: ¬(u:Int)<0:=by omega
 go_enter Tryz.func272,Tryz.ntmps272
 go_wp2_with fail
 refine hfb.mono ?_
 rintro e w' ⟨rfl,hb⟩
 go_wp2
 go_ret
 exact⟨rfl,hb⟩
set_option maxRecDepth 100000 in
theorem a9K {w:World}(hc:w.cell? ⟨5,15,none⟩=some (.int .u8 4)) (u:Nat) (hu2:u<256):
  Calls Tryz.prog 245 #[.int .i64 u,.int .i64 16] w fun e w'=>e= .returned (.string ⟨(tX u 16).toArray⟩)∧Below w.heap.size w w':=by
 obtain⟨s,hs⟩: ∃s,tX u 16=s:=⟨_,rfl⟩
 have hfb:=aIg hc u hu2
 rw[hs] at hfb⊢
 clear hs
 go_enter Tryz.func245,Tryz.ntmps245
 go_wp2_with fail
 refine hfb.mono ?_
 rintro e w' ⟨rfl,hb⟩
 go_wp2
 go_ret
 exact⟨rfl,hb⟩
#print axioms a9K
end Go.Proofs.YtbbpilohihldiaaGreatDoor
namespace Go.Proofs
open Go.RowKit Go.Lib
def Tryz.lays105_ren:Go.Shelf.Ren:=⟨fun|105=>246|212=>273|99=>136|165=>274|166=>53|170=>275|169=>54|263=>286|264=>287|206=>183|240=>93|241=>288|276=>133|277=>296|n=>n,fun|9=>9|3=>3|4=>4|20=>20|0=>0|46=>219|109=>266|5=>5|72=>84|76=>87|51=>241|146=>270|53=>243|148=>280|70=>82|37=>42|75=>86|127=>125|164=>168|80=>89|n=>n,fun|n=>n⟩
theorem Tryz.lays105:Go.Proofs.Lays.n105 Tryz.prog Tryz.lays105_ren:={
 mixed:=by kernel_rfl
 f99:=Tryz.func136.trans (congrArg some (by kernel_rfl))
 f105:=Tryz.func246.trans (congrArg some (by kernel_rfl))
 f165:=Tryz.func274.trans (congrArg some (by kernel_rfl))
 f166:=Tryz.func53.trans (congrArg some (by kernel_rfl))
 f169:=Tryz.func54.trans (congrArg some (by kernel_rfl))
 f170:=Tryz.func275.trans (congrArg some (by kernel_rfl))
 f206:=Tryz.func183.trans (congrArg some (by kernel_rfl))
 f212:=Tryz.func273.trans (congrArg some (by kernel_rfl))
 f240:=Tryz.func93.trans (congrArg some (by kernel_rfl))
 f241:=Tryz.func288.trans (congrArg some (by kernel_rfl))
 f263:=Tryz.func286.trans (congrArg some (by kernel_rfl))
 f264:=Tryz.func287.trans (congrArg some (by kernel_rfl))
 f276:=Tryz.func133.trans (congrArg some (by kernel_rfl))
 f277:=Tryz.func296.trans (congrArg some (by kernel_rfl))
 t0:=Tryz.underlying0
 a0:=Tryz.isAgg0
 z0:=Tryz.sizeOf0
 v0:=Tryz.zeroValue0
 t3:=Tryz.underlying3
 a3:=Tryz.isAgg3
 z3:=Tryz.sizeOf3
 v3:=Tryz.zeroValue3
 t4:=Tryz.underlying4
 a4:=Tryz.isAgg4
 z4:=Tryz.sizeOf4
 v4:=Tryz.zeroValue4
 t5:=Tryz.underlying5
 a5:=Tryz.isAgg5
 z5:=Tryz.sizeOf5
 v5:=Tryz.zeroValue5
 t9:=Tryz.underlying9
 a9:=Tryz.isAgg9
 z9:=Tryz.sizeOf9
 v9:=Tryz.zeroValue9
 t20:=Tryz.underlying20
 a20:=Tryz.isAgg20
 z20:=Tryz.sizeOf20
 v20:=Tryz.zeroValue20
 t37:=Tryz.underlying42
 a37:=Tryz.isAgg42
 z37:=Tryz.sizeOf42
 v37:=Tryz.zeroValue42
 t46:=Tryz.underlying219
 a46:=Tryz.isAgg219
 z46:=Tryz.sizeOf219
 v46:=Tryz.zeroValue219
 t51:=Tryz.underlying241
 a51:=Tryz.isAgg241
 z51:=Tryz.sizeOf241
 v51:=Tryz.zeroValue241
 t53:=Tryz.underlying243
 a53:=Tryz.isAgg243
 z53:=Tryz.sizeOf243
 v53:=Tryz.zeroValue243
 t70:=Tryz.underlying82
 a70:=Tryz.isAgg82
 z70:=Tryz.sizeOf82
 v70:=Tryz.zeroValue82
 t72:=Tryz.underlying84
 a72:=Tryz.isAgg84
 z72:=Tryz.sizeOf84
 v72:=Tryz.zeroValue84
 t75:=Tryz.underlying86
 a75:=Tryz.isAgg86
 z75:=Tryz.sizeOf86
 v75:=Tryz.zeroValue86
 t76:=Tryz.underlying87
 a76:=Tryz.isAgg87
 z76:=Tryz.sizeOf87
 v76:=Tryz.zeroValue87
 t109:=Tryz.underlying266
 a109:=Tryz.isAgg266
 z109:=Tryz.sizeOf266
 v109:=Tryz.zeroValue266
 t127:=Tryz.underlying125
 a127:=Tryz.isAgg125
 z127:=Tryz.sizeOf125
 v127:=Tryz.zeroValue125
 t146:=Tryz.underlying270
 a146:=Tryz.isAgg270
 z146:=Tryz.sizeOf270
 v146:=Tryz.zeroValue270
 t148:=Tryz.underlying280
 a148:=Tryz.isAgg280
 z148:=Tryz.sizeOf280
 v148:=Tryz.zeroValue280
 t164:=Tryz.underlying168
 a164:=Tryz.isAgg168
 z164:=Tryz.sizeOf168
 v164:=Tryz.zeroValue168}
theorem Tryz.Builder_Extra_105:Builder.Extra Tryz.prog Tryz.lays105_ren:={
 sizeBuilder:=by kernel_rfl
 liesBuilder:=by kernel_rfl
 t5:=Tryz.underlying5
 a5:=Tryz.isAgg5
 z5:=Tryz.sizeOf5
 v5:=Tryz.zeroValue5
 infoByte:=by kernel_rfl
 cellsByte:=by kernel_rfl
 sizeByte:=by kernel_rfl
 neB5:=by decide}
end Go.Proofs
namespace Go.Proofs.YtbbpilohihldiaaGreatDoor
open Vc Go.RowKit
def XG (n:Int):Prop:=n=16
instance (n:Int):Decidable (XG n):=inferInstanceAs (Decidable (n=16))
@[go_sem] def XH:List Slot→List Blk→Option Ret
 |[(.val (.int .i64) O,none),(.val (.int .i64) Z,none)],[]=>some ⟨[0≤O∧O<256∧XG Z],[(.val .str (tX O Z),none)],[]⟩
 |_,_=>none
set_option maxRecDepth 100000 in
theorem aIh:wD Tryz.prog 245 XH:=by
 refine GE (fun _ _=>rfl) fun g w args vals L r hT ha hC hs=> ?_
 unfold XH at hC
 split at hC
 ·rename_i c d
  cases hC
  obtain⟨h1,h2,h3⟩:=hs _ List.mem_cons_self
  obtain⟨va,_,rfl,ra,vb,_,rfl,rb,hv⟩:=ha
  obtain rfl:=tC ra.1
  obtain rfl:=tC rb.1
  cases hv
  obtain⟨u,rfl⟩: ∃u:Nat,c=((u:Nat):Int):=⟨Int.toNat c,(Int.toNat_of_nonneg h1).symm⟩
  have h2:(u:Int)<256:=h2
  obtain rfl:d=(16:Int):=h3
  have hcell:w.cell? ⟨5,15,none⟩=some (.int .u8 4):=(hT.2.2.2 _ List.mem_cons_self).2
  exact⟨rfl,rfl,(a9K hcell u (by omega)).mono fun e w' ⟨he,hb⟩=>⟨_,he,hb,B6 _ _ _,trivial⟩⟩
 ·cases hC
def GI (s:List UInt8) (c:Int):List UInt8:=Lib.repeatL s c.toNat
@[go_sem] def XI:List Slot→List Blk→Option Ret
 |[(.val .str O,none),(.val (.int .i64) Z,none)],[]=>some ⟨[0≤Z∧Z≤140737488355328∧(List.length O:Int)*Z≤140737488355328],[(.val .str (GI O Z),none)],[]⟩
 |_,_=>none
set_option maxRecDepth 100000 in
theorem aIi:wD Tryz.prog 246 XI:=by
 refine GE (fun _ _=>rfl) fun g w args vals L r hT ha hC hs=> ?_
 unfold XI at hC
 split at hC
 ·rename_i s c
  cases hC
  obtain⟨h1,h2,h3⟩:=hs _ List.mem_cons_self
  obtain⟨va,_,rfl,ra,vb,_,rfl,rb,hv⟩:=ha
  obtain rfl:=vQ ra.1
  obtain rfl:=tC rb.1
  cases hv
  obtain⟨u,rfl⟩: ∃u:Nat,c=((u:Nat):Int):=⟨Int.toNat c,(Int.toNat_of_nonneg h1).symm⟩
  have h2:(u:Int)≤140737488355328:=h2
  have h3:((List.length s:Nat):Int)*(u:Int)≤140737488355328:=h3
  have h4:List.length s*u≤140737488355328:=by rw[←Int.natCast_mul] at h3;exact Int.ofNat_le.1 h3
  have h:=Any.strings_Repeat Tryz.lays105 Tryz.Builder_Extra_105 ⟨List.toArray s⟩ u w (by omega) (by show (List.toArray s).size*u≤_;rw[List.size_toArray];exact h4)
  exact⟨rfl,rfl,h.mono fun e w' ⟨he,hb⟩=>⟨_,he,hb,B6 _ _ _,trivial⟩⟩
 ·cases hC
def LY (_c:Int):List UInt8:=[]
@[go_sem] def XJ:List Slot→List Blk→Option Ret
 |[(.val (.int .u8) O,none)],[]=>some ⟨[False],[(.val .str (LY O),none)],[]⟩
 |_,_=>none
set_option maxRecDepth 100000 in
theorem aIj:wD Tryz.prog 165 XJ:=by
 refine GE (fun _ _=>rfl) fun g w args vals L r hT ha hC hs=> ?_
 unfold XJ at hC
 split at hC
 ·cases hC
  exact(hs _ List.mem_cons_self).elim
 ·cases hC
@[go_sem] def XK:List Slot→List Blk→Option Ret
 |[(.val (.int .u8) O,none)],[]=>some ⟨[False],[(.val .str (LY O),none)],[]⟩
 |_,_=>none
set_option maxRecDepth 100000 in
theorem aIk:wD Tryz.prog 202 XK:=by
 refine GE (fun _ _=>rfl) fun g w args vals L r hT ha hC hs=> ?_
 unfold XK at hC
 split at hC
 ·cases hC
  exact(hs _ List.mem_cons_self).elim
 ·cases hC
end Go.Proofs.YtbbpilohihldiaaGreatDoor
namespace Go.Proofs.YtbbpilohihldiaaGreatDoor
open Vc
set_option maxRecDepth 100000
set_option maxHeartbeats 4000000
set_option linter.unusedSimpArgs false
set_option linter.unusedVariables false
noncomputable section
@[reducible,go_sem] def qT:Ty:=(.pair .str (.pair .str (.pair .str (.pair (.list .str) (.pair (.list .str) (.pair (.int .i64) (.pair (.list (.pair .str (.pair .str .unit))) .unit)))))))
@[reducible,go_sem] def uT:Ty:=(.pair .str (.pair (.list .str) (.pair (.list (.pair .str (.pair .str .unit))) (.pair (.list qT) .unit))))
@[reducible,go_sem] def tY:Ty:=(.pair .str (.pair (.list .str) (.pair .str .unit)))
@[reducible,go_sem] def rR:Ty:=(.pair .mref (.pair (.list (.int .u8)) .unit))
@[reducible,go_sem] def i0:Ty:=(.pair .str (.pair .str (.pair .str (.pair (.list .str) (.pair (.rl 9 .str) (.pair (.int .i64) (.pair (.list (.pair .str (.pair .str .unit))) .unit)))))))
@[reducible,go_sem] def uU:Ty:=(.pair (.list .str) (.pair .mp (.pair .mp (.pair .mp (.pair i0 (.pair (.int .i64) .unit))))))
@[reducible,go_sem] def BD:Ty:=(.pair (.int .i64) (.pair .str (.pair .str .unit)))
@[reducible,go_sem] def wW:Ty:=(.pair uT (.pair .ref (.pair .bool (.pair .mp (.pair (.list (.int .i64)) .unit)))))
@[reducible,go_sem] def LZ:Ty:=(.pair (.int .i64) (.pair .str .unit))
@[reducible] def pI:Type:=((List UInt8)×((List UInt8)×Unit))
@[reducible] def qH:Type:=((List UInt8)×((List UInt8)×((List UInt8)×((List (List UInt8))×((List (List UInt8))×(Int×((List pI)×Unit)))))))
@[reducible] def s0:Type:=((List UInt8)×((List (List UInt8))×((List UInt8)×Unit)))
@[reducible] def qO:Type:=((List UInt8)×((List (List UInt8))×((List pI)×((List qH)×Unit))))
@[reducible] def CP:Type:=(Int×((List UInt8)×((List UInt8)×Unit)))
@[reducible,go_sem] def qD:Nat×TI:=(9,⟨.str,0,0,false,[]⟩)
theorem qG:rE Tryz.prog qD.1 qD.2:=⟨by kernel_rfl,(show Tryz.prog.underlying _=_ from by kernel_rfl)⟩
@[reducible,go_sem] def sR:Nat×TI:=(23,⟨(.list .str),9,16,false,[]⟩)
theorem sX:rE Tryz.prog sR.1 sR.2:=⟨by kernel_rfl,(show _∧_∧_ from⟨by kernel_rfl,by kernel_rfl,by kernel_rfl⟩)⟩
@[reducible,go_sem] def EB:Nat×TI:=(34,⟨tY,0,0,false,[(1,9,1)]⟩)
theorem IT:rE Tryz.prog EB.1 EB.2:=⟨by kernel_rfl,(show ((_∧∃_,_∧_)∨_)∧_ from⟨.inl ⟨rfl,_,Tryz.underlying34,(show _∧_∧_∧_ from⟨rfl,by kernel_rfl,by kernel_rfl,(show _∧_∧_∧_ from⟨rfl,by kernel_rfl,by kernel_rfl,(show _∧_∧_∧_ from⟨rfl,by kernel_rfl,by kernel_rfl,trivial⟩)⟩)⟩)⟩,(fun h=>absurd h (by decide))⟩)⟩
@[reducible,go_sem] def BE:Nat×TI:=(37,⟨tY,0,0,false,[(1,9,1)]⟩)
theorem EC:rE Tryz.prog BE.1 BE.2:=⟨by kernel_rfl,(show ((_∧∃_,_∧_)∨_)∧_ from⟨.inl ⟨rfl,_,Tryz.underlying37,(show _∧_∧_∧_ from⟨rfl,by kernel_rfl,by kernel_rfl,(show _∧_∧_∧_ from⟨rfl,by kernel_rfl,by kernel_rfl,(show _∧_∧_∧_ from⟨rfl,by kernel_rfl,by kernel_rfl,trivial⟩)⟩)⟩)⟩,(fun h=>absurd h (by decide))⟩)⟩
@[reducible,go_sem] def A9:Nat×TI:=(25,⟨(.list qT),55,128,false,[]⟩)
theorem CQ:rE Tryz.prog A9.1 A9.2:=⟨by kernel_rfl,(show _∧_∧_ from⟨by kernel_rfl,by kernel_rfl,by kernel_rfl⟩)⟩
@[reducible,go_sem] def vJ:Nat×TI:=(27,⟨uT,0,0,false,[(1,9,1),(2,149,2),(3,55,7)]⟩)
theorem wF:rE Tryz.prog vJ.1 vJ.2:=⟨by kernel_rfl,(show ((_∧∃_,_∧_)∨_)∧_ from⟨.inl ⟨rfl,_,Tryz.underlying27,(show _∧_∧_∧_ from⟨rfl,by kernel_rfl,by kernel_rfl,(show _∧_∧_∧_ from⟨rfl,by kernel_rfl,by kernel_rfl,(show _∧_∧_∧_ from⟨rfl,by kernel_rfl,by kernel_rfl,(show _∧_∧_∧_ from⟨rfl,by kernel_rfl,by kernel_rfl,trivial⟩)⟩)⟩)⟩)⟩,(fun h=>absurd h (by decide))⟩)⟩
@[reducible,go_sem] def xJ:Nat×TI:=(55,⟨qT,0,0,false,[(3,9,1),(4,9,1),(6,149,2)]⟩)
theorem yV:rE Tryz.prog xJ.1 xJ.2:=⟨by kernel_rfl,(show ((_∧∃_,_∧_)∨_)∧_ from⟨.inl ⟨rfl,_,Tryz.underlying55,(show _∧_∧_∧_ from⟨rfl,by kernel_rfl,by kernel_rfl,(show _∧_∧_∧_ from⟨rfl,by kernel_rfl,by kernel_rfl,(show _∧_∧_∧_ from⟨rfl,by kernel_rfl,by kernel_rfl,(show _∧_∧_∧_ from⟨rfl,by kernel_rfl,by kernel_rfl,(show _∧_∧_∧_ from⟨rfl,by kernel_rfl,by kernel_rfl,(show _∧_∧_∧_ from⟨rfl,by kernel_rfl,by kernel_rfl,(show _∧_∧_∧_ from⟨rfl,by kernel_rfl,by kernel_rfl,trivial⟩)⟩)⟩)⟩)⟩)⟩)⟩)⟩,(fun h=>absurd h (by decide))⟩)⟩
@[reducible,go_sem] def yW:Nat×TI:=(42,⟨(.list (.int .u8)),5,1,false,[]⟩)
theorem AA:rE Tryz.prog yW.1 yW.2:=⟨by kernel_rfl,(show _∧_∧_ from⟨by kernel_rfl,by kernel_rfl,by kernel_rfl⟩)⟩
@[reducible,go_sem] def CR:Nat×TI:=(84,⟨rR,0,0,false,[(1,5,1)]⟩)
theorem GJ:rE Tryz.prog CR.1 CR.2:=⟨by kernel_rfl,(show ((_∧∃_,_∧_)∨_)∧_ from⟨.inl ⟨rfl,_,Tryz.underlying84,(show _∧_∧_∧_ from⟨rfl,by kernel_rfl,by kernel_rfl,(show _∧_∧_∧_ from⟨rfl,by kernel_rfl,by kernel_rfl,trivial⟩)⟩)⟩,(fun h=>absurd h (by decide))⟩)⟩
@[reducible,go_sem] def uV:Nat×TI:=(24,⟨(.list (.pair .str (.pair .str .unit))),149,32,false,[]⟩)
theorem vK:rE Tryz.prog uV.1 uV.2:=⟨by kernel_rfl,(show _∧_∧_ from⟨by kernel_rfl,by kernel_rfl,by kernel_rfl⟩)⟩
@[reducible,go_sem] def zL:Nat×TI:=(149,⟨(.pair .str (.pair .str .unit)),0,1,false,[]⟩)
theorem BF:rE Tryz.prog zL.1 zL.2:=⟨by kernel_rfl,(show ((_∧∃_,_∧_)∨_)∧_ from⟨.inl ⟨rfl,_,Tryz.underlying149,(show _∧_∧_∧_ from⟨rfl,by kernel_rfl,by kernel_rfl,(show _∧_∧_∧_ from⟨rfl,by kernel_rfl,by kernel_rfl,trivial⟩)⟩)⟩,(fun _=>⟨by kernel_rfl,1,by decide,(.struct rfl Tryz.underlying149 (by kernel_rfl) (.cons (by decide) rfl (by kernel_rfl) (by kernel_rfl) (.str Tryz.underlying9) (.cons (by decide) rfl (by kernel_rfl) (by kernel_rfl) (.str Tryz.underlying9) .nil)))⟩)⟩)⟩
@[reducible,go_sem] def uW:Nat×TI:=(3,⟨(.int .i64),0,0,false,[]⟩)
theorem vL:rE Tryz.prog uW.1 uW.2:=⟨by kernel_rfl,(show Tryz.prog.underlying _=_ from by kernel_rfl)⟩
@[reducible,go_sem] def AB:Nat×TI:=(4,⟨.bool,0,0,false,[]⟩)
theorem CS:rE Tryz.prog AB.1 AB.2:=⟨by kernel_rfl,(show Tryz.prog.underlying _=_ from by kernel_rfl)⟩
@[reducible,go_sem] def ED:Nat×TI:=(66,⟨.mp,9,4,false,[]⟩)
theorem IU:rE Tryz.prog ED.1 ED.2:=⟨by kernel_rfl,(show Tryz.prog.underlying _=_ from by kernel_rfl)⟩
@[reducible,go_sem] def M0:Nat×TI:=(133,⟨.mp,3,4,false,[]⟩)
theorem XL:rE Tryz.prog M0.1 M0.2:=⟨by kernel_rfl,(show Tryz.prog.underlying _=_ from by kernel_rfl)⟩
@[reducible,go_sem] def EE:Nat×TI:=(135,⟨uU,0,0,false,[(0,9,1),(7,9,1),(10,149,2)]⟩)
theorem IV:rE Tryz.prog EE.1 EE.2:=⟨by kernel_rfl,(show ((_∧∃_,_∧_)∨_)∧_ from⟨.inl ⟨rfl,_,Tryz.underlying135,(show _∧_∧_∧_ from⟨rfl,by kernel_rfl,by kernel_rfl,(show _∧_∧_∧_ from⟨rfl,by kernel_rfl,by kernel_rfl,(show _∧_∧_∧_ from⟨rfl,by kernel_rfl,by kernel_rfl,(show _∧_∧_∧_ from⟨rfl,by kernel_rfl,by kernel_rfl,(show _∧_∧_∧_ from⟨rfl,by kernel_rfl,by kernel_rfl,(show _∧_∧_∧_ from⟨rfl,by kernel_rfl,by kernel_rfl,trivial⟩)⟩)⟩)⟩)⟩)⟩)⟩,(fun h=>absurd h (by decide))⟩)⟩
@[reducible,go_sem] def yX:Nat×TI:=(5,⟨(.int .u8),0,0,false,[]⟩)
theorem AC:rE Tryz.prog yX.1 yX.2:=⟨by kernel_rfl,(show Tryz.prog.underlying _=_ from by kernel_rfl)⟩
@[reducible,go_sem] def M1:Nat×TI:=(21,⟨(.int .i32),0,0,false,[]⟩)
theorem XM:rE Tryz.prog M1.1 M1.2:=⟨by kernel_rfl,(show Tryz.prog.underlying _=_ from by kernel_rfl)⟩
@[reducible,go_sem] def IW:Nat×TI:=(28,⟨(.int .i64),0,0,false,[]⟩)
theorem QZ:rE Tryz.prog IW.1 IW.2:=⟨by kernel_rfl,(show Tryz.prog.underlying _=_ from by kernel_rfl)⟩
@[reducible,go_sem] def R0:Nat×TI:=(24,⟨(.list (.pair .str (.pair .str .unit))),149,32,true,[]⟩)
theorem a9M:rE Tryz.prog R0.1 R0.2:=⟨by kernel_rfl,(show _∧_∧_ from⟨by kernel_rfl,by kernel_rfl,by kernel_rfl⟩)⟩
@[reducible,go_sem] def XN:Nat×TI:=(2,⟨(.int .i64),0,0,false,[]⟩)
theorem aIl:rE Tryz.prog XN.1 XN.2:=⟨by kernel_rfl,(show Tryz.prog.underlying _=_ from by kernel_rfl)⟩
@[reducible,go_sem] def R1:Nat×TI:=(241,⟨(.int .u32),0,0,false,[]⟩)
theorem a9N:rE Tryz.prog R1.1 R1.2:=⟨by kernel_rfl,(show Tryz.prog.underlying _=_ from by kernel_rfl)⟩
@[reducible,go_sem] def EF:Nat×TI:=(67,⟨(.list (.int .i64)),3,8,false,[]⟩)
theorem IX:rE Tryz.prog EF.1 EF.2:=⟨by kernel_rfl,(show _∧_∧_ from⟨by kernel_rfl,by kernel_rfl,by kernel_rfl⟩)⟩
@[reducible,go_sem] def R2:Nat×TI:=(74,⟨(.list LZ),122,24,false,[]⟩)
theorem a9O:rE Tryz.prog R2.1 R2.2:=⟨by kernel_rfl,(show _∧_∧_ from⟨by kernel_rfl,by kernel_rfl,by kernel_rfl⟩)⟩
@[reducible,go_sem] def XO:Nat×TI:=(122,⟨LZ,0,1,false,[]⟩)
theorem aIm:rE Tryz.prog XO.1 XO.2:=⟨by kernel_rfl,(show ((_∧∃_,_∧_)∨_)∧_ from⟨.inl ⟨rfl,_,Tryz.underlying122,(show _∧_∧_∧_ from⟨rfl,by kernel_rfl,by kernel_rfl,(show _∧_∧_∧_ from⟨rfl,by kernel_rfl,by kernel_rfl,trivial⟩)⟩)⟩,(fun _=>⟨by kernel_rfl,1,by decide,(.struct rfl Tryz.underlying122 (by kernel_rfl) (.cons (by decide) rfl (by kernel_rfl) (by kernel_rfl) (.int Tryz.underlying3) (.cons (by decide) rfl (by kernel_rfl) (by kernel_rfl) (.str Tryz.underlying9) .nil)))⟩)⟩)⟩
@[reducible,go_sem] def M2:Nat×TI:=(55,⟨i0,0,0,false,[(3,9,1),(6,149,2)]⟩)
theorem XP:rE Tryz.prog M2.1 M2.2:=⟨by kernel_rfl,(show ((_∧∃_,_∧_)∨_)∧_ from⟨.inl ⟨rfl,_,Tryz.underlying55,(show _∧_∧_∧_ from⟨rfl,by kernel_rfl,by kernel_rfl,(show _∧_∧_∧_ from⟨rfl,by kernel_rfl,by kernel_rfl,(show _∧_∧_∧_ from⟨rfl,by kernel_rfl,by kernel_rfl,(show _∧_∧_∧_ from⟨rfl,by kernel_rfl,by kernel_rfl,(show _∧_∧_∧_ from⟨rfl,by kernel_rfl,by kernel_rfl,(show _∧_∧_∧_ from⟨rfl,by kernel_rfl,by kernel_rfl,(show _∧_∧_∧_ from⟨rfl,by kernel_rfl,by kernel_rfl,trivial⟩)⟩)⟩)⟩)⟩)⟩)⟩)⟩,(fun h=>absurd h (by decide))⟩)⟩
@[reducible,go_sem] def CT:Nat×TI:=(129,⟨BD,0,1,false,[]⟩)
theorem GK:rE Tryz.prog CT.1 CT.2:=⟨by kernel_rfl,(show ((_∧∃_,_∧_)∨_)∧_ from⟨.inl ⟨rfl,_,Tryz.underlying129,(show _∧_∧_∧_ from⟨rfl,by kernel_rfl,by kernel_rfl,(show _∧_∧_∧_ from⟨rfl,by kernel_rfl,by kernel_rfl,(show _∧_∧_∧_ from⟨rfl,by kernel_rfl,by kernel_rfl,trivial⟩)⟩)⟩)⟩,(fun _=>⟨by kernel_rfl,1,by decide,(.struct rfl Tryz.underlying129 (by kernel_rfl) (.cons (by decide) rfl (by kernel_rfl) (by kernel_rfl) (.int Tryz.underlying3) (.cons (by decide) rfl (by kernel_rfl) (by kernel_rfl) (.str Tryz.underlying9) (.cons (by decide) rfl (by kernel_rfl) (by kernel_rfl) (.str Tryz.underlying9) .nil))))⟩)⟩)⟩
@[reducible,go_sem] def BG:Nat×TI:=(95,⟨wW,0,0,false,[(1,9,1),(2,149,2),(3,55,7),(7,3,1)]⟩)
theorem EG:rE Tryz.prog BG.1 BG.2:=⟨by kernel_rfl,(show ((_∧∃_,_∧_)∨_)∧_ from⟨.inl ⟨rfl,_,Tryz.underlying95,(show _∧_∧_∧_ from⟨rfl,by kernel_rfl,by kernel_rfl,(show _∧_∧_∧_ from⟨rfl,by kernel_rfl,by kernel_rfl,(show _∧_∧_∧_ from⟨rfl,by kernel_rfl,by kernel_rfl,(show _∧_∧_∧_ from⟨rfl,by kernel_rfl,by kernel_rfl,(show _∧_∧_∧_ from⟨rfl,by kernel_rfl,by kernel_rfl,trivial⟩)⟩)⟩)⟩)⟩)⟩,(fun h=>absurd h (by decide))⟩)⟩
@[reducible,go_sem] def IY:Nat×TI:=(93,⟨.ref,0,0,false,[]⟩)
theorem R3:rE Tryz.prog IY.1 IY.2:=⟨by kernel_rfl,(show∃_,_ from⟨_,Tryz.underlying93⟩)⟩
@[reducible,go_sem] def IZ:Nat×TI:=(106,⟨(.pair rR .unit),0,0,false,[(1,5,1)]⟩)
theorem R4:rE Tryz.prog IZ.1 IZ.2:=⟨by kernel_rfl,(show ((_∧∃_,_∧_)∨_)∧_ from⟨.inl ⟨rfl,_,Tryz.underlying106,(show _∧_∧_∧_ from⟨rfl,by kernel_rfl,by kernel_rfl,trivial⟩)⟩,(fun h=>absurd h (by decide))⟩)⟩
@[reducible,go_sem] def J0:Nat×TI:=(90,⟨.ref,0,0,false,[]⟩)
theorem R5:rE Tryz.prog J0.1 J0.2:=⟨by kernel_rfl,(show∃_,_ from⟨_,Tryz.underlying90⟩)⟩
theorem pR:Tryz.prog.follows .mixedOrders=true:=by kernel_rfl
@[reducible,go_sem] def M3:Nat×Sig:=(135,⟨[.v,.v],WZ,[],[],none⟩)
theorem R6:pO Tryz.prog M3:=⟨aHA,fun _ h=>by cases h⟩
@[reducible,go_sem] def M4:Nat×Sig:=(97,⟨[.v,.v],X0,[],[],none⟩)
theorem a9P:pO Tryz.prog M4:=⟨aHB,fun _ h=>by cases h⟩
@[reducible,go_sem] def a9Q:Nat×Sig:=(243,⟨[.v],X1,[],[],none⟩)
theorem aIn:pO Tryz.prog a9Q:=⟨aHC,fun _ h=>by cases h⟩
@[reducible,go_sem] def R7:Nat×Sig:=(93,⟨[.p rR [1]],X2,[],[],none⟩)
theorem XQ:pO Tryz.prog R7:=⟨aHH,fun _ h=>by cases h⟩
@[reducible,go_sem] def GL:Nat×Sig:=(54,⟨[.p rR [1]],X4,[],[],none⟩)
theorem J1:pO Tryz.prog GL:=⟨aHP,fun _ h=>by cases h⟩
@[reducible,go_sem] def a9R:Nat×Sig:=(240,⟨[.r,.v,.v],X6,[],[],none⟩)
theorem aIo:pO Tryz.prog a9R:=⟨aHY,fun _ h=>by cases h⟩
@[reducible,go_sem] def a9S:Nat×Sig:=(245,⟨[.v,.v],XH,[],[],none⟩)
theorem aIp:pO Tryz.prog a9S:=⟨aIh,fun _ h=>by cases h⟩
@[reducible,go_sem] def a9T:Nat×Sig:=(246,⟨[.v,.v],XI,[],[],none⟩)
theorem aIq:pO Tryz.prog a9T:=⟨aIi,fun _ h=>by cases h⟩
@[reducible,go_sem] def a9U:Nat×Sig:=(165,⟨[.v],XJ,[],[],none⟩)
theorem aIr:pO Tryz.prog a9U:=⟨aIj,fun _ h=>by cases h⟩
@[reducible,go_sem] def a9V:Nat×Sig:=(202,⟨[.v],XK,[],[],none⟩)
theorem aIs:pO Tryz.prog a9V:=⟨aIk,fun _ h=>by cases h⟩
@[reducible,go_sem] def XR:Nat×Sig:=(147,⟨[.v],g6,[],[],some a9t⟩)
theorem aIt:pO Tryz.prog XR:=aHE
end
end Go.Proofs.YtbbpilohihldiaaGreatDoor
namespace Go.Proofs.YtbbpilohihldiaaGreatDoor
open Vc
theorem vM {σ ρ:Type}(f:σ→Option (σ⊕ρ)) (x:σ):pJ f x=(f x).bind fun w=>match w with
  | .inl y=>pJ f y
  | .inr r=>some r:=by
 cases h:f x with
 |none=>
  cases h2:pJ f x with
  |none=>rfl
  |some r=>
   obtain⟨n,hn⟩:=QU h2
   cases n with
   |zero=>cases hn
   |succ n=>unfold iter at hn;rw[h] at hn;cases hn
 |some w=>
  cases w with
  |inl y=>exact CN h
  |inr r=>exact tJ h
theorem vS {t:Ty}{l:List t.den}{i:Nat}(h:i<l.length):pG t l (i:Int)=l[i]:=by
 unfold pG
 rw[Int.toNat_natCast,List.getD_eq_getElem?_getD,List.getElem?_eq_getElem h];rfl
theorem vT {l:List UInt8}{i:Nat}(h:i<l.length):pD l (i:Int)=(l[i].toNat:Int):=by
 unfold pD
 rw[Int.toNat_natCast,List.getD_eq_getElem?_getD,List.getElem?_eq_getElem h];rfl
def sJ {β:Type}(f:Nat→β) (b:β):Option Nat→β
 |some k=>f k
 |none=>b
theorem XS {α ρ:Type}{f:Int→Option (Int⊕(Unit⊕ρ))}{l:List α}(p:α→Bool) (g:Nat→ρ)
  (hf: ∀(i:Nat) (h:i<l.length),f i=if p l[i]=true then some (.inr (.inr (g i))) else some (.inl (i+1)))
  (he:f l.length=some (.inr (.inl ()))): ∀(n j:Nat),j+n=l.length→pJ f j=some (sJ (fun k=> .inr (g (j+k))) (.inl ()) ((l.drop j).findIdx? p))
 |0,j,hj=>by
  have:j=l.length:=by omega
  subst this
  rw[List.drop_length,vM,he]
  rfl
 |n+1,j,hj=>by
  have hlt:j<l.length:=by omega
  rw[vM,hf j hlt,List.drop_eq_getElem_cons hlt,List.findIdx?_cons]
  by_cases hp:p l[j]=true
  ·rw[if_pos hp,if_pos hp]
   rfl
  ·rw[if_neg hp,if_neg hp]
   show pJ f ((j:Int)+1)=_
   have:=XS p g hf he n (j+1) (by omega)
   rw[show ((j:Int)+1)=((j+1:Nat):Int) by omega,this]
   cases(l.drop (j+1)).findIdx? p with
   |none=>rfl
   |some k=>
    show some (Sum.inr (g (j+1+k)))=some (Sum.inr (g (j+(k+1))))
    rw[show j+1+k=j+(k+1) by omega]
theorem yY {α ρ:Type}{f:Int→Option (Int⊕(Unit⊕ρ))}{l:List α}(p:α→Bool) (g:Nat→ρ)
  (hf: ∀(i:Nat) (h:i<l.length),f i=if p l[i]=true then some (.inr (.inr (g i))) else some (.inl (i+1)))
  (he:f l.length=some (.inr (.inl ()))):pJ f 0=some (sJ (fun k=> .inr (g k)) (.inl ()) (l.findIdx? p)):=by
 have:=XS p g hf he l.length 0 (by omega)
 simpa using this
theorem a9W {s:List UInt8}{i:Nat}(h:i<s.length) (ha:s[i].toNat<128):sH s i=(s[i].toNat:Int)∧wP s i=i+1:=by
 have h1:=Lib.decodeL_drop ⟨s.toArray⟩ i
 have h2:(⟨s.toArray⟩:ByteArray).data.toList.drop i=s[i]::s.drop (i+1):=by
  show s.drop i=_
  rw[List.drop_eq_getElem_cons h]
 rw[h2,Lib.decodeL_ascii _ _ ha] at h1
 unfold sH wP UW
 rw[←h1,if_pos h]
 exact⟨rfl,rfl⟩
theorem aIu {n b0 b1 b2 b3:Nat}(h:128≤b0):128≤(Lib.decodeN n b0 b1 b2 b3).1:=by
 unfold Lib.decodeN
 repeat' split
 all_goals first|omega|(dsimp only;omega)
theorem a9X {s:List UInt8}{i:Nat}(h:i<s.length) (ha:128≤s[i].toNat):128≤sH s i:=by
 unfold sH
 rw[Lib.decode_at]
 have:(⟨s.toArray⟩:ByteArray).get! i=s[i]:=by
  show s.toArray[i]! =_
  simp [h]
 rw[this]
 exact Int.ofNat_le.2 (aIu ha)
theorem a9Y {ρ:Type}{f:Nat→Option (Nat⊕(Unit⊕ρ))}{s:List UInt8}(p:Int→Bool) (g:Nat→ρ) (hb: ∀c,128≤c→p c=true)
  (hf: ∀(i:Nat) (h:i<s.length),f i=if p (sH s i)=true then some (.inr (.inr (g i))) else some (.inl (wP s i)))
  (he:f s.length=some (.inr (.inl ()))): ∀(n j:Nat),j+n=s.length→pJ f j=some (sJ (fun k=> .inr (g (j+k))) (.inl ()) ((s.drop j).findIdx? (fun b=>p b.toNat)))
 |0,j,hj=>by
  have:j=s.length:=by omega
  subst this
  rw[List.drop_length,vM,he]
  rfl
 |n+1,j,hj=>by
  have hlt:j<s.length:=by omega
  rw[vM,hf j hlt,List.drop_eq_getElem_cons hlt,List.findIdx?_cons]
  by_cases ha:s[j].toNat<128
  ·obtain⟨e1,e2⟩:=a9W hlt ha
   rw[e1,e2]
   by_cases hp:p (s[j].toNat:Int)=true
   ·rw[if_pos hp,if_pos hp]
    rfl
   ·rw[if_neg hp,if_neg hp]
    show pJ f (j+1)=_
    rw[a9Y p g hb hf he n (j+1) (by omega)]
    cases(s.drop (j+1)).findIdx? (fun b=>p b.toNat) with
    |none=>rfl
    |some k=>
     show some (Sum.inr (g (j+1+k)))=some (Sum.inr (g (j+(k+1))))
     rw[show j+1+k=j+(k+1) by omega]
  ·rw[if_pos (hb _ (a9X hlt (by omega))),if_pos (hb _ (by omega))]
   rfl
theorem a9Z {ρ:Type}{f:Nat→Option (Nat⊕(Unit⊕ρ))}{s:List UInt8}(p:Int→Bool) (g:Nat→ρ) (hb: ∀c,128≤c→p c=true)
  (hf: ∀(i:Nat) (h:i<s.length),f i=if p (sH s i)=true then some (.inr (.inr (g i))) else some (.inl (wP s i)))
  (he:f s.length=some (.inr (.inl ()))):pJ f 0=some (sJ (fun k=> .inr (g k)) (.inl ()) (s.findIdx? (fun b=>p b.toNat))):=by
 have:=a9Y p g hb hf he s.length 0 (by omega)
 simpa using this
def fit {α:Type}(l:List α):Prop:=l.length≤1000000
end Go.Proofs.YtbbpilohihldiaaGreatDoor
namespace Go.Proofs.YtbbpilohihldiaaGreatDoor
open Vc
set_option maxRecDepth 100000
set_option maxHeartbeats 4000000
set_option linter.unusedSimpArgs false
set_option linter.unusedVariables false
noncomputable section
def M5 (O:qO) (Z:(List UInt8)):Int→Option (Int⊕(Unit⊕(Int×Bool))):=fun aA=>
 if (decide (aA<(List.length O.2.2.2.1:Int)))=true then
  if 0≤aA∧aA<(List.length O.2.2.2.1:Int) then
   if (decide ((pG qT O.2.2.2.1 aA).1=Z))=true then
    some (.inr (.inr ((aA,true))))
   else
    if p4 (aA+(1:Int)) then
     some (.inl (aA+(1:Int)))
    else none
  else none
 else
  some (.inr (.inl ()))
def CU (O:qO) (Z:(List UInt8)):Option (Int×Bool):=
 qS (pJ (M5 O Z) (0:Int)) fun _=>
 some (((0:Int),false))
section
variable (O:qO) (Z:(List UInt8))
@[reducible] def XT:List Slot:=[(.val uT O,none),(.val .str Z,none)]
@[reducible] def XU:List Blk:=[]
@[go_sem] def XV:Ret:=⟨[((CU O Z)).isSome=true],[(.val (.int .i64) ((val (CU O Z)).1),none),(.val .bool ((val (CU O Z)).2),none)],[]⟩
def a90:List Slot→List Blk→Option Ret:=pV (V:=(qO×(List UInt8))) (fun x=>XT x.1 x.2) (fun x=>XU) fun x=>XV x.1 x.2
@[go_sem] theorem aMO:a90 (no_index (XT O Z)) (no_index XU)=some (XV O Z):=pX (fun⟨a0,a1⟩ ⟨b0,b1⟩ h1 h2=>by cases h1;cases h2;rfl) (O,Z)
end
@[reducible,go_sem] def a91:Nat×Sig:=(37,⟨[.v,.v],a90,[],[],none⟩)
theorem EH:Env Tryz.prog [qD,A9,vJ,xJ] (pP []):=⟨⟨qG,⟨CQ,⟨wF,⟨yV,trivial⟩⟩⟩⟩,pW,pR⟩
theorem aIv:pO Tryz.prog a91:=by
 refine pY EH Tryz.func37 (c:=_) rfl (N:=23) (by kernel_rfl) (ts:=[(4,none),(5,none)]) rfl (fun _ _=>rfl) ?_
 intro⟨O,Z⟩ hs hrow
 dsimp only[XT,XU,XV,pS,enumH,pF,pN,pU,Nat.reduceAdd] at hs hrow⊢
 have hz:=hs
 obtain⟨z0,hC0⟩:=Option.isSome_iff_exists.1 hz
 try rw[q8 hC0]
 clear hz hs
 unfold CU at hC0
 refine oZ EH ?_
 refine pA ?_
 refine oZ EH ?_
 refine pZ ?_
 obtain⟨y1,hy1,hC0⟩:=t8 hC0
 refine rN 0 (fun s=> ∃v,y1= .inl v∧s=(fun _=>⟨[],[],0,23,0⟩) v) ?_ ?_
 ·refine rM hy1 (fun x=>⟨[(1,(.val .str Z,none)),(2,(.val .ref (some (0,0)),none)),(6,(.val (.int .i64) x,none))],[(0,.cells uT O [])],1,23,0⟩) ⟨[1,2,6],[(0,0)]⟩ (by rfl) ?_
  intro aA w1 n1 hC1 hN1
  unfold M5 at hC1
  dsimp only at hC1⊢
  refine pA ?_
  refine oZ EH ?_
  refine p9 hC1 (fun hC1 hc1=> ?_) (fun hC1 hc1=> ?_)
  ·refine pE (p8 (pA (pZ ?_)))
   obtain⟨hg1,hC1⟩:=p5 hC1
   refine oZ EH ?_ (hp:=by exact hg1)
   refine p9 hC1 (fun hC1 hc2=> ?_) (fun hC1 hc2=> ?_)
   ·refine oZ EH ?_
    refine p7 (pQ (pH (tM (tK (pQ (pH ?_))))))
    cases hC1
    cases hN1
    dsimp only at hC0
    cases hC0
    exact⟨[],by rfl,by rfl,by rfl⟩
   ·refine pE (q9 (p8 ?_))
    obtain⟨hg2,hC1⟩:=p5 hC1
    refine q7 EH ?_ (hp:=by exact hg2)
    cases hC1
    exact qZ ⟨⟨[1,2,6],[(0,0)]⟩,_,by rfl,hN1⟩
  ·refine rL (rJ (rP ?_))
   cases hC1
   cases hN1
   exact rO ⟨⟨[],[]⟩,_,rfl,by rfl⟩
 ·rintro _ ⟨v,rfl,rfl⟩
  dsimp only at hC0⊢
  refine rK (p8 ?_)
  refine oZ EH ?_
  refine p7 ?_
  cases hC0
  exact⟨[],by rfl,by rfl,by rfl⟩
attribute [irreducible] CU
def a92 (O:s0):Unit:=
 ()
section
variable (O:s0)
@[reducible] def XW:List Slot:=[(.val tY O,none)]
@[reducible] def XX:List Blk:=[]
@[go_sem] def XY:Ret:=⟨[],[(.val tY (O.1,(O.2.1,(O.2.2.1,()))),none)],[]⟩
def a93:List Slot→List Blk→Option Ret:=pV (V:=s0) (fun x=>XW x) (fun x=>XX) fun x=>XY x
@[go_sem] theorem aMP:a93 (no_index (XW O)) (no_index XX)=some (XY O):=pX (fun a0 b0 h1 h2=>by cases h1;cases h2;rfl) O
end
@[reducible,go_sem] def a94:Nat×Sig:=(42,⟨[.v],a93,[],[],none⟩)
theorem XZ:Env Tryz.prog [qD,sR,EB,BE] (pP []):=⟨⟨qG,⟨sX,⟨IT,⟨EC,trivial⟩⟩⟩⟩,pW,pR⟩
theorem aIw:pO Tryz.prog a94:=by
 refine pY XZ Tryz.func42 (c:=_) rfl (N:=10) (by kernel_rfl) (ts:=[(2,some 37)]) rfl (fun _ _=>rfl) ?_
 intro O hs hrow
 dsimp only[XW,XX,XY,pS,enumH,pF,pN,pU,Nat.reduceAdd] at hs hrow⊢
 obtain⟨z0,hC0⟩: ∃z,(a92 O)=z:=⟨_,rfl⟩
 try rw[hC0]
 unfold a92 at hC0
 refine oZ XZ ?_
 refine oZ XZ ?_
 refine p7 ?_
 cases hC0
 exact⟨[],by rfl,by rfl,by rfl⟩
def a95 (O:s0):Unit:=
 ()
section
variable (O:s0)
@[reducible] def Y0:List Slot:=[(.val tY O,none)]
@[reducible] def Y1:List Blk:=[]
@[go_sem] def Y2:Ret:=⟨[],[(.val .clo (some (92,[(0,0)])),none)],[.cells tY O []]⟩
def a96:List Slot→List Blk→Option Ret:=pV (V:=s0) (fun x=>Y0 x) (fun x=>Y1) fun x=>Y2 x
@[go_sem] theorem aMQ:a96 (no_index (Y0 O)) (no_index Y1)=some (Y2 O):=pX (fun a0 b0 h1 h2=>by cases h1;cases h2;rfl) O
end
@[reducible,go_sem] def a97:Nat×Sig:=(50,⟨[.v],a96,[],[],none⟩)
theorem Y3:Env Tryz.prog [EB] (pP []):=⟨⟨IT,trivial⟩,pW,pR⟩
theorem aIx:pO Tryz.prog a97:=by
 refine pY Y3 Tryz.func50 (c:=_) rfl (N:=4) (by kernel_rfl) (ts:=[(2,none)]) rfl (fun _ _=>rfl) ?_
 intro O hs hrow
 dsimp only[Y0,Y1,Y2,pS,enumH,pF,pN,pU,Nat.reduceAdd] at hs hrow⊢
 obtain⟨z0,hC0⟩: ∃z,(a95 O)=z:=⟨_,rfl⟩
 try rw[hC0]
 unfold a95 at hC0
 refine oZ Y3 ?_
 refine oZ Y3 ?_
 refine p7 ?_
 cases hC0
 exact⟨[(0,0)],by rfl,by rfl,by rfl⟩
def vU (O:((List Int)×Unit)) (Z:(List UInt8)):Option Unit:=
 if List.length O.1+List.length Z≤140737488355328 then
  some (())
 else none
section
variable (O:(List UInt8)) (Z:((List Int)×Unit)) (aA:Nat)
@[reducible] def Y4:List Slot:=[(.val .ref (some (0,0)),none),(.val .str O,none)]
@[reducible] def Y5:List Blk:=[.cells rR ((some (0,0)),Z) [(1,1)],.grow 5 1 aA]
@[go_sem] def Y6:Ret:=⟨[aA=(List.length Z.1),((vU Z O)).isSome=true],[(.val (.int .i64) (List.length O:Int),none),(.any,none)],[.cells rR ((some (0,0)),((Z.1++qJ O),())) [(1,1)],.grow 5 1 (List.length (Z.1++qJ O))]⟩
def a98:List Slot→List Blk→Option Ret:=pV (V:=((List UInt8)×((List Int)×Unit)×Nat)) (fun x=>Y4 x.1) (fun x=>Y5 x.2.1 x.2.2) fun x=>Y6 x.1 x.2.1 x.2.2
@[go_sem] theorem aMR:a98 (no_index (Y4 O)) (no_index (Y5 Z aA))=some (Y6 O Z aA):=pX (fun⟨a0,a1,a2⟩ ⟨b0,b1,b2⟩ h1 h2=>by cases h1;cases h2;rfl) (O,Z,aA)
end
@[reducible,go_sem] def EI:Nat×Sig:=(53,⟨[.p rR [1],.v],a98,[],[],none⟩)
theorem M6:Env Tryz.prog [qD,yW,CR] (pP [R7]):=⟨⟨qG,⟨AA,⟨GJ,trivial⟩⟩⟩,pB XQ pW,pR⟩
theorem GM:pO Tryz.prog EI:=by
 refine pY M6 Tryz.func53 (c:=_) rfl (N:=19) (by kernel_rfl) (ts:=[(4,none),(5,none)]) rfl (fun _ _=>rfl) ?_
 intro⟨O,Z,aA⟩ hs hrow
 dsimp only[Y4,Y5,Y6,pS,enumH,pF,pN,pU,Nat.reduceAdd] at hs hrow⊢
 obtain⟨rfl,hz⟩:=hs
 obtain⟨z0,hC0⟩:=Option.isSome_iff_exists.1 hz
 try rw[q8 hC0]
 clear hz
 unfold vU at hC0
 refine oZ M6 ?_
 refine oZ M6 ?_ (hp:=by exact(by first|exact rfl|exact trivial))
 obtain⟨hg1,hC0⟩:=p5 hC0
 refine oZ M6 ?_ (hp:=by exact And.intro (by first|exact rfl|exact trivial) (hg1))
 refine oZ M6 ?_
 refine p7 ?_
 cases hC0
 exact⟨[(0,0),(1,1)],by rfl,by rfl,by rfl⟩
attribute [irreducible] vU
def EJ (O:(List (List UInt8))):(Int×Int)→Option ((Int×Int)⊕Int):=fun(Z,aA)=>
 if ((decide (aA<(List.length O:Int)))&&(decide (Z<(1099511627776:Int))))=true then
  if 0≤aA∧aA<(List.length O:Int) then
   if p4 (Z+(List.length (pG .str O aA):Int)) then
    if p4 (aA+(1:Int)) then
     some (.inl ((Z+(List.length (pG .str O aA):Int)),(aA+(1:Int))))
    else none
   else none
  else none
 else
  some (.inr Z)
def EK (O:(List pI)):(Int×Int)→Option ((Int×Int)⊕Int):=fun(Z,aA)=>
 if ((decide (aA<(List.length O:Int)))&&(decide (Z<(1099511627776:Int))))=true then
  if 0≤aA∧aA<(List.length O:Int) then
   if p4 (Z+(List.length ((pG (.pair .str (.pair .str .unit)) O aA).1):Int)) then
    if 0≤aA∧aA<(List.length O:Int) then
     if p4 ((Z+(List.length ((pG (.pair .str (.pair .str .unit)) O aA).1):Int))+(List.length ((pG (.pair .str (.pair .str .unit)) O aA).2.1):Int)) then
      if p4 (aA+(1:Int)) then
       some (.inl (((Z+(List.length ((pG (.pair .str (.pair .str .unit)) O aA).1):Int))+(List.length ((pG (.pair .str (.pair .str .unit)) O aA).2.1):Int)),(aA+(1:Int))))
      else none
     else none
    else none
   else none
  else none
 else
  some (.inr Z)
def vV (O:(List (List UInt8))) (Z:(List pI)):Option Int:=
 if p4 ((List.length O:Int)+(List.length Z:Int)) then
  qB (pJ (EJ O) (((List.length O:Int)+(List.length Z:Int)),(0:Int))) fun aA=>
  qB (pJ (EK Z) (aA,(0:Int))) fun aB=>
  some (aB)
 else none
section
variable (O:(List (List UInt8))) (Z:(List pI))
@[reducible] def Y7:List Slot:=[(.val (.list .str) O,none),(.val (.list (.pair .str (.pair .str .unit))) Z,none)]
@[reducible] def Y8:List Blk:=[]
@[go_sem] def Y9:Ret:=⟨[((vV O Z)).isSome=true],[(.val (.int .i64) (val (vV O Z)),none)],[]⟩
def a99:List Slot→List Blk→Option Ret:=pV (V:=((List (List UInt8))×(List pI))) (fun x=>Y7 x.1 x.2) (fun x=>Y8) fun x=>Y9 x.1 x.2
@[go_sem] theorem aMS:a99 (no_index (Y7 O Z)) (no_index Y8)=some (Y9 O Z):=pX (fun⟨a0,a1⟩ ⟨b0,b1⟩ h1 h2=>by cases h1;cases h2;rfl) (O,Z)
end
@[reducible,go_sem] def YA:Nat×Sig:=(57,⟨[.v,.v],a99,[],[],none⟩)
theorem zM:Env Tryz.prog [qD,sR,uV,zL] (pP []):=⟨⟨qG,⟨sX,⟨vK,⟨BF,trivial⟩⟩⟩⟩,pW,pR⟩
theorem aAa:pO Tryz.prog YA:=by
 refine pY zM Tryz.func57 (c:=_) rfl (N:=56) (by kernel_rfl) (ts:=[(4,none)]) rfl (fun _ _=>rfl) ?_
 intro⟨O,Z⟩ hs hrow
 dsimp only[Y7,Y8,Y9,pS,enumH,pF,pN,pU,Nat.reduceAdd] at hs hrow⊢
 have hz:=hs
 obtain⟨z0,hC0⟩:=Option.isSome_iff_exists.1 hz
 try rw[q8 hC0]
 clear hz hs
 unfold vV at hC0
 refine oZ zM ?_
 obtain⟨hg1,hC0⟩:=p5 hC0
 refine oZ zM ?_ (hp:=by exact hg1)
 refine pA ?_
 refine oZ zM ?_
 refine pZ ?_
 obtain⟨aA,hy1,hC0⟩:=p6 hC0
 refine rN 0 (fun s=>s=(fun x=>⟨[(1,(.val (.list (.pair .str (.pair .str .unit))) Z,none)),(5,(.val (.int .i64) x,none))],[],0,56,0⟩) aA) ?_ ?_
 ·refine rM hy1 (fun x=>⟨[(0,(.val (.list .str) O,none)),(1,(.val (.list (.pair .str (.pair .str .unit))) Z,none)),(5,(.val (.int .i64) x.1,none)),(6,(.val (.int .i64) x.2,none))],[],0,56,0⟩) ⟨[0,1,5,6],[]⟩ (by rfl) ?_
  intro x1 w1 n1 hC1 hN1
  obtain⟨aB,aC⟩:=x1
  unfold EJ at hC1
  dsimp only at hC1⊢
  refine pA ?_
  refine oZ zM ?_ (hp:=by exact And.intro (fun hh=>hh) ((fun hh=>qC hh)))
  refine p9 hC1 (fun hC1 hc1=> ?_) (fun hC1 hc1=> ?_)
  ·refine pE (p8 (pA (pZ ?_)))
   obtain⟨hg2,hC1⟩:=p5 hC1
   obtain⟨hg3,hC1⟩:=p5 hC1
   refine q7 zM ?_ (hp:=by exact And.intro hg2 (hg3))
   refine q9 (p8 ?_)
   obtain⟨hg4,hC1⟩:=p5 hC1
   refine q7 zM ?_ (hp:=by exact hg4)
   cases hC1
   exact qZ ⟨⟨[0,1,5,6],[]⟩,_,by rfl,hN1⟩
  ·refine rL (rJ (rP ?_))
   cases hC1
   cases hN1
   exact rO ⟨⟨[1,5],[]⟩,by rfl⟩
 ·rintro _ rfl
  dsimp only at hC0⊢
  refine rK (p8 (pA ?_))
  refine oZ zM ?_
  refine pZ ?_
  obtain⟨aD,hy1,hC0⟩:=p6 hC0
  refine rN 2 (fun s=>s=(fun x=>⟨[(5,(.val (.int .i64) x,none))],[],0,56,0⟩) aD) ?_ ?_
  ·refine rM hy1 (fun x=>⟨[(1,(.val (.list (.pair .str (.pair .str .unit))) Z,none)),(5,(.val (.int .i64) x.1,none)),(7,(.val (.int .i64) x.2,none))],[],0,56,0⟩) ⟨[1,5,7],[]⟩ (by rfl) ?_
   intro x1 w1 n1 hC1 hN1
   obtain⟨aE,aF⟩:=x1
   unfold EK at hC1
   dsimp only at hC1⊢
   refine pA ?_
   refine oZ zM ?_ (hp:=by exact And.intro (fun hh=>hh) ((fun hh=>qC hh)))
   refine p9 hC1 (fun hC1 hc2=> ?_) (fun hC1 hc2=> ?_)
   ·refine pE (p8 (pA (pZ ?_)))
    obtain⟨hg5,hC1⟩:=p5 hC1
    obtain⟨hg6,hC1⟩:=p5 hC1
    obtain⟨hg7,hC1⟩:=p5 hC1
    obtain⟨hg8,hC1⟩:=p5 hC1
    refine yS zM ?_ (hp:=by exact And.intro hg5 (And.intro hg6 (And.intro hg7 (hg8))))
    refine q9 (p8 ?_)
    obtain⟨hg9,hC1⟩:=p5 hC1
    refine q7 zM ?_ (hp:=by exact hg9)
    cases hC1
    exact qZ ⟨⟨[1,5,7],[]⟩,_,by rfl,hN1⟩
   ·refine rL (rJ (rP ?_))
    cases hC1
    cases hN1
    exact rO ⟨⟨[5],[]⟩,by rfl⟩
  ·rintro _ rfl
   dsimp only at hC0⊢
   refine rK (p8 ?_)
   refine oZ zM ?_
   refine p7 ?_
   cases hC0
   exact⟨[],by rfl,by rfl,by rfl⟩
attribute [irreducible] vV
end
end Go.Proofs.YtbbpilohihldiaaGreatDoor
namespace Go.Proofs.YtbbpilohihldiaaGreatDoor
open Vc
set_option maxRecDepth 100000
set_option maxHeartbeats 4000000
set_option linter.unusedSimpArgs false
set_option linter.unusedVariables false
noncomputable section
def CV (O:s0):Option Unit:=
 if (List.length ([O.1]:List (List UInt8))+List.length O.2.1)*16≤140737488355328 then
  if (List.length (([O.1]:List (List UInt8))++O.2.1)+List.length ([O.2.2.1]:List (List UInt8)))*16≤140737488355328 then
   some (())
  else none
 else none
section
variable (O:s0)
@[reducible] def YB:List Slot:=[(.val tY O,none)]
@[reducible] def YC:List Blk:=[]
@[go_sem] def YD:Ret:=⟨[((CV O)).isSome=true],[(.val (.list .str) ((([O.1]:List (List UInt8))++O.2.1)++([O.2.2.1]:List (List UInt8))),some 0)],[.grow 9 1 (List.length ((([O.1]:List (List UInt8))++O.2.1)++([O.2.2.1]:List (List UInt8))))]⟩
def aAb:List Slot→List Blk→Option Ret:=pV (V:=s0) (fun x=>YB x) (fun x=>YC) fun x=>YD x
@[go_sem] theorem aMT:aAb (no_index (YB O)) (no_index YC)=some (YD O):=pX (fun a0 b0 h1 h2=>by cases h1;cases h2;rfl) O
end
@[reducible,go_sem] def YE:Nat×Sig:=(91,⟨[.v],aAb,[],[],none⟩)
theorem YF:Env Tryz.prog [qD,sR,BE] (pP []):=⟨⟨qG,⟨sX,⟨EC,trivial⟩⟩⟩,pW,pR⟩
theorem aAc:pO Tryz.prog YE:=by
 refine pY YF Tryz.func91 (c:=_) rfl (N:=13) (by kernel_rfl) (ts:=[(2,none)]) rfl (fun _ _=>rfl) ?_
 intro O hs hrow
 dsimp only[YB,YC,YD,pS,enumH,pF,pN,pU,Nat.reduceAdd] at hs hrow⊢
 have hz:=hs
 obtain⟨z0,hC0⟩:=Option.isSome_iff_exists.1 hz
 try rw[q8 hC0]
 clear hz hs
 unfold CV at hC0
 refine oZ YF ?_
 obtain⟨hg1,hC0⟩:=p5 hC0
 obtain⟨hg2,hC0⟩:=p5 hC0
 refine sI YF ?_ (hp:=by exact And.intro (by first|exact rfl|exact trivial) (And.intro hg1 (And.intro (by first|exact rfl|exact trivial) (hg2))))
 refine p7 ?_
 cases hC0
 exact⟨[(0,128)],by rfl,by rfl,by rfl⟩
attribute [irreducible] CV
def aAd:Unit:=
 ()
section
@[reducible] def YG:List Slot:=[]
@[reducible] def YH:List Blk:=[]
@[go_sem] def YI:Ret:=⟨[],[(.val .ref (some (0,0)),none)],[.cells uU (([]:List (List UInt8)),((some 1),((some 2),((some 3),((([]:List UInt8),(([]:List UInt8),(([]:List UInt8),(([]:List (List UInt8)),((some (4,0)),((0:Int),(([]:List pI),()))))))),((-1:Int),())))))) [(0,5),(7,6),(10,7)],.map (.int .i64) .bool ([]:List (Int×Bool)),.map .str .bool ([]:List ((List UInt8)×Bool)),.map .str .bool ([]:List ((List UInt8)×Bool)),.row 9 .str ([]:List (List UInt8)) 0,.grow 9 1 (List.length ([]:List (List UInt8))),.grow 9 1 (List.length ([]:List (List UInt8))),.grow 149 2 (List.length ([]:List pI))]⟩
def aAe:List Slot→List Blk→Option Ret:=pV (V:=Unit) (fun x=>YG) (fun x=>YH) fun x=>YI
@[go_sem] theorem aMU:aAe (no_index YG) (no_index YH)=some YI:=pX (fun _ _ h1 h2=>by cases h1;cases h2;rfl) ()
end
@[reducible,go_sem] def CW:Nat×Sig:=(94,⟨[],aAe,[],[],none⟩)
theorem YJ:Env Tryz.prog [] (pP []):=⟨trivial,pW,pR⟩
theorem aIy:Env Tryz.prog [uW,AB,qD,ED,M0,EE] (pP []):=⟨⟨vL,⟨CS,⟨qG,⟨IU,⟨XL,⟨IV,trivial⟩⟩⟩⟩⟩⟩,YJ.Γ,pR⟩
theorem R9:pO Tryz.prog CW:=by
 refine pY YJ Tryz.func94 (c:=_) rfl (N:=6) (by kernel_rfl) (ts:=[(0,none)]) rfl (fun _ _=>rfl) ?_
 intro⟨⟩ hs hrow
 dsimp only[YG,YH,YI,pS,enumH,pF,pN,pU,Nat.reduceAdd] at hs hrow⊢
 obtain⟨z0,hC0⟩: ∃z,aAd=z:=⟨_,rfl⟩
 try rw[hC0]
 unfold aAd at hC0
 refine oZ YJ ?_
 refine oZ aIy ?_
 refine p7 ?_
 cases hC0
 exact⟨[(0,160),(1,32),(2,64),(3,96),(4,164),(5,161),(6,162),(7,163)],by rfl,by rfl,by rfl⟩
def aAf (O:(List UInt8)):Unit:=
 ()
section
variable (O:(List UInt8))
@[reducible] def YK:List Slot:=[(.val .str O,none)]
@[reducible] def YL:List Blk:=[]
@[go_sem] def YM:Ret:=⟨[],[(.val .clo (some (134,[(0,0)])),none)],[.cells .str O []]⟩
def aAg:List Slot→List Blk→Option Ret:=pV (V:=(List UInt8)) (fun x=>YK x) (fun x=>YL) fun x=>YM x
@[go_sem] theorem aMV:aAg (no_index (YK O)) (no_index YL)=some (YM O):=pX (fun a0 b0 h1 h2=>by cases h1;cases h2;rfl) O
end
@[reducible,go_sem] def M7:Nat×Sig:=(95,⟨[.v],aAg,[],[],none⟩)
theorem YN:Env Tryz.prog [qD] (pP []):=⟨⟨qG,trivial⟩,pW,pR⟩
theorem aAh:pO Tryz.prog M7:=by
 refine pY YN Tryz.func95 (c:=_) rfl (N:=4) (by kernel_rfl) (ts:=[(2,none)]) rfl (fun _ _=>rfl) ?_
 intro O hs hrow
 dsimp only[YK,YL,YM,pS,enumH,pF,pN,pU,Nat.reduceAdd] at hs hrow⊢
 obtain⟨z0,hC0⟩: ∃z,(aAf O)=z:=⟨_,rfl⟩
 try rw[hC0]
 unfold aAf at hC0
 refine oZ YN ?_
 refine oZ YN ?_
 refine p7 ?_
 cases hC0
 exact⟨[(0,0)],by rfl,by rfl,by rfl⟩
def CX (O:Int):Option Unit:=
 if 0≤O∧O<(List.length ([([110,101,119]:List UInt8),([102,117,122,122,121]:List UInt8),([116,114,97,110,115,108,97,116,101,100]:List UInt8),([114,101,118,105,101,119,101,100]:List UInt8),([111,98,115,111,108,101,116,101]:List UInt8)]:List (List UInt8)):Int) then
  some (())
 else none
section
variable (O:Int)
@[reducible] def YO:List Slot:=[(.val (.int .i64) O,none)]
@[reducible] def YP:List Blk:=[]
@[go_sem] def YQ:Ret:=⟨[((CX O)).isSome=true],[(.val .str (pG .str ([([110,101,119]:List UInt8),([102,117,122,122,121]:List UInt8),([116,114,97,110,115,108,97,116,101,100]:List UInt8),([114,101,118,105,101,119,101,100]:List UInt8),([111,98,115,111,108,101,116,101]:List UInt8)]:List (List UInt8)) O),none)],[]⟩
def aAi:List Slot→List Blk→Option Ret:=pV (V:=Int) (fun x=>YO x) (fun x=>YP) fun x=>YQ x
@[go_sem] theorem aMW:aAi (no_index (YO O)) (no_index YP)=some (YQ O):=pX (fun a0 b0 h1 h2=>by cases h1;cases h2;rfl) O
end
@[reducible,go_sem] def aAj:Nat×Sig:=(113,⟨[.v],aAi,[],[],none⟩)
theorem RA:Env Tryz.prog [qD,sR] (pP []):=⟨⟨qG,⟨sX,trivial⟩⟩,pW,pR⟩
theorem aIz:pO Tryz.prog aAj:=by
 refine pY RA Tryz.func113 (c:=_) rfl (N:=9) (by kernel_rfl) (ts:=[(2,none)]) rfl (fun _ _=>rfl) ?_
 intro O hs hrow
 dsimp only[YO,YP,YQ,pS,enumH,pF,pN,pU,Nat.reduceAdd] at hs hrow⊢
 have hz:=hs
 obtain⟨z0,hC0⟩:=Option.isSome_iff_exists.1 hz
 try rw[q8 hC0]
 clear hz hs
 unfold CX at hC0
 refine oZ RA ?_
 refine oZ RA ?_
 obtain⟨hg1,hC0⟩:=p5 hC0
 refine oZ RA ?_ (hp:=by exact hg1)
 refine p7 ?_
 cases hC0
 exact⟨[],by rfl,by rfl,by rfl⟩
attribute [irreducible] CX
end
end Go.Proofs.YtbbpilohihldiaaGreatDoor
namespace Go.Proofs.YtbbpilohihldiaaGreatDoor
open Vc
set_option maxRecDepth 100000
set_option maxHeartbeats 4000000
set_option linter.unusedSimpArgs false
set_option linter.unusedVariables false
noncomputable section
def M8 (O:(List UInt8)):Nat→Option (Nat⊕(Unit⊕Bool)):=fun Z=>
 if (decide (Z<List.length O))=true then
  if (decide (Z<List.length O))=true then
   if (((((decide ((sH O Z)<(97:Int)))||(decide ((122:Int)<(sH O Z))))&&((decide ((sH O Z)<(65:Int)))||(decide ((90:Int)<(sH O Z)))))&&((decide ((sH O Z)<(48:Int)))||(decide ((57:Int)<(sH O Z)))))&&(!decide ((sH O Z)=(45:Int))))=true then
    some (.inr (.inr (false)))
   else
    some (.inl (wP O Z))
  else none
 else
  some (.inr (.inl ()))
def CY (O:(List UInt8)):Option Bool:=
 qS (pJ (M8 O) 0) fun _=>
 some (((decide ((1:Int)≤(List.length O:Int)))&&(decide ((List.length O:Int)≤(40:Int)))))
section
variable (O:(List UInt8))
@[reducible] def YR:List Slot:=[(.val .str O,none)]
@[reducible] def YS:List Blk:=[]
@[go_sem] def YT:Ret:=⟨[((CY O)).isSome=true],[(.val .bool (val (CY O)),none)],[]⟩
def aAk:List Slot→List Blk→Option Ret:=pV (V:=(List UInt8)) (fun x=>YR x) (fun x=>YS) fun x=>YT x
@[go_sem] theorem aMX:aAk (no_index (YR O)) (no_index YS)=some (YT O):=pX (fun a0 b0 h1 h2=>by cases h1;cases h2;rfl) O
end
@[reducible,go_sem] def YU:Nat×Sig:=(106,⟨[.v],aAk,[],[],none⟩)
theorem EL:Env Tryz.prog [qD] (pP []):=⟨⟨qG,trivial⟩,pW,pR⟩
theorem aAl:pO Tryz.prog YU:=by
 refine pY EL Tryz.func106 (c:=_) rfl (N:=44) (by kernel_rfl) (ts:=[(2,none)]) rfl (fun _ _=>rfl) ?_
 intro O hs hrow
 dsimp only[YR,YS,YT,pS,enumH,pF,pN,pU,Nat.reduceAdd] at hs hrow⊢
 have hz:=hs
 obtain⟨z0,hC0⟩:=Option.isSome_iff_exists.1 hz
 try rw[q8 hC0]
 clear hz hs
 unfold CY at hC0
 refine oZ EL ?_
 refine pA ?_
 refine oZ EL ?_
 refine pZ ?_
 obtain⟨y1,hy1,hC0⟩:=t8 hC0
 refine rN 0 (fun s=> ∃v,y1= .inl v∧s=(fun _=>⟨[(0,(.val .str O,none))],[],0,44,0⟩) v) ?_ ?_
 ·refine rM hy1 (fun x=>⟨[(0,(.val .str O,none)),(6,(.val .ref (some (0,0)),none))],[(0,.iter O x)],1,44,0⟩) ⟨[0,6],[(0,64)]⟩ (by rfl) ?_
  intro Z w1 n1 hC1 hN1
  unfold M8 at hC1
  dsimp only at hC1⊢
  refine oZ EL ?_
  refine pA ?_
  refine p9 hC1 (fun hC1 hc1=> ?_) (fun hC1 hc1=> ?_)
  ·refine pE (p8 (pZ ?_))
   obtain⟨hg1,hC1⟩:=p5 hC1
   refine oZ EL ?_ (hp:=by exact hg1)
   refine oZ EL ?_ (hp:=by exact And.intro (fun hh=>hh) (And.intro (fun hh=>sD hh) (And.intro (fun hh=>hh) (And.intro (fun hh=>hh) (And.intro (fun hh=>hh) (And.intro (fun hh=>hh) (And.intro (fun hG hh=>CO hG hh) (And.intro (fun hh=>qC hh) (And.intro (fun hh=>hh) (And.intro (fun hh=>hh) (And.intro (fun hh=>hh) (And.intro (fun hh=>hh) (And.intro (fun hG hh=>CO hG hh) (And.intro (fun hh=>qC hh) (And.intro (fun hh=>hh) ((fun hh=>qC hh)))))))))))))))))
   refine p9 hC1 (fun hC1 hc2=> ?_) (fun hC1 hc2=> ?_)
   ·refine oZ EL ?_
    refine p7 (pQ (tM (tK (pQ (pH ?_)))))
    cases hC1
    cases hN1
    dsimp only at hC0
    cases hC0
    exact⟨[],by rfl,by rfl,by rfl⟩
   ·refine pE (q9 ?_)
    cases hC1
    exact qZ ⟨⟨[0,6],[(0,0)]⟩,_,by rfl,hN1⟩
  ·refine rL (rJ (rP ?_))
   cases hC1
   cases hN1
   exact rO ⟨⟨[0],[]⟩,_,rfl,by rfl⟩
 ·rintro _ ⟨v,rfl,rfl⟩
  dsimp only at hC0⊢
  refine rK (p8 ?_)
  refine oZ EL ?_ (hp:=by exact And.intro (fun hh=>hh) (And.intro (fun hh=>hh) ((fun hh=>qC hh))))
  refine p7 ?_
  cases hC0
  exact⟨[],by rfl,by rfl,by rfl⟩
attribute [irreducible] CY
def aAm (O:Int):Unit:=
 ()
section
variable (O:Int)
@[reducible] def YV:List Slot:=[(.val (.int .i64) O,none)]
@[reducible] def YW:List Blk:=[]
@[go_sem] def YX:Ret:=⟨[],[(.val .bool ((decide ((1:Int)≤O))&&(decide (O≤(4:Int)))),none)],[]⟩
def aAn:List Slot→List Blk→Option Ret:=pV (V:=Int) (fun x=>YV x) (fun x=>YW) fun x=>YX x
@[go_sem] theorem aMY:aAn (no_index (YV O)) (no_index YW)=some (YX O):=pX (fun a0 b0 h1 h2=>by cases h1;cases h2;rfl) O
end
@[reducible,go_sem] def RB:Nat×Sig:=(164,⟨[.v],aAn,[],[],none⟩)
theorem YY:Env Tryz.prog [] (pP []):=⟨trivial,pW,pR⟩
theorem YZ:pO Tryz.prog RB:=by
 refine pY YY Tryz.func164 (c:=_) rfl (N:=9) (by kernel_rfl) (ts:=[(2,none)]) rfl (fun _ _=>rfl) ?_
 intro O hs hrow
 dsimp only[YV,YW,YX,pS,enumH,pF,pN,pU,Nat.reduceAdd] at hs hrow⊢
 obtain⟨z0,hC0⟩: ∃z,(aAm O)=z:=⟨_,rfl⟩
 try rw[hC0]
 unfold aAm at hC0
 refine oZ YY ?_
 refine oZ YY ?_ (hp:=by exact And.intro (fun hh=>hh) ((fun hh=>qC hh)))
 refine p7 ?_
 cases hC0
 exact⟨[],by rfl,by rfl,by rfl⟩
end
end Go.Proofs.YtbbpilohihldiaaGreatDoor
namespace Go.Proofs.YtbbpilohihldiaaGreatDoor
open Vc
set_option maxRecDepth 100000
set_option maxHeartbeats 4000000
set_option linter.unusedSimpArgs false
set_option linter.unusedVariables false
noncomputable section
def aAo (O:Int):Unit:=
 ()
section
variable (O:Int)
@[reducible] def Z0:List Slot:=[(.val (.int .i64) O,none)]
@[reducible] def Z1:List Blk:=[]
@[go_sem] def Z2:Ret:=⟨[],[(.val .bool ((decide ((1:Int)≤O))&&(decide (O≤(4:Int)))),none)],[]⟩
def aAp:List Slot→List Blk→Option Ret:=pV (V:=Int) (fun x=>Z0 x) (fun x=>Z1) fun x=>Z2 x
@[go_sem] theorem aMZ:aAp (no_index (Z0 O)) (no_index Z1)=some (Z2 O):=pX (fun a0 b0 h1 h2=>by cases h1;cases h2;rfl) O
end
@[reducible,go_sem] def aAq:Nat×Sig:=(167,⟨[.v],aAp,[],[],none⟩)
theorem Z3:Env Tryz.prog [] (pP []):=⟨trivial,pW,pR⟩
theorem aIA:pO Tryz.prog aAq:=by
 refine pY Z3 Tryz.func167 (c:=_) rfl (N:=9) (by kernel_rfl) (ts:=[(2,none)]) rfl (fun _ _=>rfl) ?_
 intro O hs hrow
 dsimp only[Z0,Z1,Z2,pS,enumH,pF,pN,pU,Nat.reduceAdd] at hs hrow⊢
 obtain⟨z0,hC0⟩: ∃z,(aAo O)=z:=⟨_,rfl⟩
 try rw[hC0]
 unfold aAo at hC0
 refine oZ Z3 ?_
 refine oZ Z3 ?_ (hp:=by exact And.intro (fun hh=>hh) ((fun hh=>qC hh)))
 refine p7 ?_
 cases hC0
 exact⟨[],by rfl,by rfl,by rfl⟩
end
end Go.Proofs.YtbbpilohihldiaaGreatDoor
namespace Go.Proofs.YtbbpilohihldiaaGreatDoor
open Vc
set_option maxRecDepth 100000
set_option maxHeartbeats 4000000
set_option linter.unusedSimpArgs false
set_option linter.unusedVariables false
noncomputable section
def J5 (O:(List UInt8)):Nat→Option (Nat⊕(Unit⊕Bool)):=fun Z=>
 if (decide (Z<List.length O))=true then
  if (decide (Z<List.length O))=true then
   if (decide (Z<List.length O))=true then
    if ((decide ((97:Int)≤(sH O Z)))&&(decide ((sH O Z)≤(122:Int))))=true then
     some (.inl (wP O Z))
    else
     if ((decide ((0:Int)<((Z:Nat):Int)))&&(((((decide ((48:Int)≤(sH O Z)))&&(decide ((sH O Z)≤(57:Int))))||(decide ((sH O Z)=(45:Int))))||(decide ((sH O Z)=(95:Int))))||(decide ((sH O Z)=(46:Int)))))=true then
      some (.inl (wP O Z))
     else
      some (.inr (.inr (false)))
   else none
  else none
 else
  some (.inr (.inl ()))
def wX (O:(List UInt8)):Option Bool:=
 qS (pJ (J5 O) 0) fun _=>
 some (((decide ((1:Int)≤(List.length O:Int)))&&(decide ((List.length O:Int)≤(40:Int)))))
section
variable (O:(List UInt8))
@[reducible] def Z4:List Slot:=[(.val .str O,none)]
@[reducible] def Z5:List Blk:=[]
@[go_sem] def Z6:Ret:=⟨[((wX O)).isSome=true],[(.val .bool (val (wX O)),none)],[]⟩
def aAr:List Slot→List Blk→Option Ret:=pV (V:=(List UInt8)) (fun x=>Z4 x) (fun x=>Z5) fun x=>Z6 x
@[go_sem] theorem aM0:aAr (no_index (Z4 O)) (no_index Z5)=some (Z6 O):=pX (fun a0 b0 h1 h2=>by cases h1;cases h2;rfl) O
end
@[reducible,go_sem] def RH:Nat×Sig:=(162,⟨[.v],aAr,[],[],none⟩)
theorem BH:Env Tryz.prog [qD] (pP []):=⟨⟨qG,trivial⟩,pW,pR⟩
theorem Z7:pO Tryz.prog RH:=by
 refine pY BH Tryz.func162 (c:=_) rfl (N:=51) (by kernel_rfl) (ts:=[(2,none)]) rfl (fun _ _=>rfl) ?_
 intro O hs hrow
 dsimp only[Z4,Z5,Z6,pS,enumH,pF,pN,pU,Nat.reduceAdd] at hs hrow⊢
 have hz:=hs
 obtain⟨z0,hC0⟩:=Option.isSome_iff_exists.1 hz
 try rw[q8 hC0]
 clear hz hs
 unfold wX at hC0
 refine oZ BH ?_
 refine pA ?_
 refine oZ BH ?_
 refine pZ ?_
 obtain⟨y1,hy1,hC0⟩:=t8 hC0
 refine rN 0 (fun s=> ∃v,y1= .inl v∧s=(fun _=>⟨[(0,(.val .str O,none))],[],0,51,0⟩) v) ?_ ?_
 ·refine rM hy1 (fun x=>⟨[(0,(.val .str O,none)),(7,(.val .ref (some (0,0)),none))],[(0,.iter O x)],1,51,0⟩) ⟨[0,7],[(0,64)]⟩ (by rfl) ?_
  intro Z w1 n1 hC1 hN1
  unfold J5 at hC1
  dsimp only at hC1⊢
  refine oZ BH ?_
  refine pA ?_
  refine p9 hC1 (fun hC1 hc1=> ?_) (fun hC1 hc1=> ?_)
  ·refine pE (p8 (pZ ?_))
   obtain⟨hg1,hC1⟩:=p5 hC1
   obtain⟨hg2,hC1⟩:=p5 hC1
   refine oZ BH ?_ (hp:=by exact And.intro hg1 (hg2))
   refine oZ BH ?_ (hp:=by exact And.intro (fun hh=>hh) ((fun hh=>qC hh)))
   refine pZ ?_
   refine oZ BH ?_
   refine p9 hC1 (fun hC1 hc2=> ?_) (fun hC1 hc2=> ?_)
   ·refine pE (q9 (q9 ?_))
    cases hC1
    exact qZ ⟨⟨[0,7],[(0,0)]⟩,_,by rfl,hN1⟩
   ·refine oZ BH ?_ (hp:=by exact And.intro (fun hh=>hh) (And.intro (fun hh=>hh) (And.intro (fun hh=>hh) (And.intro (fun hh=>hh) (And.intro (fun hG hh=>IQ hG hh) (And.intro (fun hh=>hh) (And.intro (fun hh=>hh) (And.intro (fun hh=>hh) (And.intro (fun hG hh=>CO hG hh) (And.intro (fun hh=>hh) (And.intro (fun hh=>hh) (And.intro (fun hh=>hh) (And.intro (fun hG hh=>CO hG hh) (And.intro (fun hh=>hh) (And.intro (fun hh=>hh) (And.intro (fun hh=>hh) (And.intro (fun hG hh=>CO hG hh) ((fun hh=>qC hh)))))))))))))))))))
    refine p9 hC1 (fun hC1 hc3=> ?_) (fun hC1 hc3=> ?_)
    ·refine pE (q9 (q9 ?_))
     cases hC1
     exact qZ ⟨⟨[0,7],[(0,0)]⟩,_,by rfl,hN1⟩
    ·refine oZ BH ?_
     refine p7 (pQ (pQ (tM (tK (pQ (pH ?_))))))
     cases hC1
     cases hN1
     dsimp only at hC0
     cases hC0
     exact⟨[],by rfl,by rfl,by rfl⟩
  ·refine rL (rJ (rP ?_))
   cases hC1
   cases hN1
   exact rO ⟨⟨[0],[]⟩,_,rfl,by rfl⟩
 ·rintro _ ⟨v,rfl,rfl⟩
  dsimp only at hC0⊢
  refine rK (p8 ?_)
  refine oZ BH ?_ (hp:=by exact And.intro (fun hh=>hh) (And.intro (fun hh=>hh) ((fun hh=>qC hh))))
  refine p7 ?_
  cases hC0
  exact⟨[],by rfl,by rfl,by rfl⟩
attribute [irreducible] wX
def M9 (O:(List (List UInt8))):Int→Option (Int⊕(Unit⊕Bool)):=fun Z=>
 if (decide (Z<(List.length O:Int)))=true then
  if 0≤Z∧Z<(List.length O:Int) then
   (wX (pG .str O Z)).bind fun aA=>
   if ((((!aA)==false)&&((decide ((0:Int)<Z))==true))=true→p4 (Z- (1:Int))) then
    if ((((!aA)==false)&&((decide ((0:Int)<Z))==true))=true→0≤(Z- (1:Int))∧(Z- (1:Int))<(List.length O:Int)) then
     if ((!aA)||((decide ((0:Int)<Z))&&(!Op.bytesLess (pG .str O (Z- (1:Int))) (pG .str O Z))))=true then
      some (.inr (.inr (false)))
     else
      if p4 (Z+(1:Int)) then
       some (.inl (Z+(1:Int)))
      else none
    else none
   else none
  else none
 else
  some (.inr (.inl ()))
def CZ (O:(List (List UInt8))):Option Bool:=
 qS (pJ (M9 O) (0:Int)) fun _=>
 some ((decide ((List.length O:Int)≤(20:Int))))
section
variable (O:(List (List UInt8)))
@[reducible] def Z8:List Slot:=[(.val (.list .str) O,none)]
@[reducible] def Z9:List Blk:=[]
@[go_sem] def ZA:Ret:=⟨[((CZ O)).isSome=true],[(.val .bool (val (CZ O)),none)],[]⟩
def aAs:List Slot→List Blk→Option Ret:=pV (V:=(List (List UInt8))) (fun x=>Z8 x) (fun x=>Z9) fun x=>ZA x
@[go_sem] theorem aM1:aAs (no_index (Z8 O)) (no_index Z9)=some (ZA O):=pX (fun a0 b0 h1 h2=>by cases h1;cases h2;rfl) O
end
@[reducible,go_sem] def aAt:Nat×Sig:=(163,⟨[.v],aAs,[],[],none⟩)
theorem D0:Env Tryz.prog [qD,sR] (pP [RH]):=⟨⟨qG,⟨sX,trivial⟩⟩,pB Z7 pW,pR⟩
theorem aIB:pO Tryz.prog aAt:=by
 refine pY D0 Tryz.func163 (c:=_) rfl (N:=32) (by kernel_rfl) (ts:=[(2,none)]) rfl (fun _ _=>rfl) ?_
 intro O hs hrow
 dsimp only[Z8,Z9,ZA,pS,enumH,pF,pN,pU,Nat.reduceAdd] at hs hrow⊢
 have hz:=hs
 obtain⟨z0,hC0⟩:=Option.isSome_iff_exists.1 hz
 try rw[q8 hC0]
 clear hz hs
 unfold CZ at hC0
 refine oZ D0 ?_
 refine pA ?_
 refine oZ D0 ?_
 refine pZ ?_
 obtain⟨y1,hy1,hC0⟩:=t8 hC0
 refine rN 0 (fun s=> ∃v,y1= .inl v∧s=(fun _=>⟨[(0,(.val (.list .str) O,none))],[],0,32,0⟩) v) ?_ ?_
 ·refine rM hy1 (fun x=>⟨[(0,(.val (.list .str) O,none)),(5,(.val (.list .str) O,none)),(6,(.val (.int .i64) (List.length O:Int),none)),(7,(.val (.int .i64) x,none))],[],0,32,0⟩) ⟨[0,5,6,7],[]⟩ (by rfl) ?_
  intro Z w1 n1 hC1 hN1
  unfold M9 at hC1
  dsimp only at hC1⊢
  refine oZ D0 ?_
  refine pA ?_
  refine p9 hC1 (fun hC1 hc1=> ?_) (fun hC1 hc1=> ?_)
  ·refine pE (p8 (pA (pZ ?_)))
   obtain⟨hg1,hC1⟩:=p5 hC1
   refine oZ D0 ?_ (hp:=by exact hg1)
   obtain⟨aA,hv2,hw2,hC1⟩:=pL hC1
   try simp only[go_sem] at hw2
   obtain⟨hg3,hC1⟩:=p5 hC1
   obtain⟨hg4,hC1⟩:=p5 hC1
   refine oZ D0 ?_ (hp:=by exact And.intro (pK hv2) (And.intro (fun hh=>hh) (And.intro (fun hh=>hh) (And.intro (fun hh=>hh) (And.intro hg3 (And.intro (fun hh=>hh) (And.intro (fun hh=>hh) (And.intro hg4 (And.intro (fun hh=>hh) (And.intro (fun hh=>hh) (And.intro (fun hh=>hh) (And.intro (fun hh=>hh) (And.intro (fun hG hh=>IQ hG hh) ((fun hh=>sD hh))))))))))))))) (h:=by simp only[go_sem,hw2];rfl)
   refine p9 hC1 (fun hC1 hc2=> ?_) (fun hC1 hc2=> ?_)
   ·refine oZ D0 ?_
    refine p7 (pQ (pH (tM (tK (pQ (pH ?_))))))
    cases hC1
    cases hN1
    dsimp only at hC0
    cases hC0
    exact⟨[],by rfl,by rfl,by rfl⟩
   ·refine pE (q9 (p8 ?_))
    obtain⟨hg5,hC1⟩:=p5 hC1
    refine q7 D0 ?_ (hp:=by exact hg5)
    cases hC1
    exact qZ ⟨⟨[0,5,6,7],[]⟩,_,by rfl,hN1⟩
  ·refine rL (rJ (rP ?_))
   cases hC1
   cases hN1
   exact rO ⟨⟨[0],[]⟩,_,rfl,by rfl⟩
 ·rintro _ ⟨v,rfl,rfl⟩
  dsimp only at hC0⊢
  refine rK (p8 ?_)
  refine oZ D0 ?_
  refine p7 ?_
  cases hC0
  exact⟨[],by rfl,by rfl,by rfl⟩
attribute [irreducible] CZ
def aAu (O:Int):Unit:=
 ()
section
variable (O:Int)
@[reducible] def ZB:List Slot:=[(.val (.int .u8) O,none)]
@[reducible] def ZC:List Blk:=[]
@[go_sem] def ZD:Ret:=⟨[],[(.val .bool ((decide ((97:Int)≤O))&&(decide (O≤(122:Int)))),none)],[]⟩
def aAv:List Slot→List Blk→Option Ret:=pV (V:=Int) (fun x=>ZB x) (fun x=>ZC) fun x=>ZD x
@[go_sem] theorem aM2:aAv (no_index (ZB O)) (no_index ZC)=some (ZD O):=pX (fun a0 b0 h1 h2=>by cases h1;cases h2;rfl) O
end
@[reducible,go_sem] def ZE:Nat×Sig:=(169,⟨[.v],aAv,[],[],none⟩)
theorem ZF:Env Tryz.prog [] (pP []):=⟨trivial,pW,pR⟩
theorem aAw:pO Tryz.prog ZE:=by
 refine pY ZF Tryz.func169 (c:=_) rfl (N:=9) (by kernel_rfl) (ts:=[(2,none)]) rfl (fun _ _=>rfl) ?_
 intro O hs hrow
 dsimp only[ZB,ZC,ZD,pS,enumH,pF,pN,pU,Nat.reduceAdd] at hs hrow⊢
 obtain⟨z0,hC0⟩: ∃z,(aAu O)=z:=⟨_,rfl⟩
 try rw[hC0]
 unfold aAu at hC0
 refine oZ ZF ?_
 refine oZ ZF ?_ (hp:=by exact And.intro (fun hh=>hh) ((fun hh=>qC hh)))
 refine p7 ?_
 cases hC0
 exact⟨[],by rfl,by rfl,by rfl⟩
end
end Go.Proofs.YtbbpilohihldiaaGreatDoor
namespace Go.Proofs.YtbbpilohihldiaaGreatDoor
open Vc
set_option maxRecDepth 100000
set_option maxHeartbeats 4000000
set_option linter.unusedSimpArgs false
set_option linter.unusedVariables false
noncomputable section
def aAx (O:Int):Unit:=
 ()
section
variable (O:Int)
@[reducible] def ZG:List Slot:=[(.val (.int .u8) O,none)]
@[reducible] def ZH:List Blk:=[]
@[go_sem] def ZI:Ret:=⟨[],[(.val .bool ((decide ((48:Int)≤O))&&(decide (O≤(57:Int)))),none)],[]⟩
def aAy:List Slot→List Blk→Option Ret:=pV (V:=Int) (fun x=>ZG x) (fun x=>ZH) fun x=>ZI x
@[go_sem] theorem aM3:aAy (no_index (ZG O)) (no_index ZH)=some (ZI O):=pX (fun a0 b0 h1 h2=>by cases h1;cases h2;rfl) O
end
@[reducible,go_sem] def ZJ:Nat×Sig:=(170,⟨[.v],aAy,[],[],none⟩)
theorem ZK:Env Tryz.prog [] (pP []):=⟨trivial,pW,pR⟩
theorem aAz:pO Tryz.prog ZJ:=by
 refine pY ZK Tryz.func170 (c:=_) rfl (N:=9) (by kernel_rfl) (ts:=[(2,none)]) rfl (fun _ _=>rfl) ?_
 intro O hs hrow
 dsimp only[ZG,ZH,ZI,pS,enumH,pF,pN,pU,Nat.reduceAdd] at hs hrow⊢
 obtain⟨z0,hC0⟩: ∃z,(aAx O)=z:=⟨_,rfl⟩
 try rw[hC0]
 unfold aAx at hC0
 refine oZ ZK ?_
 refine oZ ZK ?_ (hp:=by exact And.intro (fun hh=>hh) ((fun hh=>qC hh)))
 refine p7 ?_
 cases hC0
 exact⟨[],by rfl,by rfl,by rfl⟩
def GN (O:(List UInt8)) (Z:(List UInt8)):Option Unit:=
 if (((decide ((List.length Z:Int)≤(List.length O:Int)))==true)=true→0≤(0:Int)∧(0:Int)≤(List.length Z:Int)∧(List.length Z:Int)≤(List.length O:Int)) then
  some (())
 else none
section
variable (O:(List UInt8)) (Z:(List UInt8))
@[reducible] def ZL:List Slot:=[(.val .str O,none),(.val .str Z,none)]
@[reducible] def ZM:List Blk:=[]
@[go_sem] def ZN:Ret:=⟨[((GN O Z)).isSome=true],[(.val .bool ((decide ((List.length Z:Int)≤(List.length O:Int)))&&(decide ((pC O (0:Int) (List.length Z:Int))=Z))),none)],[]⟩
def aAA:List Slot→List Blk→Option Ret:=pV (V:=((List UInt8)×(List UInt8))) (fun x=>ZL x.1 x.2) (fun x=>ZM) fun x=>ZN x.1 x.2
@[go_sem] theorem aM4:aAA (no_index (ZL O Z)) (no_index ZM)=some (ZN O Z):=pX (fun⟨a0,a1⟩ ⟨b0,b1⟩ h1 h2=>by cases h1;cases h2;rfl) (O,Z)
end
@[reducible,go_sem] def RI:Nat×Sig:=(183,⟨[.v,.v],aAA,[],[],none⟩)
theorem ZO:Env Tryz.prog [qD] (pP []):=⟨⟨qG,trivial⟩,pW,pR⟩
theorem ZP:pO Tryz.prog RI:=by
 refine pY ZO Tryz.func183 (c:=_) rfl (N:=18) (by kernel_rfl) (ts:=[(4,none)]) rfl (fun _ _=>rfl) ?_
 intro⟨O,Z⟩ hs hrow
 dsimp only[ZL,ZM,ZN,pS,enumH,pF,pN,pU,Nat.reduceAdd] at hs hrow⊢
 have hz:=hs
 obtain⟨z0,hC0⟩:=Option.isSome_iff_exists.1 hz
 try rw[q8 hC0]
 clear hz hs
 unfold GN at hC0
 refine oZ ZO ?_
 obtain⟨hg1,hC0⟩:=p5 hC0
 refine oZ ZO ?_ (hp:=by exact And.intro (fun hh=>hh) (And.intro (fun hh=>hh) (And.intro (fun hh=>hh) (And.intro hg1 (And.intro (fun hh=>hh) (And.intro (fun hh=>hh) ((fun hh=>qC hh))))))))
 refine p7 ?_
 cases hC0
 exact⟨[],by rfl,by rfl,by rfl⟩
attribute [irreducible] GN
def J6 (O:(List UInt8)) (Z:(List UInt8)):Option ((List UInt8)×Bool):=
 (GN O Z).bind fun aA=>
 if (!((decide ((List.length Z:Int)≤(List.length O:Int)))&&(decide ((pC O (0:Int) (List.length Z:Int))=Z))))=true then
  some ((O,false))
 else
  if 0≤(List.length Z:Int)∧(List.length Z:Int)≤(List.length O:Int)∧(List.length O:Int)≤(List.length O:Int) then
   some (((pC O (List.length Z:Int) (List.length O:Int)),true))
  else none
section
variable (O:(List UInt8)) (Z:(List UInt8))
@[reducible] def ZQ:List Slot:=[(.val .str O,none),(.val .str Z,none)]
@[reducible] def ZR:List Blk:=[]
@[go_sem] def ZS:Ret:=⟨[((J6 O Z)).isSome=true],[(.val .str ((val (J6 O Z)).1),none),(.val .bool ((val (J6 O Z)).2),none)],[]⟩
def aAB:List Slot→List Blk→Option Ret:=pV (V:=((List UInt8)×(List UInt8))) (fun x=>ZQ x.1 x.2) (fun x=>ZR) fun x=>ZS x.1 x.2
@[go_sem] theorem aM5:aAB (no_index (ZQ O Z)) (no_index ZR)=some (ZS O Z):=pX (fun⟨a0,a1⟩ ⟨b0,b1⟩ h1 h2=>by cases h1;cases h2;rfl) (O,Z)
end
@[reducible,go_sem] def aAC:Nat×Sig:=(184,⟨[.v,.v],aAB,[],[],none⟩)
theorem MA:Env Tryz.prog [qD] (pP [RI]):=⟨⟨qG,trivial⟩,pB ZP pW,pR⟩
theorem aIC:pO Tryz.prog aAC:=by
 refine pY MA Tryz.func184 (c:=_) rfl (N:=15) (by kernel_rfl) (ts:=[(4,none),(5,none)]) rfl (fun _ _=>rfl) ?_
 intro⟨O,Z⟩ hs hrow
 dsimp only[ZQ,ZR,ZS,pS,enumH,pF,pN,pU,Nat.reduceAdd] at hs hrow⊢
 have hz:=hs
 obtain⟨z0,hC0⟩:=Option.isSome_iff_exists.1 hz
 try rw[q8 hC0]
 clear hz hs
 unfold J6 at hC0
 refine oZ MA ?_
 refine pA ?_
 obtain⟨aA,hv1,hw1,hC0⟩:=pL hC0
 try simp only[go_sem] at hw1
 refine oZ MA ?_ (hp:=by exact(pK hv1)) (h:=by simp only[go_sem,hw1];rfl)
 refine p9 hC0 (fun hC0 hc1=> ?_) (fun hC0 hc1=> ?_)
 ·refine oZ MA ?_
  refine p7 (pH ?_)
  cases hC0
  exact⟨[],by rfl,by rfl,by rfl⟩
 ·refine pE (p8 ?_)
  obtain⟨hg2,hC0⟩:=p5 hC0
  refine oZ MA ?_ (hp:=by exact hg2)
  refine p7 ?_
  cases hC0
  exact⟨[],by rfl,by rfl,by rfl⟩
attribute [irreducible] J6
def MB (O:(List UInt8)) (Z:(List UInt8)):Option (List UInt8):=
 (GN O Z).bind fun aA=>
 if ((decide ((List.length Z:Int)≤(List.length O:Int)))&&(decide ((pC O (0:Int) (List.length Z:Int))=Z)))=true then
  if 0≤(List.length Z:Int)∧(List.length Z:Int)≤(List.length O:Int)∧(List.length O:Int)≤(List.length O:Int) then
   some ((pC O (List.length Z:Int) (List.length O:Int)))
  else none
 else
  some (O)
section
variable (O:(List UInt8)) (Z:(List UInt8))
@[reducible] def ZT:List Slot:=[(.val .str O,none),(.val .str Z,none)]
@[reducible] def ZU:List Blk:=[]
@[go_sem] def ZV:Ret:=⟨[((MB O Z)).isSome=true],[(.val .str (val (MB O Z)),none)],[]⟩
def aAD:List Slot→List Blk→Option Ret:=pV (V:=((List UInt8)×(List UInt8))) (fun x=>ZT x.1 x.2) (fun x=>ZU) fun x=>ZV x.1 x.2
@[go_sem] theorem aM6:aAD (no_index (ZT O Z)) (no_index ZU)=some (ZV O Z):=pX (fun⟨a0,a1⟩ ⟨b0,b1⟩ h1 h2=>by cases h1;cases h2;rfl) (O,Z)
end
@[reducible,go_sem] def aAE:Nat×Sig:=(185,⟨[.v,.v],aAD,[],[],none⟩)
theorem MC:Env Tryz.prog [qD] (pP [RI]):=⟨⟨qG,trivial⟩,pB ZP pW,pR⟩
theorem aID:pO Tryz.prog aAE:=by
 refine pY MC Tryz.func185 (c:=_) rfl (N:=13) (by kernel_rfl) (ts:=[(4,none)]) rfl (fun _ _=>rfl) ?_
 intro⟨O,Z⟩ hs hrow
 dsimp only[ZT,ZU,ZV,pS,enumH,pF,pN,pU,Nat.reduceAdd] at hs hrow⊢
 have hz:=hs
 obtain⟨z0,hC0⟩:=Option.isSome_iff_exists.1 hz
 try rw[q8 hC0]
 clear hz hs
 unfold MB at hC0
 refine oZ MC ?_
 refine pA ?_
 obtain⟨aA,hv1,hw1,hC0⟩:=pL hC0
 try simp only[go_sem] at hw1
 refine oZ MC ?_ (hp:=by exact(pK hv1)) (h:=by simp only[go_sem,hw1];rfl)
 refine p9 hC0 (fun hC0 hc1=> ?_) (fun hC0 hc1=> ?_)
 ·obtain⟨hg2,hC0⟩:=p5 hC0
  refine oZ MC ?_ (hp:=by exact hg2)
  refine p7 (pH ?_)
  cases hC0
  exact⟨[],by rfl,by rfl,by rfl⟩
 ·refine pE (p8 ?_)
  refine oZ MC ?_
  refine p7 ?_
  cases hC0
  exact⟨[],by rfl,by rfl,by rfl⟩
attribute [irreducible] MB
end
end Go.Proofs.YtbbpilohihldiaaGreatDoor
namespace Go.Proofs.YtbbpilohihldiaaGreatDoor
open Vc
set_option maxRecDepth 100000
set_option maxHeartbeats 4000000
set_option linter.unusedSimpArgs false
set_option linter.unusedVariables false
noncomputable section
def RJ (O:(List UInt8)) (Z:(List UInt8)):Option Unit:=
 if (((decide ((List.length Z:Int)≤(List.length O:Int)))==true)=true→p4 ((List.length O:Int)- (List.length Z:Int))) then
  if (((decide ((List.length Z:Int)≤(List.length O:Int)))==true)=true→0≤((List.length O:Int)- (List.length Z:Int))∧((List.length O:Int)- (List.length Z:Int))≤(List.length O:Int)∧(List.length O:Int)≤(List.length O:Int)) then
   some (())
  else none
 else none
section
variable (O:(List UInt8)) (Z:(List UInt8))
@[reducible] def ZW:List Slot:=[(.val .str O,none),(.val .str Z,none)]
@[reducible] def ZX:List Blk:=[]
@[go_sem] def ZY:Ret:=⟨[((RJ O Z)).isSome=true],[(.val .bool ((decide ((List.length Z:Int)≤(List.length O:Int)))&&(decide ((pC O ((List.length O:Int)- (List.length Z:Int)) (List.length O:Int))=Z))),none)],[]⟩
def aAF:List Slot→List Blk→Option Ret:=pV (V:=((List UInt8)×(List UInt8))) (fun x=>ZW x.1 x.2) (fun x=>ZX) fun x=>ZY x.1 x.2
@[go_sem] theorem aM7:aAF (no_index (ZW O Z)) (no_index ZX)=some (ZY O Z):=pX (fun⟨a0,a1⟩ ⟨b0,b1⟩ h1 h2=>by cases h1;cases h2;rfl) (O,Z)
end
@[reducible,go_sem] def aAG:Nat×Sig:=(190,⟨[.v,.v],aAF,[],[],none⟩)
theorem ZZ:Env Tryz.prog [qD] (pP []):=⟨⟨qG,trivial⟩,pW,pR⟩
theorem aIE:pO Tryz.prog aAG:=by
 refine pY ZZ Tryz.func190 (c:=_) rfl (N:=21) (by kernel_rfl) (ts:=[(4,none)]) rfl (fun _ _=>rfl) ?_
 intro⟨O,Z⟩ hs hrow
 dsimp only[ZW,ZX,ZY,pS,enumH,pF,pN,pU,Nat.reduceAdd] at hs hrow⊢
 have hz:=hs
 obtain⟨z0,hC0⟩:=Option.isSome_iff_exists.1 hz
 try rw[q8 hC0]
 clear hz hs
 unfold RJ at hC0
 refine oZ ZZ ?_
 obtain⟨hg1,hC0⟩:=p5 hC0
 obtain⟨hg2,hC0⟩:=p5 hC0
 refine oZ ZZ ?_ (hp:=by exact And.intro (fun hh=>hh) (And.intro (fun hh=>hh) (And.intro (fun hh=>hh) (And.intro (fun hh=>hh) (And.intro hg1 (And.intro (fun hh=>hh) (And.intro (fun hh=>hh) (And.intro hg2 (And.intro (fun hh=>hh) (And.intro (fun hh=>hh) ((fun hh=>qC hh))))))))))))
 refine p7 ?_
 cases hC0
 exact⟨[],by rfl,by rfl,by rfl⟩
attribute [irreducible] RJ
def MD (O:(List (List UInt8))) (Z:(List UInt8)):Int→Option (Int⊕(Unit⊕Int)):=fun aA=>
 if (decide (aA<(List.length O:Int)))=true then
  if 0≤aA∧aA<(List.length O:Int) then
   if (decide (Z=(pG .str O aA)))=true then
    some (.inr (.inr (aA)))
   else
    if p4 (aA+(1:Int)) then
     some (.inl (aA+(1:Int)))
    else none
  else none
 else
  some (.inr (.inl ()))
def y7 (O:(List (List UInt8))) (Z:(List UInt8)):Option Int:=
 qS (pJ (MD O Z) (0:Int)) fun _=>
 some ((-1:Int))
section
variable (O:(List (List UInt8))) (Z:(List UInt8))
@[reducible] def a0a:List Slot:=[(.val (.list .str) O,none),(.val .str Z,none)]
@[reducible] def a0b:List Blk:=[]
@[go_sem] def a0c:Ret:=⟨[((y7 O Z)).isSome=true],[(.val (.int .i64) (val (y7 O Z)),none)],[]⟩
def aAH:List Slot→List Blk→Option Ret:=pV (V:=((List (List UInt8))×(List UInt8))) (fun x=>a0a x.1 x.2) (fun x=>a0b) fun x=>a0c x.1 x.2
@[go_sem] theorem aM8:aAH (no_index (a0a O Z)) (no_index a0b)=some (a0c O Z):=pX (fun⟨a0,a1⟩ ⟨b0,b1⟩ h1 h2=>by cases h1;cases h2;rfl) (O,Z)
end
@[reducible,go_sem] def RK:Nat×Sig:=(193,⟨[.v,.v],aAH,[],[],none⟩)
theorem D1:Env Tryz.prog [qD,sR] (pP []):=⟨⟨qG,⟨sX,trivial⟩⟩,pW,pR⟩
theorem aAI:pO Tryz.prog RK:=by
 refine pY D1 Tryz.func193 (c:=_) rfl (N:=19) (by kernel_rfl) (ts:=[(4,none)]) rfl (fun _ _=>rfl) ?_
 intro⟨O,Z⟩ hs hrow
 dsimp only[a0a,a0b,a0c,pS,enumH,pF,pN,pU,Nat.reduceAdd] at hs hrow⊢
 have hz:=hs
 obtain⟨z0,hC0⟩:=Option.isSome_iff_exists.1 hz
 try rw[q8 hC0]
 clear hz hs
 unfold y7 at hC0
 refine oZ D1 ?_
 refine pA ?_
 refine oZ D1 ?_
 refine pZ ?_
 obtain⟨y1,hy1,hC0⟩:=t8 hC0
 refine rN 0 (fun s=> ∃v,y1= .inl v∧s=(fun _=>⟨[],[],0,19,0⟩) v) ?_ ?_
 ·refine rM hy1 (fun x=>⟨[(0,(.val (.list .str) O,none)),(1,(.val .str Z,none)),(7,(.val (.int .i64) (List.length O:Int),none)),(8,(.val (.int .i64) x,none))],[],0,19,0⟩) ⟨[0,1,7,8],[]⟩ (by rfl) ?_
  intro aA w1 n1 hC1 hN1
  unfold MD at hC1
  dsimp only at hC1⊢
  refine oZ D1 ?_
  refine pA ?_
  refine p9 hC1 (fun hC1 hc1=> ?_) (fun hC1 hc1=> ?_)
  ·refine pE (p8 (pA (pZ ?_)))
   refine oZ D1 ?_
   obtain⟨hg1,hC1⟩:=p5 hC1
   refine oZ D1 ?_ (hp:=by exact hg1)
   refine p9 hC1 (fun hC1 hc2=> ?_) (fun hC1 hc2=> ?_)
   ·refine oZ D1 ?_
    refine p7 (pQ (pH (tM (tK (pQ (pH ?_))))))
    cases hC1
    cases hN1
    dsimp only at hC0
    cases hC0
    exact⟨[],by rfl,by rfl,by rfl⟩
   ·refine pE (q9 (p8 ?_))
    obtain⟨hg2,hC1⟩:=p5 hC1
    refine q7 D1 ?_ (hp:=by exact hg2)
    cases hC1
    exact qZ ⟨⟨[0,1,7,8],[]⟩,_,by rfl,hN1⟩
  ·refine rL (rJ (rP ?_))
   cases hC1
   cases hN1
   exact rO ⟨⟨[],[]⟩,_,rfl,by rfl⟩
 ·rintro _ ⟨v,rfl,rfl⟩
  dsimp only at hC0⊢
  refine rK (p8 ?_)
  refine oZ D1 ?_
  refine p7 ?_
  cases hC0
  exact⟨[],by rfl,by rfl,by rfl⟩
attribute [irreducible] y7
def ME (O:(List UInt8)):Option Unit:=
 if List.length O≤9223372036854775807 then
  some (())
 else none
section
variable (O:(List UInt8))
@[reducible] def a0d:List Slot:=[(.val .str O,none)]
@[reducible] def a0e:List Blk:=[]
@[go_sem] def a0f:Ret:=⟨[((ME O)).isSome=true],[(.val .bool (Lib.validD O),none)],[]⟩
def aAJ:List Slot→List Blk→Option Ret:=pV (V:=(List UInt8)) (fun x=>a0d x) (fun x=>a0e) fun x=>a0f x
@[go_sem] theorem aM9:aAJ (no_index (a0d O)) (no_index a0e)=some (a0f O):=pX (fun a0 b0 h1 h2=>by cases h1;cases h2;rfl) O
end
@[reducible,go_sem] def aAK:Nat×Sig:=(198,⟨[.v],aAJ,[],[],none⟩)
theorem a0g:Env Tryz.prog [] (pP [a9Q]):=⟨trivial,pB aIn pW,pR⟩
theorem aIF:pO Tryz.prog aAK:=by
 refine pY a0g Tryz.func198 (c:=_) rfl (N:=5) (by kernel_rfl) (ts:=[(2,none)]) rfl (fun _ _=>rfl) ?_
 intro O hs hrow
 dsimp only[a0d,a0e,a0f,pS,enumH,pF,pN,pU,Nat.reduceAdd] at hs hrow⊢
 have hz:=hs
 obtain⟨z0,hC0⟩:=Option.isSome_iff_exists.1 hz
 try rw[q8 hC0]
 clear hz hs
 unfold ME at hC0
 refine oZ a0g ?_
 obtain⟨hg1,hC0⟩:=p5 hC0
 refine oZ a0g ?_ (hp:=by exact hg1)
 refine p7 ?_
 cases hC0
 exact⟨[],by rfl,by rfl,by rfl⟩
attribute [irreducible] ME
def aAL (O:Int):Unit:=
 ()
section
variable (O:Int)
@[reducible] def a0h:List Slot:=[(.val (.int .u8) O,none)]
@[reducible] def a0i:List Blk:=[]
@[go_sem] def a0j:Ret:=⟨[],[(.val .bool ((decide (O<(32:Int)))||(decide (O=(127:Int)))),none)],[]⟩
def aAM:List Slot→List Blk→Option Ret:=pV (V:=Int) (fun x=>a0h x) (fun x=>a0i) fun x=>a0j x
@[go_sem] theorem aNa:aAM (no_index (a0h O)) (no_index a0i)=some (a0j O):=pX (fun a0 b0 h1 h2=>by cases h1;cases h2;rfl) O
end
@[reducible,go_sem] def aAN:Nat×Sig:=(199,⟨[.v],aAM,[],[],none⟩)
theorem a0k:Env Tryz.prog [] (pP []):=⟨trivial,pW,pR⟩
theorem aIG:pO Tryz.prog aAN:=by
 refine pY a0k Tryz.func199 (c:=_) rfl (N:=9) (by kernel_rfl) (ts:=[(2,none)]) rfl (fun _ _=>rfl) ?_
 intro O hs hrow
 dsimp only[a0h,a0i,a0j,pS,enumH,pF,pN,pU,Nat.reduceAdd] at hs hrow⊢
 obtain⟨z0,hC0⟩: ∃z,(aAL O)=z:=⟨_,rfl⟩
 try rw[hC0]
 unfold aAL at hC0
 refine oZ a0k ?_
 refine oZ a0k ?_ (hp:=by exact And.intro (fun hh=>hh) ((fun hh=>sD hh)))
 refine p7 ?_
 cases hC0
 exact⟨[],by rfl,by rfl,by rfl⟩
def MF (O:Int) (Z:Int):Option Unit:=
 if 0≤(IntKind.wrap .i64 O)∧(IntKind.wrap .i64 O)<256∧XG (16:Int) then
  if p4 (Z- (List.length (tX (IntKind.wrap .i64 O) (16:Int)):Int)) then
   if 0≤(Z- (List.length (tX (IntKind.wrap .i64 O) (16:Int)):Int))∧(Z- (List.length (tX (IntKind.wrap .i64 O) (16:Int)):Int))≤140737488355328∧(List.length ([48]:List UInt8):Int)*(Z- (List.length (tX (IntKind.wrap .i64 O) (16:Int)):Int))≤140737488355328 then
    if (((GI ([48]:List UInt8) (Z- (List.length (tX (IntKind.wrap .i64 O) (16:Int)):Int)))++(tX (IntKind.wrap .i64 O) (16:Int))).length:Int)≤9223372036854775807 then
     some (())
    else none
   else none
  else none
 else none
section
variable (O:Int) (Z:Int)
@[reducible] def a0l:List Slot:=[(.val (.int .u8) O,none),(.val (.int .i64) Z,none)]
@[reducible] def a0m:List Blk:=[]
@[go_sem] def a0n:Ret:=⟨[((MF O Z)).isSome=true],[(.val .str ((GI ([48]:List UInt8) (Z- (List.length (tX (IntKind.wrap .i64 O) (16:Int)):Int)))++(tX (IntKind.wrap .i64 O) (16:Int))),none)],[]⟩
def aAO:List Slot→List Blk→Option Ret:=pV (V:=(Int×Int)) (fun x=>a0l x.1 x.2) (fun x=>a0m) fun x=>a0n x.1 x.2
@[go_sem] theorem aNb:aAO (no_index (a0l O Z)) (no_index a0m)=some (a0n O Z):=pX (fun⟨a0,a1⟩ ⟨b0,b1⟩ h1 h2=>by cases h1;cases h2;rfl) (O,Z)
end
@[reducible,go_sem] def aAP:Nat×Sig:=(201,⟨[.v,.v],aAO,[],[],none⟩)
theorem RL:Env Tryz.prog [XN,yX,qD] (pP [a9S,a9T]):=⟨⟨aIl,⟨AC,⟨qG,trivial⟩⟩⟩,pB aIp (pB aIq pW),pR⟩
theorem aIH:pO Tryz.prog aAP:=by
 refine pY RL Tryz.func201 (c:=_) rfl (N:=16) (by kernel_rfl) (ts:=[(4,none)]) rfl (fun _ _=>rfl) ?_
 intro⟨O,Z⟩ hs hrow
 dsimp only[a0l,a0m,a0n,pS,enumH,pF,pN,pU,Nat.reduceAdd] at hs hrow⊢
 have hz:=hs
 obtain⟨z0,hC0⟩:=Option.isSome_iff_exists.1 hz
 try rw[q8 hC0]
 clear hz hs
 unfold MF at hC0
 refine oZ RL ?_
 obtain⟨hg1,hC0⟩:=p5 hC0
 refine oZ RL ?_ (hp:=by exact hg1)
 obtain⟨hg2,hC0⟩:=p5 hC0
 obtain⟨hg3,hC0⟩:=p5 hC0
 obtain⟨hg4,hC0⟩:=p5 hC0
 refine oZ RL ?_ (hp:=by exact And.intro hg2 (And.intro hg3 (hg4)))
 refine p7 ?_
 cases hC0
 exact⟨[],by rfl,by rfl,by rfl⟩
attribute [irreducible] MF
def MG (O:Int) (Z:(List UInt8)):Int→Option (Int⊕(Unit⊕Bool)):=fun aA=>
 if (decide (aA<(List.length Z:Int)))=true then
  if 0≤aA∧aA<(List.length Z:Int) then
   if (decide ((pD Z aA)=O))=true then
    some (.inr (.inr (true)))
   else
    if p4 (aA+(1:Int)) then
     some (.inl (aA+(1:Int)))
    else none
  else none
 else
  some (.inr (.inl ()))
def y8 (O:Int) (Z:(List UInt8)):Option Bool:=
 qS (pJ (MG O Z) (0:Int)) fun _=>
 some (false)
section
variable (O:Int) (Z:(List UInt8))
@[reducible] def a0o:List Slot:=[(.val (.int .u8) O,none),(.val .str Z,none)]
@[reducible] def a0p:List Blk:=[]
@[go_sem] def a0q:Ret:=⟨[((y8 O Z)).isSome=true],[(.val .bool (val (y8 O Z)),none)],[]⟩
def aAQ:List Slot→List Blk→Option Ret:=pV (V:=(Int×(List UInt8))) (fun x=>a0o x.1 x.2) (fun x=>a0p) fun x=>a0q x.1 x.2
@[go_sem] theorem aNc:aAQ (no_index (a0o O Z)) (no_index a0p)=some (a0q O Z):=pX (fun⟨a0,a1⟩ ⟨b0,b1⟩ h1 h2=>by cases h1;cases h2;rfl) (O,Z)
end
@[reducible,go_sem] def aAR:Nat×Sig:=(203,⟨[.v,.v],aAQ,[],[],none⟩)
theorem EM:Env Tryz.prog [qD] (pP []):=⟨⟨qG,trivial⟩,pW,pR⟩
theorem aII:pO Tryz.prog aAR:=by
 refine pY EM Tryz.func203 (c:=_) rfl (N:=17) (by kernel_rfl) (ts:=[(4,none)]) rfl (fun _ _=>rfl) ?_
 intro⟨O,Z⟩ hs hrow
 dsimp only[a0o,a0p,a0q,pS,enumH,pF,pN,pU,Nat.reduceAdd] at hs hrow⊢
 have hz:=hs
 obtain⟨z0,hC0⟩:=Option.isSome_iff_exists.1 hz
 try rw[q8 hC0]
 clear hz hs
 unfold y8 at hC0
 refine oZ EM ?_
 refine pA ?_
 refine oZ EM ?_
 refine pZ ?_
 obtain⟨y1,hy1,hC0⟩:=t8 hC0
 refine rN 0 (fun s=> ∃v,y1= .inl v∧s=(fun _=>⟨[],[],0,17,0⟩) v) ?_ ?_
 ·refine rM hy1 (fun x=>⟨[(0,(.val (.int .u8) O,none)),(1,(.val .str Z,none)),(5,(.val (.int .i64) x,none))],[],0,17,0⟩) ⟨[0,1,5],[]⟩ (by rfl) ?_
  intro aA w1 n1 hC1 hN1
  unfold MG at hC1
  dsimp only at hC1⊢
  refine pA ?_
  refine oZ EM ?_
  refine p9 hC1 (fun hC1 hc1=> ?_) (fun hC1 hc1=> ?_)
  ·refine pE (p8 (pA (pZ ?_)))
   obtain⟨hg1,hC1⟩:=p5 hC1
   refine oZ EM ?_ (hp:=by exact hg1)
   refine p9 hC1 (fun hC1 hc2=> ?_) (fun hC1 hc2=> ?_)
   ·refine oZ EM ?_
    refine p7 (pQ (pH (tM (tK (pQ (pH ?_))))))
    cases hC1
    cases hN1
    dsimp only at hC0
    cases hC0
    exact⟨[],by rfl,by rfl,by rfl⟩
   ·refine pE (q9 (p8 ?_))
    obtain⟨hg2,hC1⟩:=p5 hC1
    refine q7 EM ?_ (hp:=by exact hg2)
    cases hC1
    exact qZ ⟨⟨[0,1,5],[]⟩,_,by rfl,hN1⟩
  ·refine rL (rJ (rP ?_))
   cases hC1
   cases hN1
   exact rO ⟨⟨[],[]⟩,_,rfl,by rfl⟩
 ·rintro _ ⟨v,rfl,rfl⟩
  dsimp only at hC0⊢
  refine rK (p8 ?_)
  refine oZ EM ?_
  refine p7 ?_
  cases hC0
  exact⟨[],by rfl,by rfl,by rfl⟩
attribute [irreducible] y8
def MH (O:Int):Option Unit:=
 if 0≤(IntKind.wrap .i64 (Int.tdiv O (16:Int)))∧(IntKind.wrap .i64 (Int.tdiv O (16:Int)))<(List.length ([48,49,50,51,52,53,54,55,56,57,97,98,99,100,101,102]:List UInt8):Int) then
  if 0≤(Int.tmod O (16:Int))∧(Int.tmod O (16:Int))<(List.length ([48,49,50,51,52,53,54,55,56,57,97,98,99,100,101,102]:List UInt8):Int) then
   some (())
  else none
 else none
section
variable (O:Int)
@[reducible] def a0r:List Slot:=[(.val (.int .i64) O,none)]
@[reducible] def a0s:List Blk:=[]
@[go_sem] def a0t:Ret:=⟨[((MH O)).isSome=true],[(.val .str (qR ([(pD ([48,49,50,51,52,53,54,55,56,57,97,98,99,100,101,102]:List UInt8) (IntKind.wrap .i64 (Int.tdiv O (16:Int)))),(pD ([48,49,50,51,52,53,54,55,56,57,97,98,99,100,101,102]:List UInt8) (Int.tmod O (16:Int)))]:List Int)),none)],[]⟩
def aAS:List Slot→List Blk→Option Ret:=pV (V:=Int) (fun x=>a0r x) (fun x=>a0s) fun x=>a0t x
@[go_sem] theorem aNd:aAS (no_index (a0r O)) (no_index a0s)=some (a0t O):=pX (fun a0 b0 h1 h2=>by cases h1;cases h2;rfl) O
end
@[reducible,go_sem] def aAT:Nat×Sig:=(204,⟨[.v],aAS,[],[],none⟩)
theorem a0u:Env Tryz.prog [yX,qD,yW] (pP []):=⟨⟨AC,⟨qG,⟨AA,trivial⟩⟩⟩,pW,pR⟩
theorem aIJ:pO Tryz.prog aAT:=by
 refine pY a0u Tryz.func204 (c:=_) rfl (N:=11) (by kernel_rfl) (ts:=[(2,none)]) rfl (fun _ _=>rfl) ?_
 intro O hs hrow
 dsimp only[a0r,a0s,a0t,pS,enumH,pF,pN,pU,Nat.reduceAdd] at hs hrow⊢
 have hz:=hs
 obtain⟨z0,hC0⟩:=Option.isSome_iff_exists.1 hz
 try rw[q8 hC0]
 clear hz hs
 unfold MH at hC0
 refine oZ a0u ?_
 obtain⟨hg1,hC0⟩:=p5 hC0
 obtain⟨hg2,hC0⟩:=p5 hC0
 refine sI a0u ?_ (hp:=by exact And.intro (show (16:Int)≠0 from by decide) (And.intro hg1 (And.intro (show (16:Int)≠0 from by decide) (hg2))))
 refine p7 ?_
 cases hC0
 exact⟨[],by rfl,by rfl,by rfl⟩
attribute [irreducible] MH
end
end Go.Proofs.YtbbpilohihldiaaGreatDoor
namespace Go.Proofs.YtbbpilohihldiaaGreatDoor
open Vc
set_option maxRecDepth 100000
set_option maxHeartbeats 4000000
set_option linter.unusedSimpArgs false
set_option linter.unusedVariables false
noncomputable section
def aAU (O:Int):Unit:=
 ()
section
variable (O:Int)
@[reducible] def a0v:List Slot:=[(.val (.int .i64) O,none)]
@[reducible] def a0w:List Blk:=[]
@[go_sem] def a0x:Ret:=⟨[],[(.val .bool (((decide ((0:Int)≤O))&&(decide (O≤(1114111:Int))))&&((decide (O<(55296:Int)))||(decide ((57343:Int)<O)))),none)],[]⟩
def aAV:List Slot→List Blk→Option Ret:=pV (V:=Int) (fun x=>a0v x) (fun x=>a0w) fun x=>a0x x
@[go_sem] theorem aNe:aAV (no_index (a0v O)) (no_index a0w)=some (a0x O):=pX (fun a0 b0 h1 h2=>by cases h1;cases h2;rfl) O
end
@[reducible,go_sem] def a0y:Nat×Sig:=(205,⟨[.v],aAV,[],[],none⟩)
theorem a0z:Env Tryz.prog [] (pP []):=⟨trivial,pW,pR⟩
theorem aAW:pO Tryz.prog a0y:=by
 refine pY a0z Tryz.func205 (c:=_) rfl (N:=17) (by kernel_rfl) (ts:=[(2,none)]) rfl (fun _ _=>rfl) ?_
 intro O hs hrow
 dsimp only[a0v,a0w,a0x,pS,enumH,pF,pN,pU,Nat.reduceAdd] at hs hrow⊢
 obtain⟨z0,hC0⟩: ∃z,(aAU O)=z:=⟨_,rfl⟩
 try rw[hC0]
 unfold aAU at hC0
 refine oZ a0z ?_
 refine oZ a0z ?_ (hp:=by exact And.intro (fun hh=>hh) (And.intro (fun hh=>qC hh) (And.intro (fun hh=>hh) (And.intro (fun hh=>hh) (And.intro (fun hh=>hh) (And.intro (fun hh=>hh) (And.intro (fun hG hh=>CO hG hh) ((fun hh=>qC hh)))))))))
 refine p7 ?_
 cases hC0
 exact⟨[],by rfl,by rfl,by rfl⟩
def y9 (O:Int):Option (List UInt8):=
 if (decide (O<(128:Int)))=true then
  some ((qR ([(IntKind.wrap .u8 O)]:List Int)))
 else
  if (decide (O<(2048:Int)))=true then
   if p4 ((192:Int)+(IntKind.wrap .i64 (Int.tdiv O (64:Int)))) then
    if p4 ((128:Int)+(Int.tmod O (64:Int))) then
     some ((qR ([(IntKind.wrap .u8 ((192:Int)+(IntKind.wrap .i64 (Int.tdiv O (64:Int))))),(IntKind.wrap .u8 ((128:Int)+(Int.tmod O (64:Int))))]:List Int)))
    else none
   else none
  else
   if (decide (O<(65536:Int)))=true then
    if p4 ((224:Int)+(IntKind.wrap .i64 (Int.tdiv O (4096:Int)))) then
     if p4 ((128:Int)+(Int.tmod (IntKind.wrap .i64 (Int.tdiv O (64:Int))) (64:Int))) then
      if p4 ((128:Int)+(Int.tmod O (64:Int))) then
       some ((qR ([(IntKind.wrap .u8 ((224:Int)+(IntKind.wrap .i64 (Int.tdiv O (4096:Int))))),(IntKind.wrap .u8 ((128:Int)+(Int.tmod (IntKind.wrap .i64 (Int.tdiv O (64:Int))) (64:Int)))),(IntKind.wrap .u8 ((128:Int)+(Int.tmod O (64:Int))))]:List Int)))
      else none
     else none
    else none
   else
    if p4 ((240:Int)+(IntKind.wrap .i64 (Int.tdiv O (262144:Int)))) then
     if p4 ((128:Int)+(Int.tmod (IntKind.wrap .i64 (Int.tdiv O (4096:Int))) (64:Int))) then
      if p4 ((128:Int)+(Int.tmod (IntKind.wrap .i64 (Int.tdiv O (64:Int))) (64:Int))) then
       if p4 ((128:Int)+(Int.tmod O (64:Int))) then
        some ((qR ([(IntKind.wrap .u8 ((240:Int)+(IntKind.wrap .i64 (Int.tdiv O (262144:Int))))),(IntKind.wrap .u8 ((128:Int)+(Int.tmod (IntKind.wrap .i64 (Int.tdiv O (4096:Int))) (64:Int)))),(IntKind.wrap .u8 ((128:Int)+(Int.tmod (IntKind.wrap .i64 (Int.tdiv O (64:Int))) (64:Int)))),(IntKind.wrap .u8 ((128:Int)+(Int.tmod O (64:Int))))]:List Int)))
       else none
      else none
     else none
    else none
section
variable (O:Int)
@[reducible] def a0A:List Slot:=[(.val (.int .i64) O,none)]
@[reducible] def a0B:List Blk:=[]
@[go_sem] def a0C:Ret:=⟨[((y9 O)).isSome=true],[(.val .str (val (y9 O)),none)],[]⟩
def aAX:List Slot→List Blk→Option Ret:=pV (V:=Int) (fun x=>a0A x) (fun x=>a0B) fun x=>a0C x
@[go_sem] theorem aNf:aAX (no_index (a0A O)) (no_index a0B)=some (a0C O):=pX (fun a0 b0 h1 h2=>by cases h1;cases h2;rfl) O
end
@[reducible,go_sem] def a0D:Nat×Sig:=(206,⟨[.v],aAX,[],[],none⟩)
theorem D2:Env Tryz.prog [uW,yX,qD,yW] (pP []):=⟨⟨vL,⟨AC,⟨qG,⟨AA,trivial⟩⟩⟩⟩,pW,pR⟩
theorem aAY:pO Tryz.prog a0D:=by
 refine pY D2 Tryz.func206 (c:=_) rfl (N:=61) (by kernel_rfl) (ts:=[(2,none)]) rfl (fun _ _=>rfl) ?_
 intro O hs hrow
 dsimp only[a0A,a0B,a0C,pS,enumH,pF,pN,pU,Nat.reduceAdd] at hs hrow⊢
 have hz:=hs
 obtain⟨z0,hC0⟩:=Option.isSome_iff_exists.1 hz
 try rw[q8 hC0]
 clear hz hs
 unfold y9 at hC0
 refine oZ D2 ?_
 refine pA (pZ ?_)
 refine oZ D2 ?_
 refine p9 hC0 (fun hC0 hc1=> ?_) (fun hC0 hc1=> ?_)
 ·refine oZ D2 ?_
  refine p7 (pQ (pH ?_))
  cases hC0
  exact⟨[],by rfl,by rfl,by rfl⟩
 ·refine oZ D2 ?_
  refine p9 hC0 (fun hC0 hc2=> ?_) (fun hC0 hc2=> ?_)
  ·obtain⟨hg1,hC0⟩:=p5 hC0
   obtain⟨hg2,hC0⟩:=p5 hC0
   refine oZ D2 ?_ (hp:=by exact And.intro (show (64:Int)≠0 from by decide) (And.intro hg1 (And.intro (show (64:Int)≠0 from by decide) (hg2))))
   refine p7 (pQ (pH ?_))
   cases hC0
   exact⟨[],by rfl,by rfl,by rfl⟩
  ·refine oZ D2 ?_
   refine p9 hC0 (fun hC0 hc3=> ?_) (fun hC0 hc3=> ?_)
   ·obtain⟨hg3,hC0⟩:=p5 hC0
    obtain⟨hg4,hC0⟩:=p5 hC0
    obtain⟨hg5,hC0⟩:=p5 hC0
    refine oZ D2 ?_ (hp:=by exact And.intro (show (4096:Int)≠0 from by decide) (And.intro hg3 (And.intro (show (64:Int)≠0 from by decide) (And.intro (show (64:Int)≠0 from by decide) (And.intro hg4 (And.intro (show (64:Int)≠0 from by decide) (hg5)))))))
    refine p7 (pQ (pH ?_))
    cases hC0
    exact⟨[],by rfl,by rfl,by rfl⟩
   ·refine pE (q9 (p8 ?_))
    obtain⟨hg6,hC0⟩:=p5 hC0
    obtain⟨hg7,hC0⟩:=p5 hC0
    obtain⟨hg8,hC0⟩:=p5 hC0
    obtain⟨hg9,hC0⟩:=p5 hC0
    refine oZ D2 ?_ (hp:=by exact And.intro (show (262144:Int)≠0 from by decide) (And.intro hg6 (And.intro (show (4096:Int)≠0 from by decide) (And.intro (show (64:Int)≠0 from by decide) (And.intro hg7 (And.intro (show (64:Int)≠0 from by decide) (And.intro (show (64:Int)≠0 from by decide) (And.intro hg8 (And.intro (show (64:Int)≠0 from by decide) (hg9))))))))))
    refine p7 ?_
    cases hC0
    exact⟨[],by rfl,by rfl,by rfl⟩
attribute [irreducible] y9
def AD (O:(List UInt8)) (Z:Int):(Int×Int)→Option ((Int×Int)⊕(Int⊕(Int×Int))):=fun(aA,aB)=>
 if (decide (aB<Z))=true then
  if 0≤aB∧aB<(List.length O:Int) then
   if (((decide ((pD O aB)<(128:Int)))==false)=true→0≤aB∧aB<(List.length O:Int)) then
    if ((decide ((pD O aB)<(128:Int)))||(decide ((191:Int)<(pD O aB))))=true then
     some (.inr (.inr (((65533:Int),(1:Int)))))
    else
     if p4 ((64:Int)*aA) then
      if 0≤aB∧aB<(List.length O:Int) then
       if p4 (((64:Int)*aA)+(IntKind.wrap .i64 (pD O aB))) then
        if p4 ((((64:Int)*aA)+(IntKind.wrap .i64 (pD O aB)))- (128:Int)) then
         if p4 (aB+(1:Int)) then
          some (.inl (((((64:Int)*aA)+(IntKind.wrap .i64 (pD O aB)))- (128:Int)),(aB+(1:Int))))
         else none
        else none
       else none
      else none
     else none
   else none
  else none
 else
  some (.inr (.inl aA))
def EN (O:(List UInt8)):Option (Int×Int):=
 if 0≤(0:Int)∧(0:Int)<(List.length O:Int) then
  qS (σ:=(Int×Int)) (
    if (decide ((IntKind.wrap .i64 (pD O (0:Int)))<(128:Int)))=true then
     some (.inr (((IntKind.wrap .i64 (pD O (0:Int))),(1:Int))))
    else
     if ((decide ((192:Int)≤(IntKind.wrap .i64 (pD O (0:Int)))))&&(decide ((IntKind.wrap .i64 (pD O (0:Int)))<(224:Int))))=true then
      if p4 ((IntKind.wrap .i64 (pD O (0:Int)))- (192:Int)) then
       some (.inl (((IntKind.wrap .i64 (pD O (0:Int)))- (192:Int)),(2:Int)))
      else none
     else
      if ((decide ((224:Int)≤(IntKind.wrap .i64 (pD O (0:Int)))))&&(decide ((IntKind.wrap .i64 (pD O (0:Int)))<(240:Int))))=true then
       if p4 ((IntKind.wrap .i64 (pD O (0:Int)))- (224:Int)) then
        some (.inl (((IntKind.wrap .i64 (pD O (0:Int)))- (224:Int)),(3:Int)))
       else none
      else
       if ((decide ((240:Int)≤(IntKind.wrap .i64 (pD O (0:Int)))))&&(decide ((IntKind.wrap .i64 (pD O (0:Int)))<(248:Int))))=true then
        if p4 ((IntKind.wrap .i64 (pD O (0:Int)))- (240:Int)) then
         some (.inl (((IntKind.wrap .i64 (pD O (0:Int)))- (240:Int)),(4:Int)))
        else none
       else
        some (.inr (((65533:Int),(1:Int))))
   ) fun(Z,aA)=>
  if (decide ((List.length O:Int)<aA))=true then
   some (((65533:Int),(1:Int)))
  else
   qS (pJ (AD O aA) (Z,(1:Int))) fun aB=>
   if (((!(((decide ((0:Int)≤aB))&&(decide (aB≤(1114111:Int))))&&((decide (aB<(55296:Int)))||(decide ((57343:Int)<aB)))))==false)=true→((y9 aB)).isSome=true) then
    if (((!(((decide ((0:Int)≤aB))&&(decide (aB≤(1114111:Int))))&&((decide (aB<(55296:Int)))||(decide ((57343:Int)<aB)))))==false)=true→0≤(0:Int)∧(0:Int)≤aA∧aA≤(List.length O:Int)) then
     if ((!(((decide ((0:Int)≤aB))&&(decide (aB≤(1114111:Int))))&&((decide (aB<(55296:Int)))||(decide ((57343:Int)<aB)))))||(!decide ((val (y9 aB))=(pC O (0:Int) aA))))=true then
      some (((65533:Int),(1:Int)))
     else
      some ((aB,aA))
    else none
   else none
 else none
section
variable (O:(List UInt8))
@[reducible] def a0E:List Slot:=[(.val .str O,none)]
@[reducible] def a0F:List Blk:=[]
@[go_sem] def a0G:Ret:=⟨[((EN O)).isSome=true],[(.val (.int .i64) ((val (EN O)).1),none),(.val (.int .i64) ((val (EN O)).2),none)],[]⟩
def aAZ:List Slot→List Blk→Option Ret:=pV (V:=(List UInt8)) (fun x=>a0E x) (fun x=>a0F) fun x=>a0G x
@[go_sem] theorem aNg:aAZ (no_index (a0E O)) (no_index a0F)=some (a0G O):=pX (fun a0 b0 h1 h2=>by cases h1;cases h2;rfl) O
end
@[reducible,go_sem] def aA0:Nat×Sig:=(207,⟨[.v],aAZ,[],[],none⟩)
theorem tZ:Env Tryz.prog [uW,yX,qD] (pP [a0y,a0D]):=⟨⟨vL,⟨AC,⟨qG,trivial⟩⟩⟩,pB aAW (pB aAY pW),pR⟩
theorem aIK:pO Tryz.prog aA0:=by
 refine pY tZ Tryz.func207 (c:=_) rfl (N:=81) (by kernel_rfl) (ts:=[(2,none),(3,none)]) rfl (fun _ _=>rfl) ?_
 intro O hs hrow
 dsimp only[a0E,a0F,a0G,pS,enumH,pF,pN,pU,Nat.reduceAdd] at hs hrow⊢
 have hz:=hs
 obtain⟨z0,hC0⟩:=Option.isSome_iff_exists.1 hz
 try rw[q8 hC0]
 clear hz hs
 unfold EN at hC0
 refine oZ tZ ?_
 obtain⟨hg1,hC0⟩:=p5 hC0
 refine oZ tZ ?_ (hp:=by exact hg1)
 refine pA ?_
 obtain⟨y1,hC1,hC0⟩:=t8 hC0
 refine vR (fun s=> ∃v,y1= .inl v∧s=(fun x=>⟨[(0,(.val .str O,none)),(4,(.val (.int .i64) x.1,none)),(5,(.val (.int .i64) x.2,none))],[],0,81,0⟩) v) ?_ ?_
 ·refine pZ ?_
  refine oZ tZ ?_
  refine p9 hC1 (fun hC1 hc1=> ?_) (fun hC1 hc1=> ?_)
  ·refine oZ tZ ?_
   refine p7 (pQ (a9k (pH ?_)))
   cases hC1
   dsimp only at hC0
   cases hC0
   exact⟨[],by rfl,by rfl,by rfl⟩
  ·refine oZ tZ ?_ (hp:=by exact And.intro (fun hh=>hh) ((fun hh=>qC hh)))
   refine p9 hC1 (fun hC1 hc2=> ?_) (fun hC1 hc2=> ?_)
   ·obtain⟨hg2,hC1⟩:=p5 hC1
    refine q7 tZ ?_ (hp:=by exact hg2)
    refine q9 ?_
    cases hC1
    exact r5 ⟨⟨[0,4,5],[]⟩,_,rfl,by rfl⟩
   ·refine oZ tZ ?_ (hp:=by exact And.intro (fun hh=>hh) ((fun hh=>qC hh)))
    refine p9 hC1 (fun hC1 hc3=> ?_) (fun hC1 hc3=> ?_)
    ·obtain⟨hg3,hC1⟩:=p5 hC1
     refine q7 tZ ?_ (hp:=by exact hg3)
     refine q9 ?_
     cases hC1
     exact r5 ⟨⟨[0,4,5],[]⟩,_,rfl,by rfl⟩
    ·refine oZ tZ ?_ (hp:=by exact And.intro (fun hh=>hh) ((fun hh=>qC hh)))
     refine p9 hC1 (fun hC1 hc4=> ?_) (fun hC1 hc4=> ?_)
     ·obtain⟨hg4,hC1⟩:=p5 hC1
      refine q7 tZ ?_ (hp:=by exact hg4)
      refine q9 ?_
      cases hC1
      exact r5 ⟨⟨[0,4,5],[]⟩,_,rfl,by rfl⟩
     ·refine oZ tZ ?_
      refine p7 (pQ (a9k (pH ?_)))
      cases hC1
      dsimp only at hC0
      cases hC0
      exact⟨[],by rfl,by rfl,by rfl⟩
 ·rintro _ ⟨v,rfl,rfl⟩
  obtain⟨Z,aA⟩:=v
  dsimp only at hC0⊢
  refine p8 (pA ?_)
  refine oZ tZ ?_
  refine p9 hC0 (fun hC0 hc5=> ?_) (fun hC0 hc5=> ?_)
  ·refine oZ tZ ?_
   refine p7 (pH ?_)
   cases hC0
   exact⟨[],by rfl,by rfl,by rfl⟩
  ·refine pE (p8 (pA ?_))
   refine oZ tZ ?_
   refine pZ ?_
   obtain⟨y1,hy1,hC0⟩:=t8 hC0
   refine rN 1 (fun s=> ∃v,y1= .inl v∧s=(fun x=>⟨[(0,(.val .str O,none)),(4,(.val (.int .i64) x,none)),(5,(.val (.int .i64) aA,none))],[],0,81,0⟩) v) ?_ ?_
   ·refine rM hy1 (fun x=>⟨[(0,(.val .str O,none)),(4,(.val (.int .i64) x.1,none)),(5,(.val (.int .i64) aA,none)),(6,(.val (.int .i64) x.2,none))],[],0,81,0⟩) ⟨[0,4,5,6],[]⟩ (by rfl) ?_
    intro x1 w1 n1 hC1 hN1
    obtain⟨aB,aC⟩:=x1
    unfold AD at hC1
    dsimp only at hC1⊢
    refine pA ?_
    refine oZ tZ ?_
    refine p9 hC1 (fun hC1 hc6=> ?_) (fun hC1 hc6=> ?_)
    ·refine pE (p8 (pA (pZ (pA ?_))))
     obtain⟨hg5,hC1⟩:=p5 hC1
     obtain⟨hg6,hC1⟩:=p5 hC1
     refine oZ tZ ?_ (hp:=by exact And.intro hg5 (And.intro (fun hh=>hh) (And.intro (fun hh=>hh) (And.intro hg6 (And.intro (fun hh=>hh) ((fun hh=>sD hh)))))))
     refine p9 hC1 (fun hC1 hc7=> ?_) (fun hC1 hc7=> ?_)
     ·refine oZ tZ ?_
      refine p7 (pH (pQ (pH (tM (tK (pQ (pH ?_)))))))
      cases hC1
      cases hN1
      dsimp only at hC0
      cases hC0
      exact⟨[],by rfl,by rfl,by rfl⟩
     ·refine pE (p8 ?_)
      obtain⟨hg7,hC1⟩:=p5 hC1
      obtain⟨hg8,hC1⟩:=p5 hC1
      obtain⟨hg9,hC1⟩:=p5 hC1
      obtain⟨hg10,hC1⟩:=p5 hC1
      refine q7 tZ ?_ (hp:=by exact And.intro hg7 (And.intro hg8 (And.intro hg9 (hg10))))
      refine q9 (p8 ?_)
      obtain⟨hg11,hC1⟩:=p5 hC1
      refine q7 tZ ?_ (hp:=by exact hg11)
      cases hC1
      exact qZ ⟨⟨[0,4,5,6],[]⟩,_,by rfl,hN1⟩
    ·refine rL (rJ (rP ?_))
     cases hC1
     cases hN1
     exact rO ⟨⟨[0,4,5],[]⟩,_,rfl,by rfl⟩
   ·rintro _ ⟨aD,rfl,rfl⟩
    dsimp only at hC0⊢
    refine rK (p8 (pA ?_))
    obtain⟨hg12,hC0⟩:=p5 hC0
    obtain⟨hg13,hC0⟩:=p5 hC0
    refine sI tZ ?_ (hp:=by exact And.intro (fun hh=>hh) (And.intro hg12 (And.intro (fun hh=>hh) (And.intro (fun hh=>hh) (And.intro hg13 (And.intro (fun hh=>hh) (And.intro (fun hh=>hh) ((fun hh=>sD hh)))))))))
    refine p9 hC0 (fun hC0 hc8=> ?_) (fun hC0 hc8=> ?_)
    ·refine oZ tZ ?_
     refine p7 (pH ?_)
     cases hC0
     exact⟨[],by rfl,by rfl,by rfl⟩
    ·refine pE (p8 ?_)
     refine oZ tZ ?_
     refine p7 ?_
     cases hC0
     exact⟨[],by rfl,by rfl,by rfl⟩
attribute [irreducible] EN
def GO (O:Int) (Z:Int):Bool:=
 if (decide (O=(1:Int)))=true then
  (decide (Z=(10:Int)))
 else
  qI (σ:=Bool) (
    if (decide (O=(2:Int)))=true then
     (decide (O=(2:Int)))
    else
     (decide (O=(3:Int)))
   ) fun aA=>
  if aA=true then
   ((decide (Z=(10:Int)))||(decide (Z=(34:Int))))
  else
   ((decide (Z=(60:Int)))||(decide (Z=(34:Int))))
section
variable (O:Int) (Z:Int)
@[reducible] def a0H:List Slot:=[(.val (.int .i64) O,none),(.val (.int .u8) Z,none)]
@[reducible] def a0I:List Blk:=[]
@[go_sem] def a0J:Ret:=⟨[],[(.val .bool (GO O Z),none)],[]⟩
def aA1:List Slot→List Blk→Option Ret:=pV (V:=(Int×Int)) (fun x=>a0H x.1 x.2) (fun x=>a0I) fun x=>a0J x.1 x.2
@[go_sem] theorem aNh:aA1 (no_index (a0H O Z)) (no_index a0I)=some (a0J O Z):=pX (fun⟨a0,a1⟩ ⟨b0,b1⟩ h1 h2=>by cases h1;cases h2;rfl) (O,Z)
end
@[reducible,go_sem] def aA2:Nat×Sig:=(211,⟨[.v,.v],aA1,[],[],none⟩)
theorem D3:Env Tryz.prog [] (pP []):=⟨trivial,pW,pR⟩
theorem aIL:pO Tryz.prog aA2:=by
 refine pY D3 Tryz.func211 (c:=_) rfl (N:=25) (by kernel_rfl) (ts:=[(4,none)]) rfl (fun _ _=>rfl) ?_
 intro⟨O,Z⟩ hs hrow
 dsimp only[a0H,a0I,a0J,pS,enumH,pF,pN,pU,Nat.reduceAdd] at hs hrow⊢
 obtain⟨z0,hC0⟩: ∃z,(GO O Z)=z:=⟨_,rfl⟩
 try rw[hC0]
 unfold GO at hC0
 refine oZ D3 ?_
 refine pA ?_
 refine oZ D3 ?_
 refine pZ ?_
 refine oZ D3 ?_
 refine p9 hC0 (fun hC0 hc1=> ?_) (fun hC0 hc1=> ?_)
 ·refine oZ D3 ?_
  refine p7 (pQ (pH ?_))
  cases hC0
  exact⟨[],by rfl,by rfl,by rfl⟩
 ·refine pA ?_
  refine oZ D3 ?_
  obtain⟨aA,hC1,hC0⟩:=aHt hC0
  refine vR (fun s=>s=(fun x=>⟨[(1,(.val (.int .u8) Z,none)),(10,(.val .bool x,none))],[],0,25,0⟩) aA) ?_ ?_
  ·refine p9 hC1 (fun hC1 hc2=> ?_) (fun hC1 hc2=> ?_)
   ·refine pE ?_
    cases hC1
    exact r5 ⟨⟨[1,10],[]⟩,by rfl⟩
   ·refine q7 D3 ?_
    cases hC1
    exact r5 ⟨⟨[1,10],[]⟩,by rfl⟩
  ·rintro _ rfl
   dsimp only at hC0⊢
   refine p8 ?_
   refine p9 hC0 (fun hC0 hc3=> ?_) (fun hC0 hc3=> ?_)
   ·refine oZ D3 ?_ (hp:=by exact And.intro (fun hh=>hh) ((fun hh=>sD hh)))
    refine p7 (pQ (pH ?_))
    cases hC0
    exact⟨[],by rfl,by rfl,by rfl⟩
   ·refine pE (q9 (p8 ?_))
    refine oZ D3 ?_ (hp:=by exact And.intro (fun hh=>hh) ((fun hh=>sD hh)))
    refine p7 ?_
    cases hC0
    exact⟨[],by rfl,by rfl,by rfl⟩
def GP (O:((List Int)×Unit)) (Z:Int):Option Unit:=
 if (List.length O.1+List.length ([Z]:List Int))*1≤140737488355328 then
  some (())
 else none
section
variable (O:Int) (Z:((List Int)×Unit)) (aA:Nat)
@[reducible] def a0K:List Slot:=[(.val .ref (some (0,0)),none),(.val (.int .u8) O,none)]
@[reducible] def a0L:List Blk:=[.cells rR ((some (0,0)),Z) [(1,1)],.grow 5 1 aA]
@[go_sem] def a0M:Ret:=⟨[aA=(List.length Z.1),((GP Z O)).isSome=true],[(.any,none)],[.cells rR ((some (0,0)),((Z.1++([O]:List Int)),())) [(1,1)],.grow 5 1 (List.length (Z.1++([O]:List Int)))]⟩
def aA3:List Slot→List Blk→Option Ret:=pV (V:=(Int×((List Int)×Unit)×Nat)) (fun x=>a0K x.1) (fun x=>a0L x.2.1 x.2.2) fun x=>a0M x.1 x.2.1 x.2.2
@[go_sem] theorem aNi:aA3 (no_index (a0K O)) (no_index (a0L Z aA))=some (a0M O Z aA):=pX (fun⟨a0,a1,a2⟩ ⟨b0,b1,b2⟩ h1 h2=>by cases h1;cases h2;rfl) (O,Z,aA)
end
@[reducible,go_sem] def aA4:Nat×Sig:=(212,⟨[.p rR [1],.v],aA3,[],[],none⟩)
theorem MI:Env Tryz.prog [yW,CR] (pP [R7]):=⟨⟨AA,⟨GJ,trivial⟩⟩,pB XQ pW,pR⟩
theorem aIM:pO Tryz.prog aA4:=by
 refine pY MI Tryz.func212 (c:=_) rfl (N:=17) (by kernel_rfl) (ts:=[(4,none)]) rfl (fun _ _=>rfl) ?_
 intro⟨O,Z,aA⟩ hs hrow
 dsimp only[a0K,a0L,a0M,pS,enumH,pF,pN,pU,Nat.reduceAdd] at hs hrow⊢
 obtain⟨rfl,hz⟩:=hs
 obtain⟨z0,hC0⟩:=Option.isSome_iff_exists.1 hz
 try rw[q8 hC0]
 clear hz
 unfold GP at hC0
 refine oZ MI ?_
 refine oZ MI ?_ (hp:=by exact(by first|exact rfl|exact trivial))
 obtain⟨hg1,hC0⟩:=p5 hC0
 refine oZ MI ?_ (hp:=by exact And.intro (by first|exact rfl|exact trivial) (hg1))
 refine oZ MI ?_
 refine p7 ?_
 cases hC0
 exact⟨[(0,0),(1,1)],by rfl,by rfl,by rfl⟩
attribute [irreducible] GP
end
end Go.Proofs.YtbbpilohihldiaaGreatDoor
namespace Go.Proofs.YtbbpilohihldiaaGreatDoor
open Vc
set_option maxRecDepth 100000
set_option maxHeartbeats 4000000
set_option linter.unusedSimpArgs false
set_option linter.unusedVariables false
noncomputable section
def aA5 (O:pI) (Z:(List UInt8)):Unit:=
 ()
section
variable (O:pI) (Z:(List UInt8))
@[reducible] def a0N:List Slot:=[(.val (.pair .str (.pair .str .unit)) O,none),(.val .ref (some (0,0)),none)]
@[reducible] def a0O:List Blk:=[.cells .str Z []]
@[go_sem] def a0P:Ret:=⟨[],[(.val .bool (!(Op.bytesLess O.1 Z||decide (O.1=Z))),none)],[.cells .str Z []]⟩
def aA6:List Slot→List Blk→Option Ret:=pV (V:=(pI×(List UInt8))) (fun x=>a0N x.1) (fun x=>a0O x.2) fun x=>a0P x.1 x.2
@[go_sem] theorem aNj:aA6 (no_index (a0N O)) (no_index (a0O Z))=some (a0P O Z):=pX (fun⟨a0,a1⟩ ⟨b0,b1⟩ h1 h2=>by cases h1;cases h2;rfl) (O,Z)
end
@[reducible,go_sem] def aA7:Nat×Sig:=(239,⟨[.v,.p .str []],aA6,[],[0],none⟩)
theorem a0Q:Env Tryz.prog [qD,zL] (pP []):=⟨⟨qG,⟨BF,trivial⟩⟩,pW,pR⟩
theorem aIN:pO Tryz.prog aA7:=by
 refine pY a0Q Tryz.func239 (c:=_) rfl (N:=8) (by kernel_rfl) (ts:=[(3,none)]) rfl (fun _ _=>rfl) ?_
 intro⟨O,Z⟩ hs hrow
 dsimp only[a0N,a0O,a0P,pS,enumH,pF,pN,pU,Nat.reduceAdd] at hs hrow⊢
 obtain⟨z0,hC0⟩: ∃z,(aA5 O Z)=z:=⟨_,rfl⟩
 try rw[hC0]
 unfold aA5 at hC0
 refine oZ a0Q ?_
 refine oZ a0Q ?_
 refine p7 ?_
 cases hC0
 exact⟨[(0,0)],by rfl,by rfl,by rfl⟩
def J9 (O:(List UInt8)) (Z:Int):(Int×Int)→Option ((Int×Int)⊕(Int⊕(Int×Bool))):=fun(aA,aB)=>
 if (decide (aB<(List.length O:Int)))=true then
  if 0≤aB∧aB<(List.length O:Int) then
   if 0≤aB∧aB<(List.length O:Int) then
    if (((decide ((65:Int)≤(pD O aB)))==true)=true→0≤aB∧aB<(List.length O:Int)) then
     qB (σ:=Int) (
       if ((decide ((65:Int)≤(pD O aB)))&&(decide ((pD O aB)≤(70:Int))))=true then
        if 0≤aB∧aB<(List.length O:Int) then
         if p4 ((IntKind.wrap .i64 (IntKind.wrap .u8 ((pD O aB)- (65:Int))))+(10:Int)) then
          some (((IntKind.wrap .i64 (IntKind.wrap .u8 ((pD O aB)- (65:Int))))+(10:Int)))
         else none
        else none
       else
        some ((rW ([48,49,50,51,52,53,54,55,56,57,97,98,99,100,101,102]:List UInt8) (pD O aB)))
      ) fun aC=>
     if ((decide (aC<(0:Int)))||(decide (Z≤aC)))=true then
      some (.inr (.inr (((0:Int),false))))
     else
      if p4 (aA*Z) then
       if p4 ((aA*Z)+aC) then
        if p4 (aB+(1:Int)) then
         some (.inl (((aA*Z)+aC),(aB+(1:Int))))
        else none
       else none
      else none
    else none
   else none
  else none
 else
  some (.inr (.inl aA))
def BI (O:(List UInt8)) (Z:Int):Option (Int×Bool):=
 qS (pJ (J9 O Z) ((0:Int),(0:Int))) fun aA=>
 some ((aA,(!decide (O=([]:List UInt8)))))
section
variable (O:(List UInt8)) (Z:Int)
@[reducible] def a0R:List Slot:=[(.val .str O,none),(.val (.int .i64) Z,none)]
@[reducible] def a0S:List Blk:=[]
@[go_sem] def a0T:Ret:=⟨[((BI O Z)).isSome=true],[(.val (.int .i64) ((val (BI O Z)).1),none),(.val .bool ((val (BI O Z)).2),none)],[]⟩
def aA8:List Slot→List Blk→Option Ret:=pV (V:=((List UInt8)×Int)) (fun x=>a0R x.1 x.2) (fun x=>a0S) fun x=>a0T x.1 x.2
@[go_sem] theorem aNk:aA8 (no_index (a0R O Z)) (no_index a0S)=some (a0T O Z):=pX (fun⟨a0,a1⟩ ⟨b0,b1⟩ h1 h2=>by cases h1;cases h2;rfl) (O,Z)
end
@[reducible,go_sem] def a0U:Nat×Sig:=(251,⟨[.v,.v],aA8,[],[],none⟩)
theorem yA:Env Tryz.prog [uW,yX,qD] (pP [M3]):=⟨⟨vL,⟨AC,⟨qG,trivial⟩⟩⟩,pB R6 pW,pR⟩
theorem aA9:pO Tryz.prog a0U:=by
 refine pY yA Tryz.func251 (c:=_) rfl (N:=50) (by kernel_rfl) (ts:=[(4,none),(5,none)]) rfl (fun _ _=>rfl) ?_
 intro⟨O,Z⟩ hs hrow
 dsimp only[a0R,a0S,a0T,pS,enumH,pF,pN,pU,Nat.reduceAdd] at hs hrow⊢
 have hz:=hs
 obtain⟨z0,hC0⟩:=Option.isSome_iff_exists.1 hz
 try rw[q8 hC0]
 clear hz hs
 unfold BI at hC0
 refine oZ yA ?_
 refine oZ yA ?_
 refine pA ?_
 refine oZ yA ?_
 refine pZ ?_
 obtain⟨y1,hy1,hC0⟩:=t8 hC0
 refine rN 0 (fun s=> ∃v,y1= .inl v∧s=(fun x=>⟨[(0,(.val .str O,none)),(6,(.val (.int .i64) x,none))],[],0,50,0⟩) v) ?_ ?_
 ·refine rM hy1 (fun x=>⟨[(0,(.val .str O,none)),(1,(.val (.int .i64) Z,none)),(6,(.val (.int .i64) x.1,none)),(10,(.val (.int .i64) (List.length O:Int),none)),(11,(.val (.int .i64) x.2,none))],[],0,50,0⟩) ⟨[0,1,6,10,11],[]⟩ (by rfl) ?_
  intro x1 w1 n1 hC1 hN1
  obtain⟨aA,aB⟩:=x1
  unfold J9 at hC1
  dsimp only at hC1⊢
  refine oZ yA ?_
  refine pA ?_
  refine p9 hC1 (fun hC1 hc1=> ?_) (fun hC1 hc1=> ?_)
  ·refine pE (p8 (pA (pZ ?_)))
   refine oZ yA ?_
   obtain⟨hg1,hC1⟩:=p5 hC1
   refine oZ yA ?_ (hp:=by exact hg1)
   refine pA ?_
   obtain⟨hg2,hC1⟩:=p5 hC1
   obtain⟨hg3,hC1⟩:=p5 hC1
   refine oZ yA ?_ (hp:=by exact And.intro hg2 (And.intro (fun hh=>hh) (And.intro (fun hh=>hh) (And.intro hg3 (And.intro (fun hh=>hh) ((fun hh=>qC hh)))))))
   obtain⟨aC,hC2,hC1⟩:=p6 hC1
   refine vR (fun s=>s=(fun x=>⟨[(0,(.val .str O,none)),(1,(.val (.int .i64) Z,none)),(6,(.val (.int .i64) aA,none)),(8,(.val (.int .i64) x,none)),(10,(.val (.int .i64) (List.length O:Int),none)),(11,(.val (.int .i64) aB,none))],[],0,50,0⟩) aC) ?_ ?_
   ·refine p9 hC2 (fun hC2 hc2=> ?_) (fun hC2 hc2=> ?_)
    ·obtain⟨hg4,hC2⟩:=p5 hC2
     obtain⟨hg5,hC2⟩:=p5 hC2
     refine q7 yA ?_ (hp:=by exact And.intro hg4 (hg5))
     cases hC2
     exact r5 ⟨⟨[0,1,6,8,10,11],[]⟩,by rfl⟩
    ·refine pE ?_
     cases hC2
     exact r5 ⟨⟨[0,1,6,8,10,11],[]⟩,by rfl⟩
   ·rintro _ rfl
    dsimp only at hC1⊢
    refine p8 (pA ?_)
    refine oZ yA ?_ (hp:=by exact And.intro (fun hh=>hh) (And.intro (fun hh=>hh) ((fun hh=>sD hh))))
    refine p9 hC1 (fun hC1 hc3=> ?_) (fun hC1 hc3=> ?_)
    ·refine oZ yA ?_
     refine p7 (pH (pQ (pH (tM (tK (pQ (pH ?_)))))))
     cases hC1
     cases hN1
     dsimp only at hC0
     cases hC0
     exact⟨[],by rfl,by rfl,by rfl⟩
    ·refine pE (p8 ?_)
     obtain⟨hg6,hC1⟩:=p5 hC1
     obtain⟨hg7,hC1⟩:=p5 hC1
     refine q7 yA ?_ (hp:=by exact And.intro hg6 (hg7))
     refine q9 (p8 ?_)
     obtain⟨hg8,hC1⟩:=p5 hC1
     refine q7 yA ?_ (hp:=by exact hg8)
     cases hC1
     exact qZ ⟨⟨[0,1,6,10,11],[]⟩,_,by rfl,hN1⟩
  ·refine rL (rJ (rP ?_))
   cases hC1
   cases hN1
   exact rO ⟨⟨[0,6],[]⟩,_,rfl,by rfl⟩
 ·rintro _ ⟨aD,rfl,rfl⟩
  dsimp only at hC0⊢
  refine rK (p8 ?_)
  refine oZ yA ?_
  refine p7 ?_
  cases hC0
  exact⟨[],by rfl,by rfl,by rfl⟩
attribute [irreducible] BI
def aBa (O:pI) (Z:(List UInt8)):Unit:=
 ()
section
variable (O:pI) (Z:(List UInt8))
@[reducible] def a0V:List Slot:=[(.val (.pair .str (.pair .str .unit)) O,none),(.val .ref (some (0,0)),none)]
@[reducible] def a0W:List Blk:=[.cells .str Z []]
@[go_sem] def a0X:Ret:=⟨[],[(.val .bool (decide (O.1=Z)),none)],[.cells .str Z []]⟩
def aBb:List Slot→List Blk→Option Ret:=pV (V:=(pI×(List UInt8))) (fun x=>a0V x.1) (fun x=>a0W x.2) fun x=>a0X x.1 x.2
@[go_sem] theorem aNl:aBb (no_index (a0V O)) (no_index (a0W Z))=some (a0X O Z):=pX (fun⟨a0,a1⟩ ⟨b0,b1⟩ h1 h2=>by cases h1;cases h2;rfl) (O,Z)
end
@[reducible,go_sem] def aBc:Nat×Sig:=(267,⟨[.v,.p .str []],aBb,[],[0],none⟩)
theorem a0Y:Env Tryz.prog [qD,zL] (pP []):=⟨⟨qG,⟨BF,trivial⟩⟩,pW,pR⟩
theorem aIO:pO Tryz.prog aBc:=by
 refine pY a0Y Tryz.func267 (c:=_) rfl (N:=8) (by kernel_rfl) (ts:=[(3,none)]) rfl (fun _ _=>rfl) ?_
 intro⟨O,Z⟩ hs hrow
 dsimp only[a0V,a0W,a0X,pS,enumH,pF,pN,pU,Nat.reduceAdd] at hs hrow⊢
 obtain⟨z0,hC0⟩: ∃z,(aBa O Z)=z:=⟨_,rfl⟩
 try rw[hC0]
 unfold aBa at hC0
 refine oZ a0Y ?_
 refine oZ a0Y ?_
 refine p7 ?_
 cases hC0
 exact⟨[(0,0)],by rfl,by rfl,by rfl⟩
def aBd (O:Int):Unit:=
 ()
section
variable (O:Int)
@[reducible] def a0Z:List Slot:=[(.val (.int .i64) O,none)]
@[reducible] def a00:List Blk:=[]
@[go_sem] def a01:Ret:=⟨[],[(.val .bool (((decide ((0:Int)≤O))&&(decide (O≤(1114111:Int))))&&((decide (O<(55296:Int)))||(decide ((57343:Int)<O)))),none)],[]⟩
def aBe:List Slot→List Blk→Option Ret:=pV (V:=Int) (fun x=>a0Z x) (fun x=>a00) fun x=>a01 x
@[go_sem] theorem aNm:aBe (no_index (a0Z O)) (no_index a00)=some (a01 O):=pX (fun a0 b0 h1 h2=>by cases h1;cases h2;rfl) O
end
@[reducible,go_sem] def aBf:Nat×Sig:=(289,⟨[.v],aBe,[],[],none⟩)
theorem a02:Env Tryz.prog [] (pP []):=⟨trivial,pW,pR⟩
theorem aIP:pO Tryz.prog aBf:=by
 refine pY a02 Tryz.func289 (c:=_) rfl (N:=17) (by kernel_rfl) (ts:=[(2,none)]) rfl (fun _ _=>rfl) ?_
 intro O hs hrow
 dsimp only[a0Z,a00,a01,pS,enumH,pF,pN,pU,Nat.reduceAdd] at hs hrow⊢
 obtain⟨z0,hC0⟩: ∃z,(aBd O)=z:=⟨_,rfl⟩
 try rw[hC0]
 unfold aBd at hC0
 refine oZ a02 ?_
 refine oZ a02 ?_ (hp:=by exact And.intro (fun hh=>hh) (And.intro (fun hh=>qC hh) (And.intro (fun hh=>hh) (And.intro (fun hh=>hh) (And.intro (fun hh=>hh) (And.intro (fun hh=>hh) (And.intro (fun hG hh=>CO hG hh) ((fun hh=>qC hh)))))))))
 refine p7 ?_
 cases hC0
 exact⟨[],by rfl,by rfl,by rfl⟩
def EO (O:(List pI)):Option (List pI):=
 if (0+List.length O)*32≤140737488355328 then
  some ((([]:List pI)++O))
 else none
section
variable (O:(List pI))
@[reducible] def a03:List Slot:=[(.val (.list (.pair .str (.pair .str .unit))) O,none)]
@[reducible] def a04:List Blk:=[]
@[go_sem] def a05:Ret:=⟨[((EO O)).isSome=true],[(.own 0 (List.length (val (EO O))),none)],[.row 149 (.pair .str (.pair .str .unit)) (val (EO O)) (List.length (val (EO O)))]⟩
def aBg:List Slot→List Blk→Option Ret:=pV (V:=(List pI)) (fun x=>a03 x) (fun x=>a04) fun x=>a05 x
@[go_sem] theorem aNn:aBg (no_index (a03 O)) (no_index a04)=some (a05 O):=pX (fun a0 b0 h1 h2=>by cases h1;cases h2;rfl) O
end
@[reducible,go_sem] def aBh:Nat×Sig:=(236,⟨[.v],aBg,[],[],none⟩)
theorem MJ:Env Tryz.prog [R0] (pP []):=⟨⟨a9M,trivial⟩,pW,pR⟩
theorem aIQ:pO Tryz.prog aBh:=by
 refine pY MJ Tryz.func236 (c:=_) rfl (N:=8) (by kernel_rfl) (ts:=[(2,none)]) rfl (fun _ _=>rfl) ?_
 intro O hs hrow
 dsimp only[a03,a04,a05,pS,enumH,pF,pN,pU,Nat.reduceAdd] at hs hrow⊢
 have hz:=hs
 obtain⟨z0,hC0⟩:=Option.isSome_iff_exists.1 hz
 try rw[q8 hC0]
 clear hz hs
 unfold EO at hC0
 refine oZ MJ ?_
 refine pA ?_
 refine oZ MJ ?_
 refine aHi (by simp only[go_sem];rfl) (fun hnil=> ?_) (fun hnil=> ?_)
 ·subst hnil
  obtain⟨_,hC0⟩:=p5 hC0
  refine oZ MJ ?_
  refine p7 (pH ?_)
  cases hC0
  exact⟨[(0,96)],by rfl,by rfl,by rfl⟩
 ·refine pE (p8 ?_)
  obtain⟨hg1,hC0⟩:=p5 hC0
  refine oZ MJ ?_ (hp:=by exact And.intro (by first|exact rfl|exact trivial) (hg1))
  refine p7 ?_
  cases hC0
  exact⟨[(0,96)],by rfl,by rfl,by rfl⟩
attribute [irreducible] EO
end
end Go.Proofs.YtbbpilohihldiaaGreatDoor
namespace Go.Proofs.YtbbpilohihldiaaGreatDoor
open Vc
set_option maxRecDepth 100000
set_option maxHeartbeats 4000000
set_option linter.unusedSimpArgs false
set_option linter.unusedVariables false
noncomputable section
def GQ (O:(List Int)) (Z:Int):Option (List Int):=
 if (decide ((IntKind.wrap .u32 Z)≤(2047:Int)))=true then
  if (List.length O+List.length ([(bits .or .u8 (192:Int) (IntKind.wrap .u8 (uY .i32 Z (6:Int)))),(bits .or .u8 (128:Int) (bits .and .u8 (IntKind.wrap .u8 Z) (63:Int)))]:List Int))*1≤140737488355328 then
   some ((O++([(bits .or .u8 (192:Int) (IntKind.wrap .u8 (uY .i32 Z (6:Int)))),(bits .or .u8 (128:Int) (bits .and .u8 (IntKind.wrap .u8 Z) (63:Int)))]:List Int)))
  else none
 else
  qB (σ:=Bool) (
    if (decide ((IntKind.wrap .u32 Z)<(55296:Int)))=true then
     some ((decide ((IntKind.wrap .u32 Z)<(55296:Int))))
    else
     some (((decide ((57343:Int)<(IntKind.wrap .u32 Z)))&&(decide ((IntKind.wrap .u32 Z)≤(65535:Int)))))
   ) fun aA=>
  if aA=true then
   if (List.length O+List.length ([(bits .or .u8 (224:Int) (IntKind.wrap .u8 (uY .i32 Z (12:Int)))),(bits .or .u8 (128:Int) (bits .and .u8 (IntKind.wrap .u8 (uY .i32 Z (6:Int))) (63:Int))),(bits .or .u8 (128:Int) (bits .and .u8 (IntKind.wrap .u8 Z) (63:Int)))]:List Int))*1≤140737488355328 then
    some ((O++([(bits .or .u8 (224:Int) (IntKind.wrap .u8 (uY .i32 Z (12:Int)))),(bits .or .u8 (128:Int) (bits .and .u8 (IntKind.wrap .u8 (uY .i32 Z (6:Int))) (63:Int))),(bits .or .u8 (128:Int) (bits .and .u8 (IntKind.wrap .u8 Z) (63:Int)))]:List Int)))
   else none
  else
   if ((decide ((65535:Int)<(IntKind.wrap .u32 Z)))&&(decide ((IntKind.wrap .u32 Z)≤(1114111:Int))))=true then
    if (List.length O+List.length ([(bits .or .u8 (240:Int) (IntKind.wrap .u8 (uY .i32 Z (18:Int)))),(bits .or .u8 (128:Int) (bits .and .u8 (IntKind.wrap .u8 (uY .i32 Z (12:Int))) (63:Int))),(bits .or .u8 (128:Int) (bits .and .u8 (IntKind.wrap .u8 (uY .i32 Z (6:Int))) (63:Int))),(bits .or .u8 (128:Int) (bits .and .u8 (IntKind.wrap .u8 Z) (63:Int)))]:List Int))*1≤140737488355328 then
     some ((O++([(bits .or .u8 (240:Int) (IntKind.wrap .u8 (uY .i32 Z (18:Int)))),(bits .or .u8 (128:Int) (bits .and .u8 (IntKind.wrap .u8 (uY .i32 Z (12:Int))) (63:Int))),(bits .or .u8 (128:Int) (bits .and .u8 (IntKind.wrap .u8 (uY .i32 Z (6:Int))) (63:Int))),(bits .or .u8 (128:Int) (bits .and .u8 (IntKind.wrap .u8 Z) (63:Int)))]:List Int)))
    else none
   else
    if (List.length O+List.length ([(239:Int),(191:Int),(189:Int)]:List Int))*1≤140737488355328 then
     some ((O++([(239:Int),(191:Int),(189:Int)]:List Int)))
    else none
section
variable (O:(List Int)) (Z:Int) (aA:Nat)
@[reducible] def a06:List Slot:=[(.val (.list (.int .u8)) O,some 0),(.val (.int .i32) Z,none)]
@[reducible] def a07:List Blk:=[.grow 5 1 aA]
@[go_sem] def a08:Ret:=⟨[aA=(List.length O),((GQ O Z)).isSome=true],[(.val (.list (.int .u8)) (val (GQ O Z)),some 0)],[.grow 5 1 (List.length (val (GQ O Z)))]⟩
def aBi:List Slot→List Blk→Option Ret:=pV (V:=((List Int)×Int×Nat)) (fun x=>a06 x.1 x.2.1) (fun x=>a07 x.2.2) fun x=>a08 x.1 x.2.1 x.2.2
@[go_sem] theorem aNo:aBi (no_index (a06 O Z)) (no_index (a07 aA))=some (a08 O Z aA):=pX (fun⟨a0,a1,a2⟩ ⟨b0,b1,b2⟩ h1 h2=>by cases h1;cases h2;rfl) (O,Z,aA)
end
@[reducible,go_sem] def aBj:Nat×Sig:=(300,⟨[.own,.v],aBi,[],[],none⟩)
theorem AE:Env Tryz.prog [yX,M1,yW,R1] (pP []):=⟨⟨AC,⟨XM,⟨AA,⟨a9N,trivial⟩⟩⟩⟩,pW,pR⟩
theorem aIR:pO Tryz.prog aBj:=by
 refine pY AE Tryz.func300 (c:=_) rfl (N:=78) (by kernel_rfl) (ts:=[(4,none)]) rfl (fun _ _=>rfl) ?_
 intro⟨O,Z,aA⟩ hs hrow
 dsimp only[a06,a07,a08,pS,enumH,pF,pN,pU,Nat.reduceAdd] at hs hrow⊢
 obtain⟨rfl,hz⟩:=hs
 obtain⟨z0,hC0⟩:=Option.isSome_iff_exists.1 hz
 try rw[q8 hC0]
 clear hz
 unfold GQ at hC0
 refine oZ AE ?_
 refine oZ AE ?_
 refine pZ ?_
 refine oZ AE ?_
 refine p9 hC0 (fun hC0 hc1=> ?_) (fun hC0 hc1=> ?_)
 ·obtain⟨hg1,hC0⟩:=p5 hC0
  refine oZ AE ?_ (hp:=by exact And.intro (show (0:Int)≤(6:Int) from by decide) (And.intro (by first|exact rfl|exact trivial) (hg1)))
  refine p7 (pQ ?_)
  cases hC0
  exact⟨[(0,0)],by rfl,by rfl,by rfl⟩
 ·refine pA ?_
  refine oZ AE ?_
  obtain⟨aB,hC1,hC0⟩:=p6 hC0
  refine vR (fun s=>s=(fun x=>⟨[(0,(.val (.list (.int .u8)) O,some 0)),(1,(.val (.int .i32) Z,none)),(5,(.val (.int .u32) (IntKind.wrap .u32 Z),none)),(25,(.val .bool x,none))],[(0,.grow 5 1 (List.length O))],1,78,1⟩) aB) ?_ ?_
  ·refine p9 hC1 (fun hC1 hc2=> ?_) (fun hC1 hc2=> ?_)
   ·refine pE ?_
    cases hC1
    exact r5 ⟨⟨[0,1,5,25],[(0,0)]⟩,by rfl⟩
   ·refine q7 AE ?_ (hp:=by exact And.intro (fun hh=>hh) ((fun hh=>qC hh)))
    cases hC1
    exact r5 ⟨⟨[0,1,5,25],[(0,0)]⟩,by rfl⟩
  ·rintro _ rfl
   dsimp only at hC0⊢
   refine p8 ?_
   refine p9 hC0 (fun hC0 hc3=> ?_) (fun hC0 hc3=> ?_)
   ·obtain⟨hg2,hC0⟩:=p5 hC0
    refine oZ AE ?_ (hp:=by exact And.intro (show (0:Int)≤(12:Int) from by decide) (And.intro (show (0:Int)≤(6:Int) from by decide) (And.intro (by first|exact rfl|exact trivial) (hg2))))
    refine p7 (pQ ?_)
    cases hC0
    exact⟨[(0,0)],by rfl,by rfl,by rfl⟩
   ·refine oZ AE ?_ (hp:=by exact And.intro (fun hh=>hh) ((fun hh=>qC hh)))
    refine p9 hC0 (fun hC0 hc4=> ?_) (fun hC0 hc4=> ?_)
    ·obtain⟨hg3,hC0⟩:=p5 hC0
     refine oZ AE ?_ (hp:=by exact And.intro (show (0:Int)≤(18:Int) from by decide) (And.intro (show (0:Int)≤(12:Int) from by decide) (And.intro (show (0:Int)≤(6:Int) from by decide) (And.intro (by first|exact rfl|exact trivial) (hg3)))))
     refine p7 (pQ ?_)
     cases hC0
     exact⟨[(0,0)],by rfl,by rfl,by rfl⟩
    ·obtain⟨hg4,hC0⟩:=p5 hC0
     refine oZ AE ?_ (hp:=by exact And.intro (by first|exact rfl|exact trivial) (hg4))
     refine p7 (pQ ?_)
     cases hC0
     exact⟨[(0,0)],by rfl,by rfl,by rfl⟩
attribute [irreducible] GQ
def MK (O:(List pI)) (Z:(List UInt8)):Int→Option (Int⊕(Unit⊕Int)):=fun aA=>
 if (decide (aA<(List.length O:Int)))=true then
  if 0≤aA∧aA<(List.length O:Int) then
   if (decide (((pG (.pair .str (.pair .str .unit)) O aA).1)=Z))=true then
    some (.inr (.inr (aA)))
   else
    if p4 (aA+(1:Int)) then
     some (.inl (aA+(1:Int)))
    else none
  else none
 else
  some (.inr (.inl ()))
def JA (O:(List pI)) (Z:(List UInt8)):Option Int:=
 qS (pJ (MK O Z) (0:Int)) fun _=>
 some ((-1:Int))
section
variable (O:(List pI)) (Z:(List UInt8))
@[reducible] def a09:List Slot:=[(.val (.list (.pair .str (.pair .str .unit))) O,none),(.val .clo (some (267,[(0,0)])),none)]
@[reducible] def a1a:List Blk:=[.cells .str Z []]
@[go_sem] def a1b:Ret:=⟨[((JA O Z)).isSome=true],[(.val (.int .i64) (val (JA O Z)),none)],[.cells .str Z []]⟩
def aBk:List Slot→List Blk→Option Ret:=pV (V:=((List pI)×(List UInt8))) (fun x=>a09 x.1) (fun x=>a1a x.2) fun x=>a1b x.1 x.2
@[go_sem] theorem aNp:aBk (no_index (a09 O)) (no_index (a1a Z))=some (a1b O Z):=pX (fun⟨a0,a1⟩ ⟨b0,b1⟩ h1 h2=>by cases h1;cases h2;rfl) (O,Z)
end
@[reducible,go_sem] def aBl:Nat×Sig:=(238,⟨[.v,.f [(.str,[])]],aBk,[],[0],none⟩)
theorem D4:Env Tryz.prog [uV,zL] (pP [aBc]):=⟨⟨vK,⟨BF,trivial⟩⟩,pB aIO pW,pR⟩
theorem aIS:pO Tryz.prog aBl:=by
 refine pY D4 Tryz.func238 (c:=_) rfl (N:=19) (by kernel_rfl) (ts:=[(4,none)]) rfl (fun _ _=>rfl) ?_
 intro⟨O,Z⟩ hs hrow
 dsimp only[a09,a1a,a1b,pS,enumH,pF,pN,pU,Nat.reduceAdd] at hs hrow⊢
 have hz:=hs
 obtain⟨z0,hC0⟩:=Option.isSome_iff_exists.1 hz
 try rw[q8 hC0]
 clear hz hs
 unfold JA at hC0
 refine oZ D4 ?_
 refine pA ?_
 refine oZ D4 ?_
 refine pZ ?_
 obtain⟨y1,hy1,hC0⟩:=t8 hC0
 refine rN 0 (fun s=> ∃v,y1= .inl v∧s=(fun _=>⟨[],[(0,.cells .str Z [])],1,19,1⟩) v) ?_ ?_
 ·refine rM hy1 (fun x=>⟨[(0,(.val (.list (.pair .str (.pair .str .unit))) O,none)),(1,(.val .clo (some (267,[(0,0)])),none)),(7,(.val (.int .i64) (List.length O:Int),none)),(8,(.val (.int .i64) x,none))],[(0,.cells .str Z [])],1,19,1⟩) ⟨[0,1,7,8],[(0,0)]⟩ (by rfl) ?_
  intro aA w1 n1 hC1 hN1
  unfold MK at hC1
  dsimp only at hC1⊢
  refine oZ D4 ?_
  refine pA ?_
  refine p9 hC1 (fun hC1 hc1=> ?_) (fun hC1 hc1=> ?_)
  ·refine pE (p8 (pA (pZ ?_)))
   refine oZ D4 ?_
   obtain⟨hg1,hC1⟩:=p5 hC1
   refine oZ D4 ?_ (hp:=by exact And.intro hg1 ((by first|exact rfl|exact trivial)))
   refine p9 hC1 (fun hC1 hc2=> ?_) (fun hC1 hc2=> ?_)
   ·refine oZ D4 ?_
    refine p7 (pQ (pH (tM (tK (pQ (pH ?_))))))
    cases hC1
    cases hN1
    dsimp only at hC0
    cases hC0
    exact⟨[(0,0)],by rfl,by rfl,by rfl⟩
   ·refine pE (q9 (p8 ?_))
    obtain⟨hg2,hC1⟩:=p5 hC1
    refine q7 D4 ?_ (hp:=by exact hg2)
    cases hC1
    exact qZ ⟨⟨[0,1,7,8],[(0,0)]⟩,_,by rfl,hN1⟩
  ·refine rL (rJ (rP ?_))
   cases hC1
   cases hN1
   exact rO ⟨⟨[],[(0,0)]⟩,_,rfl,by rfl⟩
 ·rintro _ ⟨v,rfl,rfl⟩
  dsimp only at hC0⊢
  refine rK (p8 ?_)
  refine oZ D4 ?_
  refine p7 ?_
  cases hC0
  exact⟨[(0,0)],by rfl,by rfl,by rfl⟩
attribute [irreducible] JA
def ML (O:(List pI)) (Z:(List UInt8)):Int→Option (Int⊕(Unit⊕Int)):=fun aA=>
 if (decide (aA<(List.length O:Int)))=true then
  if 0≤aA∧aA<(List.length O:Int) then
   if (!(Op.bytesLess ((pG (.pair .str (.pair .str .unit)) O aA).1) Z||decide (((pG (.pair .str (.pair .str .unit)) O aA).1)=Z)))=true then
    some (.inr (.inr (aA)))
   else
    if p4 (aA+(1:Int)) then
     some (.inl (aA+(1:Int)))
    else none
  else none
 else
  some (.inr (.inl ()))
def JB (O:(List pI)) (Z:(List UInt8)):Option Int:=
 qS (pJ (ML O Z) (0:Int)) fun _=>
 some ((-1:Int))
section
variable (O:(List pI)) (Z:(List UInt8))
@[reducible] def a1c:List Slot:=[(.val (.list (.pair .str (.pair .str .unit))) O,none),(.val .clo (some (239,[(0,0)])),none)]
@[reducible] def a1d:List Blk:=[.cells .str Z []]
@[go_sem] def a1e:Ret:=⟨[((JB O Z)).isSome=true],[(.val (.int .i64) (val (JB O Z)),none)],[.cells .str Z []]⟩
def aBm:List Slot→List Blk→Option Ret:=pV (V:=((List pI)×(List UInt8))) (fun x=>a1c x.1) (fun x=>a1d x.2) fun x=>a1e x.1 x.2
@[go_sem] theorem aNq:aBm (no_index (a1c O)) (no_index (a1d Z))=some (a1e O Z):=pX (fun⟨a0,a1⟩ ⟨b0,b1⟩ h1 h2=>by cases h1;cases h2;rfl) (O,Z)
end
@[reducible,go_sem] def aBn:Nat×Sig:=(238,⟨[.v,.f [(.str,[])]],aBm,[],[0],none⟩)
theorem D5:Env Tryz.prog [uV,zL] (pP [aA7]):=⟨⟨vK,⟨BF,trivial⟩⟩,pB aIN pW,pR⟩
theorem aIT:pO Tryz.prog aBn:=by
 refine pY D5 Tryz.func238 (c:=_) rfl (N:=19) (by kernel_rfl) (ts:=[(4,none)]) rfl (fun _ _=>rfl) ?_
 intro⟨O,Z⟩ hs hrow
 dsimp only[a1c,a1d,a1e,pS,enumH,pF,pN,pU,Nat.reduceAdd] at hs hrow⊢
 have hz:=hs
 obtain⟨z0,hC0⟩:=Option.isSome_iff_exists.1 hz
 try rw[q8 hC0]
 clear hz hs
 unfold JB at hC0
 refine oZ D5 ?_
 refine pA ?_
 refine oZ D5 ?_
 refine pZ ?_
 obtain⟨y1,hy1,hC0⟩:=t8 hC0
 refine rN 0 (fun s=> ∃v,y1= .inl v∧s=(fun _=>⟨[],[(0,.cells .str Z [])],1,19,1⟩) v) ?_ ?_
 ·refine rM hy1 (fun x=>⟨[(0,(.val (.list (.pair .str (.pair .str .unit))) O,none)),(1,(.val .clo (some (239,[(0,0)])),none)),(7,(.val (.int .i64) (List.length O:Int),none)),(8,(.val (.int .i64) x,none))],[(0,.cells .str Z [])],1,19,1⟩) ⟨[0,1,7,8],[(0,0)]⟩ (by rfl) ?_
  intro aA w1 n1 hC1 hN1
  unfold ML at hC1
  dsimp only at hC1⊢
  refine oZ D5 ?_
  refine pA ?_
  refine p9 hC1 (fun hC1 hc1=> ?_) (fun hC1 hc1=> ?_)
  ·refine pE (p8 (pA (pZ ?_)))
   refine oZ D5 ?_
   obtain⟨hg1,hC1⟩:=p5 hC1
   refine oZ D5 ?_ (hp:=by exact And.intro hg1 ((by first|exact rfl|exact trivial)))
   refine p9 hC1 (fun hC1 hc2=> ?_) (fun hC1 hc2=> ?_)
   ·refine oZ D5 ?_
    refine p7 (pQ (pH (tM (tK (pQ (pH ?_))))))
    cases hC1
    cases hN1
    dsimp only at hC0
    cases hC0
    exact⟨[(0,0)],by rfl,by rfl,by rfl⟩
   ·refine pE (q9 (p8 ?_))
    obtain⟨hg2,hC1⟩:=p5 hC1
    refine q7 D5 ?_ (hp:=by exact hg2)
    cases hC1
    exact qZ ⟨⟨[0,1,7,8],[(0,0)]⟩,_,by rfl,hN1⟩
  ·refine rL (rJ (rP ?_))
   cases hC1
   cases hN1
   exact rO ⟨⟨[],[(0,0)]⟩,_,rfl,by rfl⟩
 ·rintro _ ⟨v,rfl,rfl⟩
  dsimp only at hC0⊢
  refine rK (p8 ?_)
  refine oZ D5 ?_
  refine p7 ?_
  cases hC0
  exact⟨[(0,0)],by rfl,by rfl,by rfl⟩
attribute [irreducible] JB
end
end Go.Proofs.YtbbpilohihldiaaGreatDoor
namespace Go.Proofs.YtbbpilohihldiaaGreatDoor
open Vc
set_option maxRecDepth 100000
set_option maxHeartbeats 4000000
set_option linter.unusedSimpArgs false
set_option linter.unusedVariables false
noncomputable section
def aBo:Unit:=
 ()
section
@[reducible] def a1g:List Slot:=[]
@[reducible] def a1h:List Blk:=[]
@[go_sem] def a1i:Ret:=⟨[],[(.val (.list .str) ([([110,101,119]:List UInt8),([102,117,122,122,121]:List UInt8),([116,114,97,110,115,108,97,116,101,100]:List UInt8),([114,101,118,105,101,119,101,100]:List UInt8),([111,98,115,111,108,101,116,101]:List UInt8)]:List (List UInt8)),none)],[]⟩
def aBp:List Slot→List Blk→Option Ret:=pV (V:=Unit) (fun x=>a1g) (fun x=>a1h) fun x=>a1i
@[go_sem] theorem aNr:aBp (no_index a1g) (no_index a1h)=some a1i:=pX (fun _ _ h1 h2=>by cases h1;cases h2;rfl) ()
end
@[reducible,go_sem] def MM:Nat×Sig:=(117,⟨[],aBp,[],[],none⟩)
theorem a1j:Env Tryz.prog [sR] (pP []):=⟨⟨sX,trivial⟩,pW,pR⟩
theorem a1k:pO Tryz.prog MM:=by
 refine pY a1j Tryz.func117 (c:=_) rfl (N:=2) (by kernel_rfl) (ts:=[(0,none)]) rfl (fun _ _=>rfl) ?_
 intro⟨⟩ hs hrow
 dsimp only[a1g,a1h,a1i,pS,enumH,pF,pN,pU,Nat.reduceAdd] at hs hrow⊢
 obtain⟨z0,hC0⟩: ∃z,aBo=z:=⟨_,rfl⟩
 try rw[hC0]
 unfold aBo at hC0
 refine oZ a1j ?_
 refine oZ a1j ?_
 refine p7 ?_
 cases hC0
 exact⟨[],by rfl,by rfl,by rfl⟩
def RR:(Int×List UInt8)→(List Int)→Option ((List Int)⊕(List UInt8)):=fun O Z=>
 (vU (Z,()) O.2).bind fun aA=>
 some (.inl (Z++qJ O.2))
def GR (O:s0):Option (List UInt8):=
 if List.length O.2.1≤4611686018427387904 then
  qS (yT (RR) (yU O) ([]:List Int)) fun Z=>
  some ((qR Z))
 else none
section
variable (O:s0)
@[reducible] def a1l:List Slot:=[(.val tY O,none)]
@[reducible] def a1m:List Blk:=[]
@[go_sem] def a1n:Ret:=⟨[((GR O)).isSome=true],[(.val .str (val (GR O)),none)],[]⟩
def aBq:List Slot→List Blk→Option Ret:=pV (V:=s0) (fun x=>a1l x) (fun x=>a1m) fun x=>a1n x
@[go_sem] theorem aNs:aBq (no_index (a1l O)) (no_index a1m)=some (a1n O):=pX (fun a0 b0 h1 h2=>by cases h1;cases h2;rfl) O
end
@[reducible,go_sem] def aBr:Nat×Sig:=(25,⟨[.v],aBq,[],[],none⟩)
theorem GS:Env Tryz.prog [EB,CR] (pP [a97,EI,GL]):=⟨⟨IT,⟨GJ,trivial⟩⟩,pB aIx (pB GM (pB J1 pW)),pR⟩
theorem aIU:pO Tryz.prog aBr:=by
 refine pY GS Tryz.func25 (c:=_) rfl (N:=13) (by kernel_rfl) (ts:=[(2,none)]) rfl (fun _ _=>rfl) ?_
 intro O hs hrow
 dsimp only[a1l,a1m,a1n,pS,enumH,pF,pN,pU,Nat.reduceAdd] at hs hrow⊢
 have hz:=hs
 obtain⟨z0,hC0⟩:=Option.isSome_iff_exists.1 hz
 try rw[q8 hC0]
 clear hz hs
 unfold GR at hC0
 refine oZ GS ?_
 refine oZ GS ?_
 refine pA ?_
 refine oZ GS ?_
 refine pZ ?_
 obtain⟨hgF2,hC0⟩:=p5 hC0
 obtain⟨y1,hy1,hC0⟩:=t8 hC0
 refine X9 aH8 XC (by rfl) (by rfl) hgF2 hy1 [(3,(.val .ref (some (0,0)),none))] (fun Z=>[(3,(.val .ref (some (0,0)),none)),(5,(.val .str Z.2,none))]) (fun x=>[.cells rR ((some (0,0)),(x,())) [(1,1)],.grow 5 1 (List.length x)]) 1 ⟨[3],[(0,64),(1,65)]⟩ (by rfl) (by rfl) (by rfl) (by rfl) (Nat.le_of_ble_eq_true (by rfl)) (fun _=>Nat.le_of_ble_eq_true rfl) (fun _=>by rfl) (fun _=>rfl) (by rfl) ?_ ?_
 ·intro Z aA w1 hC1 hN1
  refine⟨?_,?_⟩
  ·dsimp only[GF,QY,rH,enumH,pF,Nat.reduceAdd,List.toList_toArray]
   refine q7 GS ?_
   exact XA ⟨[3,5],[(0,0),(1,1)]⟩ (by rfl)
  ·unfold RR at hC1
   dsimp only[enumH,pF,Nat.reduceAdd] at hC1⊢
   refine pZ ?_
   obtain⟨aB,hv1,hw1,hC1⟩:=pL hC1
   try simp only[go_sem] at hw1
   refine q7 GS ?_ (hp:=by exact And.intro (by first|exact rfl|exact trivial) ((pK hv1))) (h:=by simp only[go_sem,hw1];rfl)
   refine q9 ?_
   cases hC1
   exact XB ⟨[],[(0,0),(1,1)]⟩ _ rfl (by rfl)
 ·rintro aA rfl
  dsimp only[enumH,pF,Nat.reduceAdd] at hC0⊢
  refine q9 (p8 ?_)
  refine oZ GS ?_ (hp:=by exact(by first|exact rfl|exact trivial))
  refine p7 ?_
  cases hC0
  exact⟨[],by rfl,by rfl,by rfl⟩
attribute [irreducible] GR
def JC (O:qH):Option Unit:=
 if p4 ((List.length O.1:Int)+(List.length O.2.1:Int)) then
  if p4 (((List.length O.1:Int)+(List.length O.2.1:Int))+(List.length O.2.2.1:Int)) then
   if (((decide ((((List.length O.1:Int)+(List.length O.2.1:Int))+(List.length O.2.2.1:Int))≤(6000:Int)))==true)=true→((vV O.2.2.2.1 O.2.2.2.2.2.2.1)).isSome=true) then
    if (((decide ((((List.length O.1:Int)+(List.length O.2.1:Int))+(List.length O.2.2.1:Int))≤(6000:Int)))==true)=true→((vV O.2.2.2.2.1 ([]:List pI))).isSome=true) then
     if (((decide ((((List.length O.1:Int)+(List.length O.2.1:Int))+(List.length O.2.2.1:Int))≤(6000:Int)))==true)=true→p4 ((val (vV O.2.2.2.1 O.2.2.2.2.2.2.1))+(val (vV O.2.2.2.2.1 ([]:List pI))))) then
      some (())
     else none
    else none
   else none
  else none
 else none
section
variable (O:qH)
@[reducible] def a1o:List Slot:=[(.val qT O,none)]
@[reducible] def a1p:List Blk:=[]
@[go_sem] def a1q:Ret:=⟨[((JC O)).isSome=true],[(.val .bool ((decide ((((List.length O.1:Int)+(List.length O.2.1:Int))+(List.length O.2.2.1:Int))≤(6000:Int)))&&(decide (((val (vV O.2.2.2.1 O.2.2.2.2.2.2.1))+(val (vV O.2.2.2.2.1 ([]:List pI))))≤(6000:Int)))),none)],[]⟩
def aBs:List Slot→List Blk→Option Ret:=pV (V:=qH) (fun x=>a1o x) (fun x=>a1p) fun x=>a1q x
@[go_sem] theorem aNt:aBs (no_index (a1o O)) (no_index a1p)=some (a1q O):=pX (fun a0 b0 h1 h2=>by cases h1;cases h2;rfl) O
end
@[reducible,go_sem] def aBt:Nat×Sig:=(35,⟨[.v],aBs,[],[],none⟩)
theorem a1r:Env Tryz.prog [qD,sR,uV,xJ] (pP [YA]):=⟨⟨qG,⟨sX,⟨vK,⟨yV,trivial⟩⟩⟩⟩,pB aAa pW,pR⟩
theorem aIV:pO Tryz.prog aBt:=by
 refine pY a1r Tryz.func35 (c:=_) rfl (N:=27) (by kernel_rfl) (ts:=[(2,none)]) rfl (fun _ _=>rfl) ?_
 intro O hs hrow
 dsimp only[a1o,a1p,a1q,pS,enumH,pF,pN,pU,Nat.reduceAdd] at hs hrow⊢
 have hz:=hs
 obtain⟨z0,hC0⟩:=Option.isSome_iff_exists.1 hz
 try rw[q8 hC0]
 clear hz hs
 unfold JC at hC0
 refine oZ a1r ?_
 obtain⟨hg1,hC0⟩:=p5 hC0
 obtain⟨hg2,hC0⟩:=p5 hC0
 obtain⟨hg3,hC0⟩:=p5 hC0
 obtain⟨hg4,hC0⟩:=p5 hC0
 obtain⟨hg5,hC0⟩:=p5 hC0
 refine sI a1r ?_ (hp:=by exact And.intro hg1 (And.intro hg2 (And.intro (fun hh=>hh) (And.intro (fun hh=>hh) (And.intro (fun hh=>hh) (And.intro (fun hh=>hh) (And.intro hg3 (And.intro (fun hh=>hh) (And.intro (fun hh=>hh) (And.intro hg4 (And.intro (fun hh=>hh) (And.intro (fun hh=>hh) (And.intro hg5 (And.intro (fun hh=>hh) ((fun hh=>qC hh))))))))))))))))
 refine p7 ?_
 cases hC0
 exact⟨[],by rfl,by rfl,by rfl⟩
attribute [irreducible] JC
def MN (O:s0):((List UInt8)×Int)→Option (((List UInt8)×Int)⊕(List UInt8)):=fun(Z,aA)=>
 if (decide (aA<(List.length ((([O.1]:List (List UInt8))++O.2.1)++([O.2.2.1]:List (List UInt8))):Int)))=true then
  if 0≤aA∧aA<(List.length ((([O.1]:List (List UInt8))++O.2.1)++([O.2.2.1]:List (List UInt8))):Int) then
   if ((Z++(pG .str ((([O.1]:List (List UInt8))++O.2.1)++([O.2.2.1]:List (List UInt8))) aA)).length:Int)≤9223372036854775807 then
    if p4 (aA+(1:Int)) then
     some (.inl ((Z++(pG .str ((([O.1]:List (List UInt8))++O.2.1)++([O.2.2.1]:List (List UInt8))) aA)),(aA+(1:Int))))
    else none
   else none
  else none
 else
  some (.inr Z)
def GT (O:s0):Option (List UInt8):=
 (CV O).bind fun Z=>
 qB (pJ (MN O) (([]:List UInt8),(0:Int))) fun aA=>
 some (aA)
section
variable (O:s0)
@[reducible] def a1s:List Slot:=[(.val tY O,none)]
@[reducible] def a1t:List Blk:=[]
@[go_sem] def a1u:Ret:=⟨[((GT O)).isSome=true],[(.val .str (val (GT O)),none)],[]⟩
def aBu:List Slot→List Blk→Option Ret:=pV (V:=s0) (fun x=>a1s x) (fun x=>a1t) fun x=>a1u x
@[go_sem] theorem aNu:aBu (no_index (a1s O)) (no_index a1t)=some (a1u O):=pX (fun a0 b0 h1 h2=>by cases h1;cases h2;rfl) O
end
@[reducible,go_sem] def aBv:Nat×Sig:=(58,⟨[.v],aBu,[],[],none⟩)
theorem D6:Env Tryz.prog [qD,sR,BE] (pP [YE]):=⟨⟨qG,⟨sX,⟨EC,trivial⟩⟩⟩,pB aAc pW,pR⟩
theorem aIW:pO Tryz.prog aBv:=by
 refine pY D6 Tryz.func58 (c:=_) rfl (N:=21) (by kernel_rfl) (ts:=[(2,none)]) rfl (fun _ _=>rfl) ?_
 intro O hs hrow
 dsimp only[a1s,a1t,a1u,pS,enumH,pF,pN,pU,Nat.reduceAdd] at hs hrow⊢
 have hz:=hs
 obtain⟨z0,hC0⟩:=Option.isSome_iff_exists.1 hz
 try rw[q8 hC0]
 clear hz hs
 unfold GT at hC0
 refine oZ D6 ?_
 refine oZ D6 ?_
 obtain⟨Z,hv1,hw1,hC0⟩:=pL hC0
 try simp only[go_sem] at hw1
 refine oZ D6 ?_ (hp:=by exact(pK hv1)) (h:=by simp only[go_sem,hw1];rfl)
 refine pA ?_
 refine oZ D6 ?_
 refine pZ ?_
 obtain⟨aA,hy1,hC0⟩:=p6 hC0
 refine rN 0 (fun s=>s=(fun x=>⟨[(3,(.val .str x,none))],[],0,21,0⟩) aA) ?_ ?_
 ·refine rM hy1 (fun x=>⟨[(3,(.val .str x.1,none)),(4,(.val (.list .str) ((([O.1]:List (List UInt8))++O.2.1)++([O.2.2.1]:List (List UInt8))),some 0)),(5,(.val (.int .i64) x.2,none))],[(0,.grow 9 1 (List.length ((([O.1]:List (List UInt8))++O.2.1)++([O.2.2.1]:List (List UInt8)))))],1,21,0⟩) ⟨[3,4,5],[(0,128)]⟩ (by rfl) ?_
  intro x1 w1 n1 hC1 hN1
  obtain⟨aB,aC⟩:=x1
  unfold MN at hC1
  dsimp only at hC1⊢
  refine pA ?_
  refine oZ D6 ?_
  refine p9 hC1 (fun hC1 hc1=> ?_) (fun hC1 hc1=> ?_)
  ·refine pE (p8 (pA (pZ ?_)))
   obtain⟨hg2,hC1⟩:=p5 hC1
   obtain⟨hg3,hC1⟩:=p5 hC1
   refine q7 D6 ?_ (hp:=by exact And.intro hg2 (hg3))
   refine q9 (p8 ?_)
   obtain⟨hg4,hC1⟩:=p5 hC1
   refine q7 D6 ?_ (hp:=by exact hg4)
   cases hC1
   exact qZ ⟨⟨[3,4,5],[(0,0)]⟩,_,by rfl,hN1⟩
  ·refine rL (rJ (rP ?_))
   cases hC1
   cases hN1
   exact rO ⟨⟨[3],[]⟩,by rfl⟩
 ·rintro _ rfl
  dsimp only at hC0⊢
  refine rK (p8 ?_)
  refine oZ D6 ?_
  refine p7 ?_
  cases hC0
  exact⟨[],by rfl,by rfl,by rfl⟩
attribute [irreducible] GT
end
end Go.Proofs.YtbbpilohihldiaaGreatDoor
namespace Go.Proofs.YtbbpilohihldiaaGreatDoor
open Vc
set_option maxRecDepth 100000
set_option maxHeartbeats 4000000
set_option linter.unusedSimpArgs false
set_option linter.unusedVariables false
noncomputable section
def MO (O:s0) (Z:s0):((List (Int×((List UInt8)×Unit)))×Int)→Option (((List (Int×((List UInt8)×Unit)))×Int)⊕(List (Int×((List UInt8)×Unit)))):=fun(aA,aB)=>
 if (decide (aB<(List.length ((([O.1]:List (List UInt8))++O.2.1)++([O.2.2.1]:List (List UInt8))):Int)))=true then
  if 0≤aB∧aB<(List.length ((([O.1]:List (List UInt8))++O.2.1)++([O.2.2.1]:List (List UInt8))):Int) then
   if 0≤aB∧aB<(List.length ((([Z.1]:List (List UInt8))++Z.2.1)++([Z.2.2.1]:List (List UInt8))):Int) then
    if (!decide ((pG .str ((([O.1]:List (List UInt8))++O.2.1)++([O.2.2.1]:List (List UInt8))) aB)=(pG .str ((([Z.1]:List (List UInt8))++Z.2.1)++([Z.2.2.1]:List (List UInt8))) aB)))=true then
     if 0≤aB∧aB<(List.length ((([O.1]:List (List UInt8))++O.2.1)++([O.2.2.1]:List (List UInt8))):Int) then
      if (List.length aA+List.length ([(aB,((pG .str ((([O.1]:List (List UInt8))++O.2.1)++([O.2.2.1]:List (List UInt8))) aB),()))]:List (Int×((List UInt8)×Unit))))*24≤140737488355328 then
       if p4 (aB+(1:Int)) then
        some (.inl ((aA++([(aB,((pG .str ((([O.1]:List (List UInt8))++O.2.1)++([O.2.2.1]:List (List UInt8))) aB),()))]:List (Int×((List UInt8)×Unit)))),(aB+(1:Int))))
       else none
      else none
     else none
    else
     if p4 (aB+(1:Int)) then
      some (.inl (aA,(aB+(1:Int))))
     else none
   else none
  else none
 else
  some (.inr aA)
def D7 (O:s0) (Z:s0):Option ((List (Int×((List UInt8)×Unit)))×Int):=
 if (!decide ((List.length O.2.1:Int)=(List.length Z.2.1:Int)))=true then
  some ((([]:List (Int×((List UInt8)×Unit))),(1:Int)))
 else
  (CV O).bind fun aA=>
  (CV Z).bind fun aB=>
  qB (pJ (MO O Z) (([]:List (Int×((List UInt8)×Unit))),(0:Int))) fun aC=>
  some ((aC,(0:Int)))
section
variable (O:s0) (Z:s0)
@[reducible] def a1v:List Slot:=[(.val tY O,none),(.val tY Z,none)]
@[reducible] def a1w:List Blk:=[]
@[go_sem] def a1x:Ret:=⟨[((D7 O Z)).isSome=true],[(.val (.list LZ) ((val (D7 O Z)).1),some 0),(.val (.int .i64) ((val (D7 O Z)).2),none)],[.grow 122 2 (List.length ((val (D7 O Z)).1))]⟩
def aBw:List Slot→List Blk→Option Ret:=pV (V:=(s0×s0)) (fun x=>a1v x.1 x.2) (fun x=>a1w) fun x=>a1x x.1 x.2
@[go_sem] theorem aNv:aBw (no_index (a1v O Z)) (no_index a1w)=some (a1x O Z):=pX (fun⟨a0,a1⟩ ⟨b0,b1⟩ h1 h2=>by cases h1;cases h2;rfl) (O,Z)
end
@[reducible,go_sem] def aBx:Nat×Sig:=(49,⟨[.v,.v],aBw,[],[],none⟩)
theorem yZ:Env Tryz.prog [qD,sR,BE,R2,XO] (pP [YE]):=⟨⟨qG,⟨sX,⟨EC,⟨a9O,⟨aIm,trivial⟩⟩⟩⟩⟩,pB aAc pW,pR⟩
theorem aIX:pO Tryz.prog aBx:=by
 refine pY yZ Tryz.func49 (c:=_) rfl (N:=46) (by kernel_rfl) (ts:=[(4,none),(5,none)]) rfl (fun _ _=>rfl) ?_
 intro⟨O,Z⟩ hs hrow
 dsimp only[a1v,a1w,a1x,pS,enumH,pF,pN,pU,Nat.reduceAdd] at hs hrow⊢
 have hz:=hs
 obtain⟨z0,hC0⟩:=Option.isSome_iff_exists.1 hz
 try rw[q8 hC0]
 clear hz hs
 unfold D7 at hC0
 refine oZ yZ ?_
 refine pA ?_
 refine oZ yZ ?_
 refine p9 hC0 (fun hC0 hc1=> ?_) (fun hC0 hc1=> ?_)
 ·refine oZ yZ ?_
  refine p7 (pH ?_)
  cases hC0
  exact⟨[(0,352)],by rfl,by rfl,by rfl⟩
 ·refine pE (p8 ?_)
  refine oZ yZ ?_
  obtain⟨aA,hv1,hw1,hC0⟩:=pL hC0
  try simp only[go_sem] at hw1
  obtain⟨aB,hv2,hw2,hC0⟩:=pL hC0
  try simp only[go_sem] at hw2
  refine sI yZ ?_ (hp:=by exact And.intro (pK hv1) ((pK hv2))) (h:=by simp only[go_sem,hw1,hw2];rfl)
  refine pA ?_
  refine oZ yZ ?_
  refine pZ ?_
  obtain⟨aC,hy1,hC0⟩:=p6 hC0
  refine rN 0 (fun s=>s=(fun x=>⟨[(6,(.val (.list LZ) x,some 0))],[(0,.grow 122 2 (List.length x))],1,46,0⟩) aC) ?_ ?_
  ·refine rM hy1 (fun x=>⟨[(6,(.val (.list LZ) x.1,some 0)),(7,(.val (.list .str) ((([O.1]:List (List UInt8))++O.2.1)++([O.2.2.1]:List (List UInt8))),some 1)),(8,(.val (.list .str) ((([Z.1]:List (List UInt8))++Z.2.1)++([Z.2.2.1]:List (List UInt8))),some 2)),(9,(.val (.int .i64) x.2,none))],[(0,.grow 122 2 (List.length x.1)),(1,.grow 9 1 (List.length ((([O.1]:List (List UInt8))++O.2.1)++([O.2.2.1]:List (List UInt8))))),(2,.grow 9 1 (List.length ((([Z.1]:List (List UInt8))++Z.2.1)++([Z.2.2.1]:List (List UInt8)))))],3,46,0⟩) ⟨[6,7,8,9],[(0,352),(1,416),(2,480)]⟩ (by rfl) ?_
   intro x1 w1 n1 hC1 hN1
   obtain⟨aD,aE⟩:=x1
   unfold MO at hC1
   dsimp only at hC1⊢
   refine pA ?_
   refine oZ yZ ?_
   refine p9 hC1 (fun hC1 hc2=> ?_) (fun hC1 hc2=> ?_)
   ·refine pE (p8 (pA (pZ ?_)))
    obtain⟨hg3,hC1⟩:=p5 hC1
    obtain⟨hg4,hC1⟩:=p5 hC1
    refine sI yZ ?_ (hp:=by exact And.intro hg3 (hg4))
    refine p9 hC1 (fun hC1 hc3=> ?_) (fun hC1 hc3=> ?_)
    ·obtain⟨hg5,hC1⟩:=p5 hC1
     obtain⟨hg6,hC1⟩:=p5 hC1
     refine q7 yZ ?_ (hp:=by exact And.intro hg5 (And.intro (by first|exact rfl|exact trivial) (hg6)))
     refine q9 (p8 ?_)
     obtain⟨hg7,hC1⟩:=p5 hC1
     refine q7 yZ ?_ (hp:=by exact hg7)
     cases hC1
     exact qZ ⟨⟨[6,7,8,9],[(0,0),(1,1),(2,2)]⟩,_,by rfl,hN1⟩
    ·refine pE (q9 (p8 ?_))
     obtain⟨hg8,hC1⟩:=p5 hC1
     refine q7 yZ ?_ (hp:=by exact hg8)
     cases hC1
     exact qZ ⟨⟨[6,7,8,9],[(0,0),(1,1),(2,2)]⟩,_,by rfl,hN1⟩
   ·refine rL (rJ (rP ?_))
    cases hC1
    cases hN1
    exact rO ⟨⟨[6],[(0,0)]⟩,by rfl⟩
  ·rintro _ rfl
   dsimp only at hC0⊢
   refine rK (p8 ?_)
   refine oZ yZ ?_
   refine p7 ?_
   cases hC0
   exact⟨[(0,0)],by rfl,by rfl,by rfl⟩
attribute [irreducible] D7
end
end Go.Proofs.YtbbpilohihldiaaGreatDoor
namespace Go.Proofs.YtbbpilohihldiaaGreatDoor
open Vc
set_option maxRecDepth 100000
set_option maxHeartbeats 4000000
set_option linter.unusedSimpArgs false
set_option linter.unusedVariables false
noncomputable section
def MR (O:(List UInt8)):Int→Option (Int⊕(Unit⊕Bool)):=fun Z=>
 if (decide (Z<(List.length O:Int)))=true then
  if 0≤Z∧Z<(List.length O:Int) then
   if ((((!((decide ((97:Int)≤(pD O Z)))&&(decide ((pD O Z)≤(122:Int)))))&&(!((decide ((48:Int)≤(pD O Z)))&&(decide ((pD O Z)≤(57:Int))))))&&(!decide ((pD O Z)=(45:Int))))&&((decide ((pD O Z)<(65:Int)))||(decide ((90:Int)<(pD O Z)))))=true then
    some (.inr (.inr (false)))
   else
    if p4 (Z+(1:Int)) then
     some (.inl (Z+(1:Int)))
    else none
  else none
 else
  some (.inr (.inl ()))
def GV (O:(List UInt8)):Option Bool:=
 qS (pJ (MR O) (0:Int)) fun _=>
 some (((decide ((1:Int)≤(List.length O:Int)))&&(decide ((List.length O:Int)≤(40:Int)))))
section
variable (O:(List UInt8))
@[reducible] def a1y:List Slot:=[(.val .str O,none)]
@[reducible] def a1z:List Blk:=[]
@[go_sem] def a1A:Ret:=⟨[((GV O)).isSome=true],[(.val .bool (val (GV O)),none)],[]⟩
def aBy:List Slot→List Blk→Option Ret:=pV (V:=(List UInt8)) (fun x=>a1y x) (fun x=>a1z) fun x=>a1A x
@[go_sem] theorem aNw:aBy (no_index (a1y O)) (no_index a1z)=some (a1A O):=pX (fun a0 b0 h1 h2=>by cases h1;cases h2;rfl) O
end
@[reducible,go_sem] def aBz:Nat×Sig:=(114,⟨[.v],aBy,[],[],none⟩)
theorem D8:Env Tryz.prog [qD] (pP [ZE,ZJ]):=⟨⟨qG,trivial⟩,pB aAw (pB aAz pW),pR⟩
theorem aIY:pO Tryz.prog aBz:=by
 refine pY D8 Tryz.func114 (c:=_) rfl (N:=42) (by kernel_rfl) (ts:=[(2,none)]) rfl (fun _ _=>rfl) ?_
 intro O hs hrow
 dsimp only[a1y,a1z,a1A,pS,enumH,pF,pN,pU,Nat.reduceAdd] at hs hrow⊢
 have hz:=hs
 obtain⟨z0,hC0⟩:=Option.isSome_iff_exists.1 hz
 try rw[q8 hC0]
 clear hz hs
 unfold GV at hC0
 refine oZ D8 ?_
 refine pA ?_
 refine oZ D8 ?_
 refine pZ ?_
 obtain⟨y1,hy1,hC0⟩:=t8 hC0
 refine rN 0 (fun s=> ∃v,y1= .inl v∧s=(fun _=>⟨[(0,(.val .str O,none))],[],0,42,0⟩) v) ?_ ?_
 ·refine rM hy1 (fun x=>⟨[(0,(.val .str O,none)),(3,(.val (.int .i64) x,none))],[],0,42,0⟩) ⟨[0,3],[]⟩ (by rfl) ?_
  intro Z w1 n1 hC1 hN1
  unfold MR at hC1
  dsimp only at hC1⊢
  refine pA ?_
  refine oZ D8 ?_
  refine p9 hC1 (fun hC1 hc1=> ?_) (fun hC1 hc1=> ?_)
  ·refine pE (p8 (pA (pZ ?_)))
   obtain⟨hg1,hC1⟩:=p5 hC1
   refine oZ D8 ?_ (hp:=by exact hg1)
   refine oZ D8 ?_ (hp:=by exact And.intro (fun hh=>hh) (And.intro (fun hh=>hh) (And.intro (fun hh=>qC hh) (And.intro (fun hh=>hh) (And.intro (fun hh=>qC hh) (And.intro (fun hh=>hh) (And.intro (fun hh=>hh) (And.intro (fun hh=>hh) (And.intro (fun hh=>hh) (And.intro (fun hG hh=>CO hG hh) ((fun hh=>qC hh))))))))))))
   refine p9 hC1 (fun hC1 hc2=> ?_) (fun hC1 hc2=> ?_)
   ·refine oZ D8 ?_
    refine p7 (pQ (pH (tM (tK (pQ (pH ?_))))))
    cases hC1
    cases hN1
    dsimp only at hC0
    cases hC0
    exact⟨[],by rfl,by rfl,by rfl⟩
   ·refine pE (q9 (p8 ?_))
    obtain⟨hg2,hC1⟩:=p5 hC1
    refine q7 D8 ?_ (hp:=by exact hg2)
    cases hC1
    exact qZ ⟨⟨[0,3],[]⟩,_,by rfl,hN1⟩
  ·refine rL (rJ (rP ?_))
   cases hC1
   cases hN1
   exact rO ⟨⟨[0],[]⟩,_,rfl,by rfl⟩
 ·rintro _ ⟨v,rfl,rfl⟩
  dsimp only at hC0⊢
  refine rK (p8 ?_)
  refine oZ D8 ?_ (hp:=by exact And.intro (fun hh=>hh) (And.intro (fun hh=>hh) ((fun hh=>qC hh))))
  refine p7 ?_
  cases hC0
  exact⟨[],by rfl,by rfl,by rfl⟩
attribute [irreducible] GV
def MS (O:(List UInt8)):Int→Option (Int⊕(Unit⊕Bool)):=fun Z=>
 if (decide (Z<(List.length O:Int)))=true then
  if 0≤Z∧Z<(List.length O:Int) then
   if (((((!((decide ((97:Int)≤(pD O Z)))&&(decide ((pD O Z)≤(122:Int)))))&&(!((decide ((48:Int)≤(pD O Z)))&&(decide ((pD O Z)≤(57:Int))))))&&(!decide ((pD O Z)=(45:Int))))&&(!decide ((pD O Z)=(95:Int))))&&(!decide ((pD O Z)=(46:Int))))=true then
    some (.inr (.inr (false)))
   else
    if p4 (Z+(1:Int)) then
     some (.inl (Z+(1:Int)))
    else none
  else none
 else
  some (.inr (.inl ()))
def BJ (O:(List UInt8)):Option Bool:=
 if ((((decide ((List.length O:Int)<(1:Int)))||(decide ((40:Int)<(List.length O:Int))))==false)=true→0≤(0:Int)∧(0:Int)<(List.length O:Int)) then
  if (((decide ((List.length O:Int)<(1:Int)))||(decide ((40:Int)<(List.length O:Int))))||(!((decide ((97:Int)≤(pD O (0:Int))))&&(decide ((pD O (0:Int))≤(122:Int))))))=true then
   some (false)
  else
   qS (pJ (MS O) (1:Int)) fun _=>
   some (true)
 else none
section
variable (O:(List UInt8))
@[reducible] def a1B:List Slot:=[(.val .str O,none)]
@[reducible] def a1C:List Blk:=[]
@[go_sem] def a1D:Ret:=⟨[((BJ O)).isSome=true],[(.val .bool (val (BJ O)),none)],[]⟩
def aBA:List Slot→List Blk→Option Ret:=pV (V:=(List UInt8)) (fun x=>a1B x) (fun x=>a1C) fun x=>a1D x
@[go_sem] theorem aNx:aBA (no_index (a1B O)) (no_index a1C)=some (a1D O):=pX (fun a0 b0 h1 h2=>by cases h1;cases h2;rfl) O
end
@[reducible,go_sem] def a1E:Nat×Sig:=(116,⟨[.v],aBA,[],[],none⟩)
theorem AF:Env Tryz.prog [qD] (pP [ZE,ZJ]):=⟨⟨qG,trivial⟩,pB aAw (pB aAz pW),pR⟩
theorem aBB:pO Tryz.prog a1E:=by
 refine pY AF Tryz.func116 (c:=_) rfl (N:=48) (by kernel_rfl) (ts:=[(2,none)]) rfl (fun _ _=>rfl) ?_
 intro O hs hrow
 dsimp only[a1B,a1C,a1D,pS,enumH,pF,pN,pU,Nat.reduceAdd] at hs hrow⊢
 have hz:=hs
 obtain⟨z0,hC0⟩:=Option.isSome_iff_exists.1 hz
 try rw[q8 hC0]
 clear hz hs
 unfold BJ at hC0
 refine oZ AF ?_
 refine pA ?_
 obtain⟨hg1,hC0⟩:=p5 hC0
 refine oZ AF ?_ (hp:=by exact And.intro (fun hh=>hh) (And.intro (fun hh=>hh) (And.intro (fun hh=>sD hh) (And.intro (fun hh=>hh) (And.intro hg1 (And.intro (fun hh=>hh) (And.intro (fun hh=>hh) ((fun hh=>sD hh)))))))))
 refine p9 hC0 (fun hC0 hc1=> ?_) (fun hC0 hc1=> ?_)
 ·refine oZ AF ?_
  refine p7 (pH ?_)
  cases hC0
  exact⟨[],by rfl,by rfl,by rfl⟩
 ·refine pE (p8 (pA ?_))
  refine oZ AF ?_
  refine pZ ?_
  obtain⟨y1,hy1,hC0⟩:=t8 hC0
  refine rN 0 (fun s=> ∃v,y1= .inl v∧s=(fun _=>⟨[],[],0,48,0⟩) v) ?_ ?_
  ·refine rM hy1 (fun x=>⟨[(0,(.val .str O,none)),(3,(.val (.int .i64) x,none))],[],0,48,0⟩) ⟨[0,3],[]⟩ (by rfl) ?_
   intro Z w1 n1 hC1 hN1
   unfold MS at hC1
   dsimp only at hC1⊢
   refine pA ?_
   refine oZ AF ?_
   refine p9 hC1 (fun hC1 hc2=> ?_) (fun hC1 hc2=> ?_)
   ·refine pE (p8 (pA (pZ ?_)))
    obtain⟨hg2,hC1⟩:=p5 hC1
    refine oZ AF ?_ (hp:=by exact hg2)
    refine oZ AF ?_ (hp:=by exact And.intro (fun hh=>hh) (And.intro (fun hh=>hh) (And.intro (fun hh=>qC hh) (And.intro (fun hh=>hh) (And.intro (fun hh=>qC hh) (And.intro (fun hh=>hh) (And.intro (fun hh=>qC hh) (And.intro (fun hh=>hh) ((fun hh=>qC hh))))))))))
    refine p9 hC1 (fun hC1 hc3=> ?_) (fun hC1 hc3=> ?_)
    ·refine oZ AF ?_
     refine p7 (pQ (pH (tM (tK (pQ (pH ?_))))))
     cases hC1
     cases hN1
     dsimp only at hC0
     cases hC0
     exact⟨[],by rfl,by rfl,by rfl⟩
    ·refine pE (q9 (p8 ?_))
     obtain⟨hg3,hC1⟩:=p5 hC1
     refine q7 AF ?_ (hp:=by exact hg3)
     cases hC1
     exact qZ ⟨⟨[0,3],[]⟩,_,by rfl,hN1⟩
   ·refine rL (rJ (rP ?_))
    cases hC1
    cases hN1
    exact rO ⟨⟨[],[]⟩,_,rfl,by rfl⟩
  ·rintro _ ⟨v,rfl,rfl⟩
   dsimp only at hC0⊢
   refine rK (p8 ?_)
   refine oZ AF ?_
   refine p7 ?_
   cases hC0
   exact⟨[],by rfl,by rfl,by rfl⟩
attribute [irreducible] BJ
def D9 (O:(List UInt8)) (Z:(List UInt8)):Option Unit:=
 (GN O Z).bind fun aA=>
 some (())
section
variable (O:(List UInt8)) (Z:(List UInt8))
@[reducible] def a1F:List Slot:=[(.val .str O,none),(.val .str Z,none)]
@[reducible] def a1G:List Blk:=[]
@[go_sem] def a1H:Ret:=⟨[((D9 O Z)).isSome=true],[(.val .bool ((decide ((List.length Z:Int)≤(List.length O:Int)))&&(decide ((pC O (0:Int) (List.length Z:Int))=Z))),none)],[]⟩
def aBC:List Slot→List Blk→Option Ret:=pV (V:=((List UInt8)×(List UInt8))) (fun x=>a1F x.1 x.2) (fun x=>a1G) fun x=>a1H x.1 x.2
@[go_sem] theorem aNy:aBC (no_index (a1F O Z)) (no_index a1G)=some (a1H O Z):=pX (fun⟨a0,a1⟩ ⟨b0,b1⟩ h1 h2=>by cases h1;cases h2;rfl) (O,Z)
end
@[reducible,go_sem] def a1I:Nat×Sig:=(136,⟨[.v,.v],aBC,[],[],none⟩)
theorem a1J:Env Tryz.prog [] (pP [RI]):=⟨trivial,pB ZP pW,pR⟩
theorem aBD:pO Tryz.prog a1I:=by
 refine pY a1J Tryz.func136 (c:=_) rfl (N:=8) (by kernel_rfl) (ts:=[(4,none)]) rfl (fun _ _=>rfl) ?_
 intro⟨O,Z⟩ hs hrow
 dsimp only[a1F,a1G,a1H,pS,enumH,pF,pN,pU,Nat.reduceAdd] at hs hrow⊢
 have hz:=hs
 obtain⟨z0,hC0⟩:=Option.isSome_iff_exists.1 hz
 try rw[q8 hC0]
 clear hz hs
 unfold D9 at hC0
 refine oZ a1J ?_
 obtain⟨aA,hv1,hw1,hC0⟩:=pL hC0
 try simp only[go_sem] at hw1
 refine oZ a1J ?_ (hp:=by exact(pK hv1)) (h:=by simp only[go_sem,hw1];rfl)
 refine p7 ?_
 cases hC0
 exact⟨[],by rfl,by rfl,by rfl⟩
attribute [irreducible] D9
def EP (O:(List UInt8)) (Z:(List UInt8)):Option ((List UInt8)×Bool):=
 (J6 O Z).bind fun aA=>
 some ((aA.1,aA.2))
section
variable (O:(List UInt8)) (Z:(List UInt8))
@[reducible] def a1K:List Slot:=[(.val .str O,none),(.val .str Z,none)]
@[reducible] def a1L:List Blk:=[]
@[go_sem] def a1M:Ret:=⟨[((EP O Z)).isSome=true],[(.val .str ((val (EP O Z)).1),none),(.val .bool ((val (EP O Z)).2),none)],[]⟩
def aBE:List Slot→List Blk→Option Ret:=pV (V:=((List UInt8)×(List UInt8))) (fun x=>a1K x.1 x.2) (fun x=>a1L) fun x=>a1M x.1 x.2
@[go_sem] theorem aNz:aBE (no_index (a1K O Z)) (no_index a1L)=some (a1M O Z):=pX (fun⟨a0,a1⟩ ⟨b0,b1⟩ h1 h2=>by cases h1;cases h2;rfl) (O,Z)
end
@[reducible,go_sem] def a1N:Nat×Sig:=(137,⟨[.v,.v],aBE,[],[],none⟩)
theorem a1O:Env Tryz.prog [] (pP [aAC]):=⟨trivial,pB aIC pW,pR⟩
theorem aBF:pO Tryz.prog a1N:=by
 refine pY a1O Tryz.func137 (c:=_) rfl (N:=11) (by kernel_rfl) (ts:=[(4,none),(5,none)]) rfl (fun _ _=>rfl) ?_
 intro⟨O,Z⟩ hs hrow
 dsimp only[a1K,a1L,a1M,pS,enumH,pF,pN,pU,Nat.reduceAdd] at hs hrow⊢
 have hz:=hs
 obtain⟨z0,hC0⟩:=Option.isSome_iff_exists.1 hz
 try rw[q8 hC0]
 clear hz hs
 unfold EP at hC0
 refine oZ a1O ?_
 obtain⟨aA,hv1,hw1,hC0⟩:=pL hC0
 try simp only[go_sem] at hw1
 refine oZ a1O ?_ (hp:=by exact(pK hv1)) (h:=by simp only[go_sem,hw1];rfl)
 refine p7 ?_
 cases hC0
 exact⟨[],by rfl,by rfl,by rfl⟩
attribute [irreducible] EP
def aBG (O:Int) (Z:(List UInt8)) (aA:Int):Int→Option (Int⊕(Unit⊕Int)):=fun aB=>
 if (decide (aB<(List.length Z:Int)))=true then
  if 0≤aB∧aB<(List.length Z:Int) then
   if (decide ((pD Z aB)=aA))=true then
    some (.inr (.inr (aB)))
   else
    if (((!decide (O=(4:Int)))==true)=true→0≤aB∧aB<(List.length Z:Int)) then
     if ((!decide (O=(4:Int)))&&(decide ((pD Z aB)=(92:Int))))=true then
      if p4 (aB+(1:Int)) then
       if p4 ((aB+(1:Int))+(1:Int)) then
        some (.inl ((aB+(1:Int))+(1:Int)))
       else none
      else none
     else
      if p4 (aB+(1:Int)) then
       some (.inl (aB+(1:Int)))
      else none
    else none
  else none
 else
  some (.inr (.inl ()))
def EQ (O:Int) (Z:(List UInt8)) (aA:Int):Option Int:=
 if (!((decide ((1:Int)≤O))&&(decide (O≤(4:Int)))))=true then
  some ((-1:Int))
 else
  qS (pJ (aBG O Z aA) (0:Int)) fun _=>
  some ((-1:Int))
section
variable (O:Int) (Z:(List UInt8)) (aA:Int)
@[reducible] def a1P:List Slot:=[(.val (.int .i64) O,none),(.val .str Z,none),(.val (.int .u8) aA,none)]
@[reducible] def a1Q:List Blk:=[]
@[go_sem] def a1R:Ret:=⟨[((EQ O Z aA)).isSome=true],[(.val (.int .i64) (val (EQ O Z aA)),none)],[]⟩
def aBH:List Slot→List Blk→Option Ret:=pV (V:=(Int×(List UInt8)×Int)) (fun x=>a1P x.1 x.2.1 x.2.2) (fun x=>a1Q) fun x=>a1R x.1 x.2.1 x.2.2
@[go_sem] theorem aNA:aBH (no_index (a1P O Z aA)) (no_index a1Q)=some (a1R O Z aA):=pX (fun⟨a0,a1,a2⟩ ⟨b0,b1,b2⟩ h1 h2=>by cases h1;cases h2;rfl) (O,Z,aA)
end
@[reducible,go_sem] def aBI:Nat×Sig:=(139,⟨[.v,.v,.v],aBH,[],[],none⟩)
theorem z6:Env Tryz.prog [qD] (pP [RB]):=⟨⟨qG,trivial⟩,pB YZ pW,pR⟩
theorem aIZ:pO Tryz.prog aBI:=by
 refine pY z6 Tryz.func139 (c:=_) rfl (N:=33) (by kernel_rfl) (ts:=[(6,none)]) rfl (fun _ _=>rfl) ?_
 intro⟨O,Z,aA⟩ hs hrow
 dsimp only[a1P,a1Q,a1R,pS,enumH,pF,pN,pU,Nat.reduceAdd] at hs hrow⊢
 have hz:=hs
 obtain⟨z0,hC0⟩:=Option.isSome_iff_exists.1 hz
 try rw[q8 hC0]
 clear hz hs
 unfold EQ at hC0
 refine oZ z6 ?_
 refine pA ?_
 refine oZ z6 ?_
 refine p9 hC0 (fun hC0 hc1=> ?_) (fun hC0 hc1=> ?_)
 ·refine oZ z6 ?_
  refine p7 (pH ?_)
  cases hC0
  exact⟨[],by rfl,by rfl,by rfl⟩
 ·refine pE (p8 (pA ?_))
  refine oZ z6 ?_
  refine pZ ?_
  obtain⟨y1,hy1,hC0⟩:=t8 hC0
  refine rN 0 (fun s=> ∃v,y1= .inl v∧s=(fun _=>⟨[],[],0,33,0⟩) v) ?_ ?_
  ·refine rM hy1 (fun x=>⟨[(0,(.val (.int .i64) O,none)),(1,(.val .str Z,none)),(2,(.val (.int .u8) aA,none)),(7,(.val (.int .i64) x,none))],[],0,33,0⟩) ⟨[0,1,2,7],[]⟩ (by rfl) ?_
   intro aB w1 n1 hC1 hN1
   unfold aBG at hC1
   dsimp only at hC1⊢
   refine pA ?_
   refine oZ z6 ?_
   refine p9 hC1 (fun hC1 hc2=> ?_) (fun hC1 hc2=> ?_)
   ·refine pE (p8 (pA (pZ (pA ?_))))
    obtain⟨hg1,hC1⟩:=p5 hC1
    refine oZ z6 ?_ (hp:=by exact hg1)
    refine p9 hC1 (fun hC1 hc3=> ?_) (fun hC1 hc3=> ?_)
    ·refine oZ z6 ?_
     refine p7 (pH (pQ (pH (tM (tK (pQ (pH ?_)))))))
     cases hC1
     cases hN1
     dsimp only at hC0
     cases hC0
     exact⟨[],by rfl,by rfl,by rfl⟩
    ·refine pE (p8 ?_)
     obtain⟨hg2,hC1⟩:=p5 hC1
     refine oZ z6 ?_ (hp:=by exact And.intro (fun hh=>hh) (And.intro (fun hh=>hh) (And.intro hg2 (And.intro (fun hh=>hh) ((fun hh=>qC hh))))))
     refine p9 hC1 (fun hC1 hc4=> ?_) (fun hC1 hc4=> ?_)
     ·obtain⟨hg3,hC1⟩:=p5 hC1
      refine q7 z6 ?_ (hp:=by exact hg3)
      refine q9 (p8 ?_)
      obtain⟨hg4,hC1⟩:=p5 hC1
      refine q7 z6 ?_ (hp:=by exact hg4)
      cases hC1
      exact qZ ⟨⟨[0,1,2,7],[]⟩,_,by rfl,hN1⟩
     ·refine pE (q9 (p8 ?_))
      obtain⟨hg5,hC1⟩:=p5 hC1
      refine q7 z6 ?_ (hp:=by exact hg5)
      cases hC1
      exact qZ ⟨⟨[0,1,2,7],[]⟩,_,by rfl,hN1⟩
   ·refine rL (rJ (rP ?_))
    cases hC1
    cases hN1
    exact rO ⟨⟨[],[]⟩,_,rfl,by rfl⟩
  ·rintro _ ⟨v,rfl,rfl⟩
   dsimp only at hC0⊢
   refine rK (p8 ?_)
   refine oZ z6 ?_
   refine p7 ?_
   cases hC0
   exact⟨[],by rfl,by rfl,by rfl⟩
attribute [irreducible] EQ
def MT (O:(List UInt8)) (Z:(List UInt8)):Option (List UInt8):=
 (MB O Z).bind fun aA=>
 some (aA)
section
variable (O:(List UInt8)) (Z:(List UInt8))
@[reducible] def a1S:List Slot:=[(.val .str O,none),(.val .str Z,none)]
@[reducible] def a1T:List Blk:=[]
@[go_sem] def a1U:Ret:=⟨[((MT O Z)).isSome=true],[(.val .str (val (MT O Z)),none)],[]⟩
def aBJ:List Slot→List Blk→Option Ret:=pV (V:=((List UInt8)×(List UInt8))) (fun x=>a1S x.1 x.2) (fun x=>a1T) fun x=>a1U x.1 x.2
@[go_sem] theorem aNB:aBJ (no_index (a1S O Z)) (no_index a1T)=some (a1U O Z):=pX (fun⟨a0,a1⟩ ⟨b0,b1⟩ h1 h2=>by cases h1;cases h2;rfl) (O,Z)
end
@[reducible,go_sem] def aBK:Nat×Sig:=(140,⟨[.v,.v],aBJ,[],[],none⟩)
theorem a1V:Env Tryz.prog [] (pP [aAE]):=⟨trivial,pB aID pW,pR⟩
theorem aI0:pO Tryz.prog aBK:=by
 refine pY a1V Tryz.func140 (c:=_) rfl (N:=8) (by kernel_rfl) (ts:=[(4,none)]) rfl (fun _ _=>rfl) ?_
 intro⟨O,Z⟩ hs hrow
 dsimp only[a1S,a1T,a1U,pS,enumH,pF,pN,pU,Nat.reduceAdd] at hs hrow⊢
 have hz:=hs
 obtain⟨z0,hC0⟩:=Option.isSome_iff_exists.1 hz
 try rw[q8 hC0]
 clear hz hs
 unfold MT at hC0
 refine oZ a1V ?_
 obtain⟨aA,hv1,hw1,hC0⟩:=pL hC0
 try simp only[go_sem] at hw1
 refine oZ a1V ?_ (hp:=by exact(pK hv1)) (h:=by simp only[go_sem,hw1];rfl)
 refine p7 ?_
 cases hC0
 exact⟨[],by rfl,by rfl,by rfl⟩
attribute [irreducible] MT
def zN (O:(List UInt8)):Option Unit:=
 if (((decide ((List.length O:Int)≤(4000:Int)))==true)=true→((ME O)).isSome=true) then
  some (())
 else none
section
variable (O:(List UInt8))
@[reducible] def a1W:List Slot:=[(.val .str O,none)]
@[reducible] def a1X:List Blk:=[]
@[go_sem] def a1Y:Ret:=⟨[((zN O)).isSome=true],[(.val .bool ((decide ((List.length O:Int)≤(4000:Int)))&&(Lib.validD O)),none)],[]⟩
def aBL:List Slot→List Blk→Option Ret:=pV (V:=(List UInt8)) (fun x=>a1W x) (fun x=>a1X) fun x=>a1Y x
@[go_sem] theorem aNC:aBL (no_index (a1W O)) (no_index a1X)=some (a1Y O):=pX (fun a0 b0 h1 h2=>by cases h1;cases h2;rfl) O
end
@[reducible,go_sem] def MU:Nat×Sig:=(161,⟨[.v],aBL,[],[],none⟩)
theorem a1Z:Env Tryz.prog [qD] (pP [aAK]):=⟨⟨qG,trivial⟩,pB aIF pW,pR⟩
theorem RT:pO Tryz.prog MU:=by
 refine pY a1Z Tryz.func161 (c:=_) rfl (N:=10) (by kernel_rfl) (ts:=[(2,none)]) rfl (fun _ _=>rfl) ?_
 intro O hs hrow
 dsimp only[a1W,a1X,a1Y,pS,enumH,pF,pN,pU,Nat.reduceAdd] at hs hrow⊢
 have hz:=hs
 obtain⟨z0,hC0⟩:=Option.isSome_iff_exists.1 hz
 try rw[q8 hC0]
 clear hz hs
 unfold zN at hC0
 refine oZ a1Z ?_
 obtain⟨hg1,hC0⟩:=p5 hC0
 refine oZ a1Z ?_ (hp:=by exact And.intro (fun hh=>hh) (And.intro hg1 ((fun hh=>qC hh))))
 refine p7 ?_
 cases hC0
 exact⟨[],by rfl,by rfl,by rfl⟩
attribute [irreducible] zN
end
end Go.Proofs.YtbbpilohihldiaaGreatDoor
namespace Go.Proofs.YtbbpilohihldiaaGreatDoor
open Vc
set_option maxRecDepth 100000
set_option maxHeartbeats 4000000
set_option linter.unusedSimpArgs false
set_option linter.unusedVariables false
noncomputable section
def MV (O:(List UInt8)) (Z:(List UInt8)):Option (List UInt8):=
 (RJ O Z).bind fun aA=>
 if ((decide ((List.length Z:Int)≤(List.length O:Int)))&&(decide ((pC O ((List.length O:Int)- (List.length Z:Int)) (List.length O:Int))=Z)))=true then
  if p4 ((List.length O:Int)- (List.length Z:Int)) then
   if 0≤(0:Int)∧(0:Int)≤((List.length O:Int)- (List.length Z:Int))∧((List.length O:Int)- (List.length Z:Int))≤(List.length O:Int) then
    some ((pC O (0:Int) ((List.length O:Int)- (List.length Z:Int))))
   else none
  else none
 else
  some (O)
section
variable (O:(List UInt8)) (Z:(List UInt8))
@[reducible] def a2a:List Slot:=[(.val .str O,none),(.val .str Z,none)]
@[reducible] def a2b:List Blk:=[]
@[go_sem] def a2c:Ret:=⟨[((MV O Z)).isSome=true],[(.val .str (val (MV O Z)),none)],[]⟩
def aBM:List Slot→List Blk→Option Ret:=pV (V:=((List UInt8)×(List UInt8))) (fun x=>a2a x.1 x.2) (fun x=>a2b) fun x=>a2c x.1 x.2
@[go_sem] theorem aND:aBM (no_index (a2a O Z)) (no_index a2b)=some (a2c O Z):=pX (fun⟨a0,a1⟩ ⟨b0,b1⟩ h1 h2=>by cases h1;cases h2;rfl) (O,Z)
end
@[reducible,go_sem] def aBN:Nat×Sig:=(146,⟨[.v,.v],aBM,[],[],none⟩)
theorem MW:Env Tryz.prog [qD] (pP [aAG]):=⟨⟨qG,trivial⟩,pB aIE pW,pR⟩
theorem aI1:pO Tryz.prog aBN:=by
 refine pY MW Tryz.func146 (c:=_) rfl (N:=16) (by kernel_rfl) (ts:=[(4,none)]) rfl (fun _ _=>rfl) ?_
 intro⟨O,Z⟩ hs hrow
 dsimp only[a2a,a2b,a2c,pS,enumH,pF,pN,pU,Nat.reduceAdd] at hs hrow⊢
 have hz:=hs
 obtain⟨z0,hC0⟩:=Option.isSome_iff_exists.1 hz
 try rw[q8 hC0]
 clear hz hs
 unfold MV at hC0
 refine oZ MW ?_
 refine pA ?_
 obtain⟨aA,hv1,hw1,hC0⟩:=pL hC0
 try simp only[go_sem] at hw1
 refine oZ MW ?_ (hp:=by exact(pK hv1)) (h:=by simp only[go_sem,hw1];rfl)
 refine p9 hC0 (fun hC0 hc1=> ?_) (fun hC0 hc1=> ?_)
 ·obtain⟨hg2,hC0⟩:=p5 hC0
  obtain⟨hg3,hC0⟩:=p5 hC0
  refine oZ MW ?_ (hp:=by exact And.intro hg2 (hg3))
  refine p7 (pH ?_)
  cases hC0
  exact⟨[],by rfl,by rfl,by rfl⟩
 ·refine pE (p8 ?_)
  refine oZ MW ?_
  refine p7 ?_
  cases hC0
  exact⟨[],by rfl,by rfl,by rfl⟩
attribute [irreducible] MV
def DA (O:Int) (Z:Int) (aA:Bool):Option (List UInt8):=
 qB (σ:=(List UInt8)) (
   if (decide (O=(1:Int)))=true then
    some (([61,58,35,33]:List UInt8))
   else
    if (decide (O=(2:Int)))=true then
     some (([34]:List UInt8))
    else
     if (decide (O=(3:Int)))=true then
      some (([34,123,125]:List UInt8))
     else
      some (([]:List UInt8))
  ) fun aB=>
 if (decide (Z=(92:Int)))=true then
  some (([92,92]:List UInt8))
 else
  if (decide (Z=(10:Int)))=true then
   some (([92,110]:List UInt8))
  else
   if (decide (Z=(13:Int)))=true then
    some (([92,114]:List UInt8))
   else
    if (decide (Z=(9:Int)))=true then
     some (([92,116]:List UInt8))
    else
     qB (σ:=Bool) (
       if (decide ((0:Int)≤(rW aB Z)))=true then
        some ((decide ((0:Int)≤(rW aB Z))))
       else
        some ((((decide (O=(1:Int)))&&aA)&&(decide (Z=(32:Int)))))
      ) fun aC=>
     if aC=true then
      if ((([92]:List UInt8)++(qR ([Z]:List Int))).length:Int)≤9223372036854775807 then
       some ((([92]:List UInt8)++(qR ([Z]:List Int))))
      else none
     else
      if (((decide (Z<(32:Int)))||(decide (Z=(127:Int))))&&(decide (O=(3:Int))))=true then
       (MF Z (4:Int)).bind fun aD=>
       if ((([92,117]:List UInt8)++((GI ([48]:List UInt8) ((4:Int)- (List.length (tX (IntKind.wrap .i64 Z) (16:Int)):Int)))++(tX (IntKind.wrap .i64 Z) (16:Int)))).length:Int)≤9223372036854775807 then
        some ((([92,117]:List UInt8)++((GI ([48]:List UInt8) ((4:Int)- (List.length (tX (IntKind.wrap .i64 Z) (16:Int)):Int)))++(tX (IntKind.wrap .i64 Z) (16:Int)))))
       else none
      else
       if ((decide (Z<(32:Int)))||(decide (Z=(127:Int))))=true then
        (MF Z (2:Int)).bind fun aE=>
        if ((([92,120]:List UInt8)++((GI ([48]:List UInt8) ((2:Int)- (List.length (tX (IntKind.wrap .i64 Z) (16:Int)):Int)))++(tX (IntKind.wrap .i64 Z) (16:Int)))).length:Int)≤9223372036854775807 then
         some ((([92,120]:List UInt8)++((GI ([48]:List UInt8) ((2:Int)- (List.length (tX (IntKind.wrap .i64 Z) (16:Int)):Int)))++(tX (IntKind.wrap .i64 Z) (16:Int)))))
        else none
       else
        some ((qR ([Z]:List Int)))
section
variable (O:Int) (Z:Int) (aA:Bool)
@[reducible] def a2d:List Slot:=[(.val (.int .i64) O,none),(.val (.int .u8) Z,none),(.val .bool aA,none)]
@[reducible] def a2e:List Blk:=[]
@[go_sem] def a2f:Ret:=⟨[((DA O Z aA)).isSome=true],[(.val .str (val (DA O Z aA)),none)],[]⟩
def aBO:List Slot→List Blk→Option Ret:=pV (V:=(Int×Int×Bool)) (fun x=>a2d x.1 x.2.1 x.2.2) (fun x=>a2e) fun x=>a2f x.1 x.2.1 x.2.2
@[go_sem] theorem aNE:aBO (no_index (a2d O Z aA)) (no_index a2e)=some (a2f O Z aA):=pX (fun⟨a0,a1,a2⟩ ⟨b0,b1,b2⟩ h1 h2=>by cases h1;cases h2;rfl) (O,Z,aA)
end
@[reducible,go_sem] def aBP:Nat×Sig:=(166,⟨[.v,.v,.v],aBO,[],[],none⟩)
theorem tE:Env Tryz.prog [yX,qD,yW] (pP [M3,aAN,aAP]):=⟨⟨AC,⟨qG,⟨AA,trivial⟩⟩⟩,pB R6 (pB aIG (pB aIH pW)),pR⟩
theorem aI2:pO Tryz.prog aBP:=by
 refine pY tE Tryz.func166 (c:=_) rfl (N:=64) (by kernel_rfl) (ts:=[(6,none)]) rfl (fun _ _=>rfl) ?_
 intro⟨O,Z,aA⟩ hs hrow
 dsimp only[a2d,a2e,a2f,pS,enumH,pF,pN,pU,Nat.reduceAdd] at hs hrow⊢
 have hz:=hs
 obtain⟨z0,hC0⟩:=Option.isSome_iff_exists.1 hz
 try rw[q8 hC0]
 clear hz hs
 unfold DA at hC0
 refine oZ tE ?_
 refine oZ tE ?_
 refine pA ?_
 refine oZ tE ?_
 obtain⟨aB,hC1,hC0⟩:=p6 hC0
 refine vR (fun s=>s=(fun x=>⟨[(0,(.val (.int .i64) O,none)),(1,(.val (.int .u8) Z,none)),(2,(.val .bool aA,none)),(7,(.val .str x,none))],[],0,64,0⟩) aB) ?_ ?_
 ·refine pZ ?_
  refine oZ tE ?_
  refine p9 hC1 (fun hC1 hc1=> ?_) (fun hC1 hc1=> ?_)
  ·refine q7 tE ?_
   refine q9 ?_
   cases hC1
   exact r5 ⟨⟨[0,1,2,7],[]⟩,by rfl⟩
  ·refine oZ tE ?_
   refine p9 hC1 (fun hC1 hc2=> ?_) (fun hC1 hc2=> ?_)
   ·refine q7 tE ?_
    refine q9 ?_
    cases hC1
    exact r5 ⟨⟨[0,1,2,7],[]⟩,by rfl⟩
   ·refine oZ tE ?_
    refine p9 hC1 (fun hC1 hc3=> ?_) (fun hC1 hc3=> ?_)
    ·refine q7 tE ?_
     refine q9 ?_
     cases hC1
     exact r5 ⟨⟨[0,1,2,7],[]⟩,by rfl⟩
    ·refine pE (q9 ?_)
     cases hC1
     exact r5 ⟨⟨[0,1,2,7],[]⟩,by rfl⟩
 ·rintro _ rfl
  dsimp only at hC0⊢
  refine p8 (pA (pZ ?_))
  refine oZ tE ?_
  refine p9 hC0 (fun hC0 hc4=> ?_) (fun hC0 hc4=> ?_)
  ·refine oZ tE ?_
   refine p7 (pQ (pH ?_))
   cases hC0
   exact⟨[],by rfl,by rfl,by rfl⟩
  ·refine oZ tE ?_
   refine p9 hC0 (fun hC0 hc5=> ?_) (fun hC0 hc5=> ?_)
   ·refine oZ tE ?_
    refine p7 (pQ (pH ?_))
    cases hC0
    exact⟨[],by rfl,by rfl,by rfl⟩
   ·refine oZ tE ?_
    refine p9 hC0 (fun hC0 hc6=> ?_) (fun hC0 hc6=> ?_)
    ·refine oZ tE ?_
     refine p7 (pQ (pH ?_))
     cases hC0
     exact⟨[],by rfl,by rfl,by rfl⟩
    ·refine oZ tE ?_
     refine p9 hC0 (fun hC0 hc7=> ?_) (fun hC0 hc7=> ?_)
     ·refine oZ tE ?_
      refine p7 (pQ (pH ?_))
      cases hC0
      exact⟨[],by rfl,by rfl,by rfl⟩
     ·refine pA ?_
      refine oZ tE ?_
      obtain⟨aC,hC1,hC0⟩:=p6 hC0
      refine vR (fun s=>s=(fun x=>⟨[(0,(.val (.int .i64) O,none)),(1,(.val (.int .u8) Z,none)),(27,(.val .bool x,none))],[],0,64,0⟩) aC) ?_ ?_
      ·refine p9 hC1 (fun hC1 hc8=> ?_) (fun hC1 hc8=> ?_)
       ·refine pE ?_
        cases hC1
        exact r5 ⟨⟨[0,1,27],[]⟩,by rfl⟩
       ·refine q7 tE ?_ (hp:=by exact And.intro (fun hh=>qC hh) (And.intro (fun hh=>hh) ((fun hh=>qC hh))))
        cases hC1
        exact r5 ⟨⟨[0,1,27],[]⟩,by rfl⟩
      ·rintro _ rfl
       dsimp only at hC0⊢
       refine p8 ?_
       refine p9 hC0 (fun hC0 hc9=> ?_) (fun hC0 hc9=> ?_)
       ·obtain⟨hg1,hC0⟩:=p5 hC0
        refine oZ tE ?_ (hp:=by exact hg1)
        refine p7 (pQ (pH ?_))
        cases hC0
        exact⟨[],by rfl,by rfl,by rfl⟩
       ·refine oZ tE ?_ (hp:=by exact And.intro (fun hh=>hh) ((fun hh=>qC hh)))
        refine p9 hC0 (fun hC0 hc10=> ?_) (fun hC0 hc10=> ?_)
        ·obtain⟨aD,hv2,hw2,hC0⟩:=pL hC0
         try simp only[go_sem] at hw2
         obtain⟨hg3,hC0⟩:=p5 hC0
         refine oZ tE ?_ (hp:=by exact And.intro (pK hv2) (hg3)) (h:=by simp only[go_sem,hw2];rfl)
         refine p7 (pQ (pH ?_))
         cases hC0
         exact⟨[],by rfl,by rfl,by rfl⟩
        ·refine oZ tE ?_
         refine p9 hC0 (fun hC0 hc11=> ?_) (fun hC0 hc11=> ?_)
         ·obtain⟨aE,hv4,hw4,hC0⟩:=pL hC0
          try simp only[go_sem] at hw4
          obtain⟨hg5,hC0⟩:=p5 hC0
          refine oZ tE ?_ (hp:=by exact And.intro (pK hv4) (hg5)) (h:=by simp only[go_sem,hw4];rfl)
          refine p7 (pQ (pH ?_))
          cases hC0
          exact⟨[],by rfl,by rfl,by rfl⟩
         ·refine pE (q9 (p8 ?_))
          refine oZ tE ?_
          refine p7 ?_
          cases hC0
          exact⟨[],by rfl,by rfl,by rfl⟩
attribute [irreducible] DA
def JD (O:(List Int)):((List UInt8)×Int)→Option (((List UInt8)×Int)⊕(List UInt8)):=fun(Z,aA)=>
 if (decide (aA<(List.length O:Int)))=true then
  if 0≤aA∧aA<(List.length O:Int) then
   if (((decide ((0:Int)≤(pG (.int .i64) O aA)))&&(decide ((pG (.int .i64) O aA)≤(1114111:Int))))&&((decide ((pG (.int .i64) O aA)<(55296:Int)))||(decide ((57343:Int)<(pG (.int .i64) O aA)))))=true then
    if 0≤aA∧aA<(List.length O:Int) then
     (y9 (pG (.int .i64) O aA)).bind fun aB=>
     if ((Z++aB).length:Int)≤9223372036854775807 then
      if p4 (aA+(1:Int)) then
       some (.inl ((Z++aB),(aA+(1:Int))))
      else none
     else none
    else none
   else
    (y9 (65533:Int)).bind fun aC=>
    if ((Z++aC).length:Int)≤9223372036854775807 then
     if p4 (aA+(1:Int)) then
      some (.inl ((Z++aC),(aA+(1:Int))))
     else none
    else none
  else none
 else
  some (.inr Z)
def GW (O:(List Int)):Option (List UInt8):=
 qB (pJ (JD O) (([]:List UInt8),(0:Int))) fun Z=>
 some (Z)
section
variable (O:(List Int))
@[reducible] def a2g:List Slot:=[(.val (.list (.int .i64)) O,none)]
@[reducible] def a2h:List Blk:=[]
@[go_sem] def a2i:Ret:=⟨[((GW O)).isSome=true],[(.val .str (val (GW O)),none)],[]⟩
def aBQ:List Slot→List Blk→Option Ret:=pV (V:=(List Int)) (fun x=>a2g x) (fun x=>a2h) fun x=>a2i x
@[go_sem] theorem aNF:aBQ (no_index (a2g O)) (no_index a2h)=some (a2i O):=pX (fun a0 b0 h1 h2=>by cases h1;cases h2;rfl) O
end
@[reducible,go_sem] def aBR:Nat×Sig:=(171,⟨[.v],aBQ,[],[],none⟩)
theorem AG:Env Tryz.prog [uW,EF] (pP [a0y,a0D]):=⟨⟨vL,⟨IX,trivial⟩⟩,pB aAW (pB aAY pW),pR⟩
theorem aI3:pO Tryz.prog aBR:=by
 refine pY AG Tryz.func171 (c:=_) rfl (N:=27) (by kernel_rfl) (ts:=[(2,none)]) rfl (fun _ _=>rfl) ?_
 intro O hs hrow
 dsimp only[a2g,a2h,a2i,pS,enumH,pF,pN,pU,Nat.reduceAdd] at hs hrow⊢
 have hz:=hs
 obtain⟨z0,hC0⟩:=Option.isSome_iff_exists.1 hz
 try rw[q8 hC0]
 clear hz hs
 unfold GW at hC0
 refine oZ AG ?_
 refine oZ AG ?_
 refine pA ?_
 refine oZ AG ?_
 refine pZ ?_
 obtain⟨Z,hy1,hC0⟩:=p6 hC0
 refine rN 0 (fun s=>s=(fun x=>⟨[(3,(.val .str x,none))],[],0,27,0⟩) Z) ?_ ?_
 ·refine rM hy1 (fun x=>⟨[(0,(.val (.list (.int .i64)) O,none)),(3,(.val .str x.1,none)),(4,(.val (.int .i64) x.2,none))],[],0,27,0⟩) ⟨[0,3,4],[]⟩ (by rfl) ?_
  intro x1 w1 n1 hC1 hN1
  obtain⟨aA,aB⟩:=x1
  unfold JD at hC1
  dsimp only at hC1⊢
  refine pA ?_
  refine oZ AG ?_
  refine p9 hC1 (fun hC1 hc1=> ?_) (fun hC1 hc1=> ?_)
  ·refine pE (p8 (pA (pZ ?_)))
   obtain⟨hg1,hC1⟩:=p5 hC1
   refine oZ AG ?_ (hp:=by exact hg1)
   refine p9 hC1 (fun hC1 hc2=> ?_) (fun hC1 hc2=> ?_)
   ·obtain⟨hg2,hC1⟩:=p5 hC1
    obtain⟨aC,hv3,hw3,hC1⟩:=pL hC1
    try simp only[go_sem] at hw3
    obtain⟨hg4,hC1⟩:=p5 hC1
    refine q7 AG ?_ (hp:=by exact And.intro hg2 (And.intro (pK hv3) (hg4))) (h:=by simp only[go_sem,hw3];rfl)
    refine q9 (p8 ?_)
    obtain⟨hg5,hC1⟩:=p5 hC1
    refine q7 AG ?_ (hp:=by exact hg5)
    cases hC1
    exact qZ ⟨⟨[0,3,4],[]⟩,_,by rfl,hN1⟩
   ·obtain⟨aD,hv6,hw6,hC1⟩:=pL hC1
    try simp only[go_sem] at hw6
    obtain⟨hg7,hC1⟩:=p5 hC1
    refine q7 AG ?_ (hp:=by exact And.intro (pK hv6) (hg7)) (h:=by simp only[go_sem,hw6];rfl)
    refine q9 (p8 ?_)
    obtain⟨hg8,hC1⟩:=p5 hC1
    refine q7 AG ?_ (hp:=by exact hg8)
    cases hC1
    exact qZ ⟨⟨[0,3,4],[]⟩,_,by rfl,hN1⟩
  ·refine rL (rJ (rP ?_))
   cases hC1
   cases hN1
   exact rO ⟨⟨[3],[]⟩,by rfl⟩
 ·rintro _ rfl
  dsimp only at hC0⊢
  refine rK (p8 ?_)
  refine oZ AG ?_
  refine p7 ?_
  cases hC0
  exact⟨[],by rfl,by rfl,by rfl⟩
attribute [irreducible] GW
end
end Go.Proofs.YtbbpilohihldiaaGreatDoor
