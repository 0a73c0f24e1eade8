/- Packed by a program of mine (wip/tools/pack.py): the same texts with short names and few blanks. -/
import Derived.BigCall
import Derived.BigGuard
import Derived.Handy
import Derived.KernelRfl
import Derived.Lib.Hide
import Derived.Lib.ItoaMem
import Derived.Lib.MapLaws
import Derived.Lib.TrimAscii
import Derived.Lib.TrimUEq
import Derived.Lib.ValidLaws
import Derived.LoopIn
import Derived.LoopNIn
import Derived.OwnWalkIn
import Derived.RangeFuncBox
import Derived.RangeFuncLeaves
import Derived.Shelf.Abstract
import Derived.Shelf.Slices.Clone
import Derived.Shelf.Slices.In.SortNone
import Derived.Shelf.Small.Strs
import Derived.Shelf.Small.Utf8
import Derived.Shelf.Sort.Plain
import Derived.Shelf.Spec.SlicesInsertGrow
import Derived.Shelf.Strings.Builder1
import Derived.Shelf.Strings.Repeat
import Derived.Shelf.Strings.Runes
import Derived.Shelf.Strings.Search1
import Derived.Shelf.Strings.Search3
import Derived.Shelf.Strings.SlTrimAscii
import Derived.Shelf.Strings.Trim
import Derived.Shelf.Unicode.DecodeAny
import Derived.Shelf.Unicode.ValidAny
import Derived.TacticsInMore
import Derived.Test.YtbbpilohihldiaaGreatDoorChecked
import Derived.Test.YtbbpilohihldiaaGreatDoorProg
import Derived.WalkKit
import Derived.Test.YtbbpilohihldiaaGreatDoorX01
set_option linter.unusedVariables false
set_option linter.unusedSimpArgs false
set_option linter.unusedSectionVars false
set_option maxRecDepth 100000
set_option maxHeartbeats 4000000
namespace Go.Proofs
open Go.RowKit Go.Lib
def Tryz.lays137_ren:Go.Shelf.Ren:=⟨fun|137=>135|217=>182|266=>222|n=>n,fun|9=>9|5=>5|3=>3|n=>n,fun|n=>n⟩
theorem Tryz.lays137:Go.Proofs.Lays.n137 Tryz.prog Tryz.lays137_ren:={
 mixed:=by kernel_rfl
 f137:=Tryz.func135.trans (aRN some (by kernel_rfl))
 f217:=Tryz.func182.trans (aRN some (by kernel_rfl))
 f266:=Tryz.func222.trans (aRN some (by kernel_rfl))
 t3:=Tryz.underlying3
 a3:=Tryz.isAgg3
 z3:=Tryz.sizeOf3
 v3:=Tryz.zeroValue3
 t5:=Tryz.underlying5
 a5:=Tryz.isAgg5
 z5:=Tryz.sizeOf5
 v5:=Tryz.zeroValue5
 t9:=Tryz.underlying9
 a9:=Tryz.isAgg9
 z9:=Tryz.sizeOf9
 v9:=Tryz.zeroValue9}
def Tryz.lays161_ren:Go.Shelf.Ren:=⟨fun|161=>97|231=>142|227=>143|233=>144|235=>145|228=>187|197=>188|151=>189|260=>223|152=>224|137=>135|119=>260|224=>249|225=>248|217=>182|266=>222|n=>n,fun|9=>9|4=>4|3=>3|5=>5|117=>179|116=>178|0=>0|124=>182|105=>214|21=>21|119=>254|46=>219|139=>257|138=>256|n=>n,fun|3=>1|4=>2|n=>n⟩
theorem Tryz.lays161:Go.Proofs.Lays.n161 Tryz.prog Tryz.lays161_ren:={
 mixed:=by kernel_rfl
 f119:=Tryz.func260.trans (aRN some (by kernel_rfl))
 f137:=Tryz.func135.trans (aRN some (by kernel_rfl))
 f151:=Tryz.func189.trans (aRN some (by kernel_rfl))
 f152:=Tryz.func224.trans (aRN some (by kernel_rfl))
 f161:=Tryz.func97.trans (aRN some (by kernel_rfl))
 f197:=Tryz.func188.trans (aRN some (by kernel_rfl))
 f217:=Tryz.func182.trans (aRN some (by kernel_rfl))
 f224:=Tryz.func249.trans (aRN some (by kernel_rfl))
 f225:=Tryz.func248.trans (aRN some (by kernel_rfl))
 f227:=Tryz.func143.trans (aRN some (by kernel_rfl))
 f228:=Tryz.func187.trans (aRN some (by kernel_rfl))
 f231:=Tryz.func142.trans (aRN some (by kernel_rfl))
 f233:=Tryz.func144.trans (aRN some (by kernel_rfl))
 f235:=Tryz.func145.trans (aRN some (by kernel_rfl))
 f260:=Tryz.func223.trans (aRN some (by kernel_rfl))
 f266:=Tryz.func222.trans (aRN some (by kernel_rfl))
 t0:=Tryz.underlying0
 a0:=Tryz.isAgg0
 z0:=Tryz.sizeOf0
 v0:=Tryz.zeroValue0
 t3:=Tryz.underlying3
 a3:=Tryz.isAgg3
 z3:=Tryz.sizeOf3
 v3:=Tryz.zeroValue3
 t4:=Tryz.underlying4
 a4:=Tryz.isAgg4
 z4:=Tryz.sizeOf4
 v4:=Tryz.zeroValue4
 t5:=Tryz.underlying5
 a5:=Tryz.isAgg5
 z5:=Tryz.sizeOf5
 v5:=Tryz.zeroValue5
 t9:=Tryz.underlying9
 a9:=Tryz.isAgg9
 z9:=Tryz.sizeOf9
 v9:=Tryz.zeroValue9
 t21:=Tryz.underlying21
 a21:=Tryz.isAgg21
 z21:=Tryz.sizeOf21
 v21:=Tryz.zeroValue21
 t46:=Tryz.underlying219
 a46:=Tryz.isAgg219
 z46:=Tryz.sizeOf219
 v46:=Tryz.zeroValue219
 t105:=Tryz.underlying214
 a105:=Tryz.isAgg214
 z105:=Tryz.sizeOf214
 v105:=Tryz.zeroValue214
 t116:=Tryz.underlying178
 a116:=Tryz.isAgg178
 z116:=Tryz.sizeOf178
 t117:=Tryz.underlying179
 a117:=Tryz.isAgg179
 z117:=Tryz.sizeOf179
 v117:=Tryz.zeroValue179
 t119:=Tryz.underlying254
 a119:=Tryz.isAgg254
 z119:=Tryz.sizeOf254
 t124:=Tryz.underlying182
 a124:=Tryz.isAgg182
 z124:=Tryz.sizeOf182
 v124:=Tryz.zeroValue182
 t138:=Tryz.underlying256
 a138:=Tryz.isAgg256
 z138:=Tryz.sizeOf256
 v138:=Tryz.zeroValue256
 t139:=Tryz.underlying257
 a139:=Tryz.isAgg257
 z139:=Tryz.sizeOf257
 v139:=Tryz.zeroValue257
 g3:=by kernel_rfl
 g4:=by kernel_rfl}
def Tryz.lays190_ren:Go.Shelf.Ren:=⟨fun|190=>147|125=>192|258=>191|128=>234|129=>235|302=>225|303=>226|304=>227|305=>228|306=>229|307=>230|308=>231|309=>232|310=>233|333=>261|329=>262|330=>263|334=>264|335=>265|336=>266|344=>279|n=>n,fun|31=>23|9=>9|3=>3|46=>219|0=>0|51=>241|53=>243|4=>4|183=>235|182=>234|131=>57|5=>5|218=>258|222=>262|228=>272|229=>224|n=>n,fun|n=>n⟩
theorem Tryz.lays190:Go.Proofs.Lays.n190 Tryz.prog Tryz.lays190_ren:={
 mixed:=by kernel_rfl
 f125:=Tryz.func192.trans (aRN some (by kernel_rfl))
 f128:=Tryz.func234.trans (aRN some (by kernel_rfl))
 f129:=Tryz.func235.trans (aRN some (by kernel_rfl))
 f190:=Tryz.func147.trans (aRN some (by kernel_rfl))
 f258:=Tryz.func191.trans (aRN some (by kernel_rfl))
 f302:=Tryz.func225.trans (aRN some (by kernel_rfl))
 f303:=Tryz.func226.trans (aRN some (by kernel_rfl))
 f304:=Tryz.func227.trans (aRN some (by kernel_rfl))
 f305:=Tryz.func228.trans (aRN some (by kernel_rfl))
 f306:=Tryz.func229.trans (aRN some (by kernel_rfl))
 f307:=Tryz.func230.trans (aRN some (by kernel_rfl))
 f308:=Tryz.func231.trans (aRN some (by kernel_rfl))
 f309:=Tryz.func232.trans (aRN some (by kernel_rfl))
 f310:=Tryz.func233.trans (aRN some (by kernel_rfl))
 f329:=Tryz.func262.trans (aRN some (by kernel_rfl))
 f330:=Tryz.func263.trans (aRN some (by kernel_rfl))
 f333:=Tryz.func261.trans (aRN some (by kernel_rfl))
 f334:=Tryz.func264.trans (aRN some (by kernel_rfl))
 f335:=Tryz.func265.trans (aRN some (by kernel_rfl))
 f336:=Tryz.func266.trans (aRN some (by kernel_rfl))
 f344:=Tryz.func279.trans (aRN some (by kernel_rfl))
 t0:=Tryz.underlying0
 a0:=Tryz.isAgg0
 z0:=Tryz.sizeOf0
 v0:=Tryz.zeroValue0
 t3:=Tryz.underlying3
 a3:=Tryz.isAgg3
 z3:=Tryz.sizeOf3
 v3:=Tryz.zeroValue3
 t4:=Tryz.underlying4
 a4:=Tryz.isAgg4
 z4:=Tryz.sizeOf4
 v4:=Tryz.zeroValue4
 t5:=Tryz.underlying5
 a5:=Tryz.isAgg5
 z5:=Tryz.sizeOf5
 v5:=Tryz.zeroValue5
 t9:=Tryz.underlying9
 a9:=Tryz.isAgg9
 z9:=Tryz.sizeOf9
 v9:=Tryz.zeroValue9
 t31:=Tryz.underlying23
 a31:=Tryz.isAgg23
 z31:=Tryz.sizeOf23
 v31:=Tryz.zeroValue23
 t46:=Tryz.underlying219
 a46:=Tryz.isAgg219
 z46:=Tryz.sizeOf219
 v46:=Tryz.zeroValue219
 t51:=Tryz.underlying241
 a51:=Tryz.isAgg241
 z51:=Tryz.sizeOf241
 v51:=Tryz.zeroValue241
 t53:=Tryz.underlying243
 a53:=Tryz.isAgg243
 z53:=Tryz.sizeOf243
 v53:=Tryz.zeroValue243
 t131:=Tryz.underlying57
 a131:=Tryz.isAgg57
 z131:=Tryz.sizeOf57
 v131:=Tryz.zeroValue57
 t182:=Tryz.underlying234
 a182:=Tryz.isAgg234
 z182:=Tryz.sizeOf234
 v182:=Tryz.zeroValue234
 t183:=Tryz.underlying235
 a183:=Tryz.isAgg235
 z183:=Tryz.sizeOf235
 v183:=Tryz.zeroValue235
 t218:=Tryz.underlying258
 a218:=Tryz.isAgg258
 z218:=Tryz.sizeOf258
 v218:=Tryz.zeroValue258
 t222:=Tryz.underlying262
 a222:=Tryz.isAgg262
 z222:=Tryz.sizeOf262
 v222:=Tryz.zeroValue262
 t228:=Tryz.underlying272
 a228:=Tryz.isAgg272
 z228:=Tryz.sizeOf272
 v228:=Tryz.zeroValue272
 t229:=Tryz.underlying224
 a229:=Tryz.isAgg224
 z229:=Tryz.sizeOf224
 v229:=Tryz.zeroValue224}
def Tryz.lays196_ren:Go.Shelf.Ren:=⟨fun|196=>243|259=>271|n=>n,fun|0=>0|3=>3|4=>4|5=>5|9=>9|12=>12|46=>219|53=>243|119=>254|138=>256|139=>257|n=>n,fun|3=>1|4=>2|n=>n⟩
theorem Tryz.lays196:Go.Proofs.Lays.n196 Tryz.prog Tryz.lays196_ren:={
 mixed:=by kernel_rfl
 f196:=Tryz.func243.trans (aRN some (by kernel_rfl))
 f259:=Tryz.func271.trans (aRN some (by kernel_rfl))
 t0:=Tryz.underlying0
 a0:=Tryz.isAgg0
 z0:=Tryz.sizeOf0
 v0:=Tryz.zeroValue0
 t3:=Tryz.underlying3
 a3:=Tryz.isAgg3
 z3:=Tryz.sizeOf3
 v3:=Tryz.zeroValue3
 t4:=Tryz.underlying4
 a4:=Tryz.isAgg4
 z4:=Tryz.sizeOf4
 v4:=Tryz.zeroValue4
 t5:=Tryz.underlying5
 a5:=Tryz.isAgg5
 z5:=Tryz.sizeOf5
 v5:=Tryz.zeroValue5
 t9:=Tryz.underlying9
 a9:=Tryz.isAgg9
 z9:=Tryz.sizeOf9
 v9:=Tryz.zeroValue9
 t12:=Tryz.underlying12
 a12:=Tryz.isAgg12
 z12:=Tryz.sizeOf12
 v12:=Tryz.zeroValue12
 t46:=Tryz.underlying219
 a46:=Tryz.isAgg219
 z46:=Tryz.sizeOf219
 v46:=Tryz.zeroValue219
 t53:=Tryz.underlying243
 a53:=Tryz.isAgg243
 z53:=Tryz.sizeOf243
 v53:=Tryz.zeroValue243
 t119:=Tryz.underlying254
 a119:=Tryz.isAgg254
 z119:=Tryz.sizeOf254
 t138:=Tryz.underlying256
 a138:=Tryz.isAgg256
 z138:=Tryz.sizeOf256
 v138:=Tryz.zeroValue256
 t139:=Tryz.underlying257
 a139:=Tryz.isAgg257
 z139:=Tryz.sizeOf257
 v139:=Tryz.zeroValue257
 g3:=by kernel_rfl
 g4:=by kernel_rfl}
def Tryz.lays240_ren:Go.Shelf.Ren:=⟨fun|240=>93|276=>133|n=>n,fun|0=>0|4=>4|9=>9|20=>20|70=>82|72=>84|164=>168|37=>42|n=>n,fun|n=>n⟩
theorem Tryz.lays240:Go.Proofs.Lays.n240 Tryz.prog Tryz.lays240_ren:={
 mixed:=by kernel_rfl
 f240:=Tryz.func93.trans (aRN some (by kernel_rfl))
 f276:=Tryz.func133.trans (aRN some (by kernel_rfl))
 t0:=Tryz.underlying0
 a0:=Tryz.isAgg0
 z0:=Tryz.sizeOf0
 v0:=Tryz.zeroValue0
 t4:=Tryz.underlying4
 a4:=Tryz.isAgg4
 z4:=Tryz.sizeOf4
 v4:=Tryz.zeroValue4
 t9:=Tryz.underlying9
 a9:=Tryz.isAgg9
 z9:=Tryz.sizeOf9
 v9:=Tryz.zeroValue9
 t20:=Tryz.underlying20
 a20:=Tryz.isAgg20
 z20:=Tryz.sizeOf20
 v20:=Tryz.zeroValue20
 t70:=Tryz.underlying82
 a70:=Tryz.isAgg82
 z70:=Tryz.sizeOf82
 v70:=Tryz.zeroValue82
 t72:=Tryz.underlying84
 a72:=Tryz.isAgg84
 z72:=Tryz.sizeOf84
 v72:=Tryz.zeroValue84
 t164:=Tryz.underlying168
 a164:=Tryz.isAgg168
 z164:=Tryz.sizeOf168
 v164:=Tryz.zeroValue168}
theorem Tryz.builderX72:Builder.X72 Tryz.prog Tryz.lays240_ren:={
 sizeBuilder:=by kernel_rfl
 liesBuilder:=by kernel_rfl}
def Tryz.lays169_ren:Go.Shelf.Ren:=⟨fun|169=>54|n=>n,fun|70=>82|9=>9|0=>0|72=>84|37=>42|127=>125|3=>3|5=>5|n=>n,fun|n=>n⟩
theorem Tryz.lays169:Go.Proofs.Lays.n169 Tryz.prog Tryz.lays169_ren:={
 mixed:=by kernel_rfl
 f169:=Tryz.func54.trans (aRN some (by kernel_rfl))
 t0:=Tryz.underlying0
 a0:=Tryz.isAgg0
 z0:=Tryz.sizeOf0
 v0:=Tryz.zeroValue0
 t3:=Tryz.underlying3
 a3:=Tryz.isAgg3
 z3:=Tryz.sizeOf3
 v3:=Tryz.zeroValue3
 t9:=Tryz.underlying9
 a9:=Tryz.isAgg9
 z9:=Tryz.sizeOf9
 v9:=Tryz.zeroValue9
 t37:=Tryz.underlying42
 a37:=Tryz.isAgg42
 z37:=Tryz.sizeOf42
 v37:=Tryz.zeroValue42
 t70:=Tryz.underlying82
 a70:=Tryz.isAgg82
 z70:=Tryz.sizeOf82
 v70:=Tryz.zeroValue82
 t72:=Tryz.underlying84
 a72:=Tryz.isAgg84
 z72:=Tryz.sizeOf84
 v72:=Tryz.zeroValue84
 t127:=Tryz.underlying125
 a127:=Tryz.isAgg125
 z127:=Tryz.sizeOf125
 v127:=Tryz.zeroValue125}
theorem Tryz.builderExtra:Builder.Extra Tryz.prog Tryz.lays169_ren:={
 sizeBuilder:=by kernel_rfl
 liesBuilder:=by kernel_rfl
 t5:=Tryz.underlying5
 a5:=Tryz.isAgg5
 z5:=Tryz.sizeOf5
 v5:=Tryz.zeroValue5
 infoByte:=by kernel_rfl
 cellsByte:=by kernel_rfl
 sizeByte:=by kernel_rfl
 neB5:=by decide}
end Go.Proofs
namespace Go.Proofs.YtbbpilohihldiaaGreatDoor
open Vc Go.RowKit
theorem aJE {g:Gh}{w w':World}(hH:rZ g w (qE 0 [])) (hb:Below w.heap.size w w'):rZ g w' (qE 0 []):=
 ⟨fun _ _ h=>(by cases h),fun _ _ _ _ _ _ _ h=>(by cases h),fun b o h=>aRX (hH.sl b o h) hb.size,⟨NT hH.tab.1 hb.size fun b h=>hb.block b (aRX h hH.tab.1.1),fun _ _ _ _ h=>(by cases h)⟩⟩
theorem LW {P:Program}{f:FuncId}{C:List pR->List pQ->Option pX}(hen: ∀args w,(callFunc f args).run P w= .ok (.enter f args) w)
  (h: ∀(g:Gh) (w:World) (args:List pR) (vals:List Value) (L:List pQ) (r:pX),IK w->v8 g w args vals->C args L=some r->(∀p∈r.side,p)->
   L=[]/\r.H=[]/\Calls P f vals.toArray w (fun e w'=> ∃v,e= .returned v/\Below w.heap.size w w'/\OU g w' r.ret v)):zE P f C:=by
 refine⟨hen,fun g w args vals L r hH ha hC hs=> ?_⟩;obtain⟨rfl,hr,hc⟩:=h g w args vals L r hH.tab.1 ha hC hs;refine hc.mono fun e w' ⟨v,he,hb,hv⟩=>⟨v,g,he,⟨fun b o h=>⟨h,hb.cell (p:=⟨b,o,none⟩) (hH.sl b o h)⟩,by rw[hr];exact aJE hH hb,hv,⟨hb.os,hb.tape,hb.output,hb.size,fun b h _=>hb.block b h,fun b o h _=>⟨hb.cell (p:=⟨b,o,none⟩) h,hb.frozen (p:=⟨b,o,none⟩) h⟩,fun b o h=> .inl h,fun b s h=> .inl ((CT (hb.block b (CS h))).trans h)⟩,(fun i blk b o h=>by rw[hr] at h;cases h),(fun i t x ts h=>by cases h),(fun i t x ts u y us h=>by cases h),(fun _ _ _ h=>h),(fun _ _ _ _ h=>h)⟩⟩
theorem aJF {P:Program}{f:FuncId}{vals:Array Value}{w:World}{Q:Ending->Prop}(h:Calls P f vals w fun e w'=>Q e/\w'=w):Calls P f vals w fun e w'=>Q e/\Below w.heap.size w w':=
 h.mono fun e w' ⟨h1,h2⟩=>⟨h1,by rw[h2];exact Below.refl _ _⟩
def uX (s:List UInt8) (c:Int):Int:=Lib.indexByte s (Int.toNat c).toUInt8
@[go_sem] def a0c:List pR->List pQ->Option pX
 |[(.val .str O,none),(.val (.int .u8) Z,none)],[]=>some ⟨[],[(.val (.int .i64) (uX O Z),none)],[]⟩
 |_,_=>none
theorem aJG:zE Tryz.prog 135 a0c:=by
 refine LW (fun _ _=>rfl) fun g w args vals L r hT ha hC hs=> ?_;unfold a0c at hC;split at hC
 ·rename_i s c;cases hC;obtain⟨va,_,rfl,ra,vb,_,rfl,rb,hv⟩:=ha;obtain rfl:=y9 ra.1;obtain rfl:=vL rb.1;cases hv;exact⟨rfl,rfl,(aJF (Any.strings_IndexByte Tryz.lays137 ⟨List.toArray s⟩ c w)).mono fun e w' ⟨he,hb⟩=>⟨_,he,hb,wH _ _ _ _,trivial⟩⟩
 ·cases hC
@[go_sem] def a0d:List pR->List pQ->Option pX
 |[(.val .str O,none),(.val .str Z,none)],[]=>some ⟨[(List.all Z fun b=>decide (b.toNat<128))=true/\List.length Z<4294967281],[(.val .str (Lib.trimLeftS O Z),none)],[]⟩
 |_,_=>none
theorem aJH:zE Tryz.prog 97 a0d:=by
 refine LW (fun _ _=>rfl) fun g w args vals L r hT ha hC hs=> ?_;unfold a0d at hC;split at hC
 ·rename_i s c;cases hC;obtain⟨h1,h2⟩:=hs _ aRB;obtain⟨va,_,rfl,ra,vb,_,rfl,rb,hv⟩:=ha;obtain rfl:=y9 ra.1;obtain rfl:=y9 rb.1;cases hv;exact⟨rfl,rfl,(Any.strings_TrimLeft_laid Tryz.lays161 (by kernel_rfl) ⟨List.toArray s⟩ ⟨List.toArray c⟩ w h2 (ascii_of_all h1)).mono fun e w' ⟨he,hb⟩=>⟨_,he,hb,DT _ _ _,trivial⟩⟩
 ·cases hC
@[go_sem] def a0e:List pR->List pQ->Option pX
 |[(.val .str O,none)],[]=>some ⟨[List.length O<=9223372036854775807],[(.val .bool (Lib.validD O),none)],[]⟩
 |_,_=>none
theorem aJI:zE Tryz.prog 243 a0e:=by
 refine LW (fun _ _=>rfl) fun g w args vals L r hT ha hC hs=> ?_;unfold a0e at hC;split at hC
 ·rename_i s;cases hC;have h1:=hs _ aRB;obtain⟨va,_,rfl,ra,hv⟩:=ha;obtain rfl:=y9 ra.1;cases hv;exact⟨rfl,rfl,(Any.utf8_ValidString Tryz.lays196 ⟨List.toArray s⟩ w h1 hT.2.1).mono fun e w' ⟨he,hb⟩=>⟨_,he,hb,w9 _ _ _,trivial⟩⟩
 ·cases hC
@[go_sem] def noC:List pR->List pQ->Option pX:=fun _ _=>none
def sQ (l:List (List UInt8)):List (List UInt8):=l.mergeSort fun x y=>decide (x<=y)
@[go_sem] def aAY:(t:Ty)->List t.den->Option (List t.den)
 | .str,l=>some (sQ l)
 |_,_=>none
theorem aAZ {g:Gh}{w:World}: ∀{l:List (List UInt8)}{xs:List Value},sS (Rd g w .str) 1 l xs->xs=l.map Go.Proofs.encStr
 |[],_,h=>h
 |_::_,_,⟨c1,c2,e,_,h2,h3⟩=>by rw[e,show c1=_ from h2,aAZ h3];rfl
theorem aA0 {g:Gh}{w:World}: ∀(l:List (List UInt8)),sS (Rd g w .str) 1 l (l.map Go.Proofs.encStr)
 |[]=>rfl
 |x::l=>⟨[.string ⟨x.toArray⟩],_,rfl,rfl,rfl,aA0 l⟩
theorem aJJ (s:List (List UInt8)) (cur:Array Value) (h:s.length<=cur.size):(Go.Sort.putCells Go.Proofs.encStr 0 s.toArray cur).toList.take s.length=s.map Go.Proofs.encStr:=by
 apply List.ext_getElem
 ·simp [Go.Sort.putCells];omega
 ·intro i h1 h2;have hi:i<s.length:=by simpa using h2
  simp only[Go.Sort.putCells,List.getElem_take,Array.getElem_toList,Array.getElem_mapIdx,List.getElem_map];rw[if_pos (by simp;exact hi)];simp [hi]
theorem aJK:zE Tryz.prog 147 noC/\∀F,some aAY=some F->T7 Tryz.prog 147 F:=by
 refine⟨⟨fun _ _=>rfl,fun g w args vals L r _ _ hC _=>by cases hC⟩,fun F hF=> ?_⟩;cases hF;intro g w e t l l' v n xs hT hown hF hl hn hf;cases t with
 |str=>
  have hf:sQ l=l':=aRl hf;subst hf;subst hl;have hlen:(sQ l).length=l.length:=by simp [sQ]
  obtain⟨hx,⟨rfl,h0⟩ |⟨b,cap,cur,rfl,hb0,hbk,hnc,hcm,hcs,htk⟩⟩:=hown
  ·obtain rfl:l=[]:=aSh.1 h0;refine(Any.slices_Sort_string_none Tryz.lays190 none 0 w).mono ?_;rintro en w' ⟨rfl,rfl⟩;exact⟨rfl,hlen,[],⟨rfl,.inl ⟨rfl,rfl⟩⟩,by simp [sQ,sS],⟨rfl,rfl,rfl,Nat.le_refl _,fun _ _ _=>rfl⟩⟩
  ·have hxs:=aAZ hF;subst hxs;have hc1:(Ty.str).cells=1:=rfl;rw[hc1,aTp] at hcs htk;have hbl:b<w.heap.size:=by
    rcases aSw b w.heap.size with h|h
    ·exact h
    ·rw[Array.getElem?_eq_none h] at hbk;cases hbk
   have hH:Go.Sort.Holds Go.Proofs.encStr w b 0 l.toArray:=by
    intro j hj;have hj':j<l.length:=by simpa using hj
    refine⟨?_,Lib.frozen_of_heap hbk _⟩;rw[Lib.cell_of_heap hbk,aRR];have h2:(cur.toList.take l.length)[j]? =(l.map Go.Proofs.encStr)[j]? :=by rw[htk]
    rw[aTk hj',aSt] at h2;rw[h2];simp [hj']
   refine(Any.slices_Sort_string Tryz.lays190 b 0 cap l w hH hbl hn).mono ?_;rintro en w' ⟨rfl,m,os,rfl⟩;have hsz:(sQ l).length<=cur.size:=by rw[hlen,hcs];exact hnc
   have hnew:(Go.Sort.grow (Go.Sort.putRow Go.Proofs.encStr (Go.Sort.ahead w m) b 0 (sQ l).toArray) os).heap[b]? =some (.cells (Go.Sort.putCells Go.Proofs.encStr 0 (sQ l).toArray cur) e (0,0)):=by
    rw[Go.Sort.heap_grow_old _ _ (by simpa using hbl)];simp [Go.Sort.putRow,Go.Sort.mapBlock,aSN,hbk,Go.Sort.onCells]
   refine⟨rfl,hlen,(sQ l).map Go.Proofs.encStr,⟨by simp [hlen,hc1],.inr ⟨b,cap,_,rfl,hb0,hnew,hnc,hcm,?_,?_⟩⟩,aA0 _,⟨rfl,rfl,rfl,by simp,fun k hk hne=> ?_⟩⟩
   ·rw[hc1,aTp];simpa[Go.Sort.putCells] using hcs
   ·rw[hc1,aTp,<-hlen];exact aJJ _ _ hsz
   ·rw[Go.Sort.heap_grow_old _ _ (by simpa using hk)];have hkb:b≠k:=fun h=>hne (by rw[h];rfl);simp [Go.Sort.putRow,Go.Sort.mapBlock,aSN,hkb]
 |_=>cases hf
@[go_sem] def a0f:List pR->List pQ->Option pX
 |[(.val .ref (some (0,0)),none)],[.cells (.pair .mref (.pair (.list (.int .u8)) .unit)) ((some (0,0)),O) [(1,1)],.grow Z 1 aA]=>some ⟨[aA=List.length O.1],[],[.cells (.pair .mref (.pair (.list (.int .u8)) .unit)) ((some (0,0)),O) [(1,1)],.grow Z 1 aA]⟩
 |_,_=>none
theorem aJL {g:Gh}{w:World}{L:List pQ}{e:pY}{w':World}{u v:Value}{r:pX}(hE:rS g w (qE 0 L) e g w' u)
  (hH: ∀i,pT (qE 0 r.H) i=pT (qG e.upd (qE 0 L)) i) (hin: ∀i,i∈pU e.upd->i<L.length) (hlen:r.H.length=L.length)
  (hp: ∀i blk b o,r.H[i]? =some blk->rP g i blk b o->w.heap.size<=b\/yQ g (qE 0 L) b o)
  (hty: ∀(i:Nat) t x ts u y us,L[i]? =some (.cells t x ts)->r.H[i]? =some (.cells u y us)->u=t)
  (hret:OU g w' r.ret v):J9 g w L r g w' v:=
 ⟨fun b o h=>⟨h,hE.le.cell b o h⟩,hE.heap.ext hH,hret,hE.fr.mono fun b o ⟨i,blk,_,h1,h2⟩=>⟨i,blk,h1,h2⟩,hp,fun _ _ _ _ _=>rfl,hty,fun _ _ _ h=>h,fun _ _ _ _ h=>h⟩
theorem aJM {P:Program}{ρ:Go.Shelf.Ren}(L:Lays.n240 P ρ) (X:Builder.X72 P ρ) {e:TypeId}(b:Nat) (w:World) (h0:w.cell? ⟨b,0,none⟩=some (.pointer none)) (hsh:w.shape? b=some (e,2)) (hl:liesAt P P.depth e (2/P.cellsOf e) 0 (ρ.t 72) 1=true) (hfz:w.frozen? ⟨b,0,none⟩=false):
  Calls P (ρ.f 240) #[.pointer (some ⟨b,0,none⟩)] w fun en w'=>en= .returned (.tuple #[])/\w'=w.setCell ⟨b,0,none⟩ (.pointer (some ⟨b,0,none⟩)):=by
 obtain⟨j,hj,hjs⟩:=aRx.1 X.sizeBuilder;have mixed:=L.mixed;have t72:=L.t72;have a72:=L.a72;have z72:=L.z72;have v72:=L.v72;have u72:=aRA L.t72;have t70:=L.t70;have a70:=L.a70;have z70:=L.z70;have v70:=L.v70;have u70:=aRA L.t70;have t9:=L.t9;have a9:=L.a9;have z9:=L.z9;have v9:=L.v9;have u9:=aRA L.t9;have t4:=L.t4;have a4:=L.a4;have z4:=L.z4;have v4:=L.v4;have u4:=aRA L.t4;have t164:=L.t164;have a164:=L.a164;have z164:=L.z164;have v164:=L.v164;have u164:=aRA L.t164
 go_enter L.f240,Body.n240_ntmps ρ
 go_wp2
 rw[Lib.run_to_unsafe w ⟨b,0,none⟩ L.t70 L.t164 hj (by rw[hjs];decide) hsh (Nat.zero_lt_succ 1)];simp only[Result.andThen];rw[Oper.upon_value]
 go_wp2
 rw[run_callFunc_extern L.f276 (by kernel_rfl) (by kernel_rfl) (by kernel_rfl) (e:=Extern.AbiNoEscape.same) (by kernel_rfl)];rw[Lib.run_noEscape];simp only[Result.andThen];rw[Oper.upon_value]
 go_wp2
 rw[Lib.run_from_unsafe w ⟨b,0,none⟩ L.t164 L.t70 hj hsh hl];simp only[Result.andThen];rw[Oper.upon_value]
 go_wp2
 go_end0
 exact⟨rfl,rfl⟩
theorem aJN:zE Tryz.prog 93 a0f:=by
 refine⟨fun _ _=>rfl,fun g w args vals L r hH ha hC hs=> ?_⟩;unfold a0f at hC;split at hC
 ·rename_i O Z aA;cases hC;obtain⟨va,_,rfl,ra,hv⟩:=ha;cases hv;have hg0:pT (qE 0 [pQ.cells (.pair .mref (.pair (.list (.int .u8)) .unit)) ((some (0,0)),O) [(1,1)],.grow Z 1 aA]) 0=some (.cells (.pair .mref (.pair (.list (.int .u8)) .unit)) ((some (0,0)),O) [(1,1)]):=rfl;obtain⟨p,cs,hJ,hR,hra,hth,hns,htk⟩:=hH.blk 0 _ hg0;obtain⟨c1,c2,rfl,hR1,hR2⟩:=hR;obtain⟨p',hJ',⟨hp0,eb,heb,hk3⟩,hc1⟩:=hR1;rw[hJ] at hJ';obtain rfl:=aRl hJ';obtain⟨b,o,k⟩:=p;have ho:o=0:=by simpa using hp0
  subst ho;have hlies:liesAt Tryz.prog Tryz.prog.depth eb (2/Tryz.prog.cellsOf eb) 0 84 1=true:=by
   unfold X6 at heb;split at heb
   ·rename_i h;subst h;kernel_rfl
   ·split at heb
    ·rename_i h;subst h;kernel_rfl
    ·cases heb
  have hva:va= .pointer (some ⟨b,0,none⟩):=by
   obtain⟨q,hq,e⟩:=yP ra.1;rw[hJ] at hq;cases hq;exact e
  subst hva;have hsh:w.shape? b=some (eb,2):=hth.2 (by decide) _ hk3;rcases hc1 with rfl|rfl
  ·have h0:w.cell? ⟨b,0,none⟩=some (.pointer none)/\w.frozen? ⟨b,0,none⟩=false:=⟨hra 0 _ rfl,(hth.1 0 (by decide)).2⟩;refine(aJM Tryz.lays240 Tryz.builderX72 b w h0.1 hsh hlies h0.2).mono ?_;rintro en w' ⟨rfl,rfl⟩;refine⟨_,g,rfl,?_⟩;have hE:=rS.store (side:=[]) (rds:=[]) hH (i:=0) (t:= .mref) (y:=some (0,0)) (off:=0) (k:=none) (p:=⟨b,0,k⟩) (cy:=[.pointer (some ⟨b,0,none⟩)]) (v:= .pointer (some ⟨b,0,none⟩)) hg0 hJ (z:=((some (0,0)),O)) (by rfl) ⟨_,hJ,⟨rfl,_,heb,hk3⟩,.inr rfl⟩ trivial (fun _ _ h=>by cases h) (fun _=>rfl);refine aJL hE.1 ?_ ?_ rfl ?_ ?_ ?_
   ·intro i
    match i with
    |0=>rfl
    |1=>rfl
    |i+2=>rfl
   ·intro i hi;simp [pU] at hi;subst hi;exact Nat.zero_lt_succ _
   ·intro i blk b o hi ho;exact .inr ⟨i,blk,by rw[T6];simpa using hi,ho⟩
   ·intro i t x ts u y us h1 h2;rw[h1] at h2;cases h2;rfl
   ·exact⟨[],rfl,rfl⟩
  ·have h0:w.cell? ⟨b,0,none⟩=some (.pointer (some ⟨b,0,none⟩)):=hra 0 _ rfl;refine(Any.Builder_copyCheck_used Tryz.lays240 Tryz.builderX72 b w h0).mono ?_;rintro en w' ⟨rfl,rfl⟩;refine⟨_,g,rfl,⟨fun b o h=>⟨h,rfl⟩,hH,⟨[],rfl,rfl⟩,Fr.refl _ _ _,?_,fun _ _ _ _ _=>rfl,?_,fun _ _ _ h=>h,fun _ _ _ _ h=>h⟩⟩
   ·intro i blk b o hi ho;exact .inr ⟨i,blk,by rw[T6];simpa using hi,ho⟩
   ·intro i t x ts u y us h1 h2;rw[h1] at h2;cases h2;rfl
 ·cases hC
theorem aA1 {P:Program}(w:World): ∀(l:List Int) (a:Addr) (acc:ByteArray),(∀j x,l[j]? =some x->w.cell? (a.add j)=some (.int .u8 x))->
  (loadBytes a acc l.length).run P w= .ok ⟨acc.data++(sI l).toArray⟩ w
 |[],a,acc,_=>by simp [loadBytes,sI]
 |x::l,a,acc,h=>by
  have h0:w.cell? a=some (.int .u8 x):=by
   have:=h 0 x rfl;simpa[Addr.add] using this
  have ih:=aA1 (P:=P) w l (a.add 1) (acc.push (UInt8.ofNat x.toNat)) (fun j y hy=>by
   have:=h (j+1) y (by simpa using hy);have e:(a.add 1).add j=a.add (j+1):=by
    unfold Addr.add;by_cases hj:j=0
    ·subst hj;simp
    ·simp [hj];omega
   rw[e];exact this)
  have hx:x.toNat.toUInt8=UInt8.ofNat x.toNat:=rfl;simp only[aRj,loadBytes,aRw,run_load,h0,Result.andThen,hx];rw[ih];congr 1;apply ByteArray.ext;simp [ByteArray.push,sI]
theorem aJO {P:Program}(w:World) (pt it ty e:TypeId) (hp:P.underlying pt=some (.pointer e)) (hc:P.cellsOf e=1) (g cells:Nat) (hsh:w.shape? g=some (e,cells)) (l:List Int) (h0:l≠[]) (hn:l.length<=cells) (h63:l.length<=9223372036854775807)
  (hcell: ∀j x,l[j]? =some x->w.cell? ((⟨g,0,none⟩:Addr).add j)=some (.int .u8 x)):
  (Builtin.unsafeString_ #[pt,it] ty #[.pointer (some ⟨g,0,none⟩),.int .i64 l.length]).run P w= .ok (.string ⟨(sI l).toArray⟩) (w.freeze ⟨g,0,none⟩ l.length):=by
 have hl:l.length≠0:=by simpa using h0
 have hlb:=aA1 (P:=P) w l ⟨g,0,none⟩ .empty hcell;have hlies:=Lib.liesAt_bytes (P:=P) hc (cells/P.cellsOf e) l.length (by rw[hc];simpa using hn);have h63': ¬(9223372036854775807:Int)<(l.length:Int):=by omega
 have hdef:Builtin.unsafeString_ #[pt,it] ty #[.pointer (some ⟨g,0,none⟩),.int .i64 l.length]=
   (do
    let n<-asInt (.int .i64 l.length)
    if n<0 then runtimePanic (.error "unsafe.String: len out of range")
    if n>IntKind.i64.max then unsupported (.unsafePointer "String: a length above the largest int")
    if n=0 then pure (.string .empty)
    else if<-variablesAt ⟨g,0,none⟩ (<-elemOf pt) n.toNat then do
     let s<-loadBytes ⟨g,0,none⟩ .empty n.toNat
     freeze ⟨g,0,none⟩ n.toNat
     pure (.string s)
    else unsupported (.unsafePointer "String: not so many bytes at ptr")):=rfl
 rw[hdef];have hmax:IntKind.i64.max=9223372036854775807:=rfl;have hneg: ¬(l.length:Int)<0:=by omega
 simp [asInt,asIntOf,hmax,h63',hneg,hl,variablesAt,hsh,elemOf,aRA hp,hlies,hlb]
theorem a0g {P:Program}{ρ:Go.Shelf.Ren}(L:Lays.n169 P ρ) (X:Builder.Extra P ρ) (b n cap:Nat) (a q:Option Addr) (s:ByteArray) (w w2:World)
  (c1:w.drew.cell? ⟨b,1,none⟩=some (.slice a n cap)) (hSD:(Builtin.unsafeSliceData_ #[(ρ.t 37)] (ρ.t 127) #[.slice a n cap]).run P w.drew= .ok (.pointer q) w.drew)
  (hUS:(Builtin.unsafeString_ #[(ρ.t 127),(ρ.t 3)] (ρ.t 9) #[.pointer q,.int .i64 n]).run P w.drew= .ok (.string s) w2):
  Calls P (ρ.f 169) #[.pointer (some ⟨b,0,none⟩)] w fun e w'=>e= .returned (.string s)/\w'=w2:=by
 have mixed:=L.mixed;have t72:=L.t72;have a72:=L.a72;have z72:=L.z72;have v72:=L.v72;have u72:=aRA L.t72;have t70:=L.t70;have a70:=L.a70;have z70:=L.z70;have v70:=L.v70;have u70:=aRA L.t70;have t37:=L.t37;have a37:=L.a37;have z37:=L.z37;have v37:=L.v37;have u37:=aRA L.t37;have t127:=L.t127;have a127:=L.a127;have z127:=L.z127;have v127:=L.v127;have u127:=aRA L.t127;have t3:=L.t3;have a3:=L.a3;have z3:=L.z3;have v3:=L.v3;have u3:=aRA L.t3;have t9:=L.t9;have a9:=L.a9;have z9:=L.z9;have v9:=L.v9;have u9:=aRA L.t9;have t5:=X.t5;have a5:=X.a5;have z5:=X.z5;have v5:=X.v5;have u5:=aRA X.t5
 go_enter L.f169,Body.n169_ntmps ρ
 go_wp2
 go_region_o
 all_goals (go_wp2;go_ret;exact⟨rfl,rfl⟩)
theorem aJP {P:Program}{ρ:Go.Shelf.Ren}(L:Lays.n169 P ρ) (X:Builder.Extra P ρ) (b g:Nat) (cur:Array Value) (w:World) (hlt:b<w.heap.size)
  (c1:w.drew.cell? ⟨b,1,none⟩=some (.slice (some ⟨g,0,none⟩) 0 0)) (hg:w.drew.heap[g]? =some (.cells cur (ρ.t 5) (0,0))):
  Calls P (ρ.f 169) #[.pointer (some ⟨b,0,none⟩)] w fun e w'=>e= .returned (.string ⟨#[]⟩)/\w'=w.drew.alloc (.view ⟨g,0,none⟩ (ρ.t 5)):=by
 have hUS:=Any.unsafeString_none L X;have hSD:(Builtin.unsafeSliceData_ #[(ρ.t 37)] (ρ.t 127) #[.slice (some ⟨g,0,none⟩) 0 0]).run P w.drew= .ok (.pointer (some ⟨w.drew.heap.size,0,none⟩)) (w.drew.alloc (.view ⟨g,0,none⟩ (ρ.t 5))):=
  Lib.run_unsafeSliceData_zero w.drew _ _ (ρ.t 5) L.t127 ⟨g,0,none⟩ 0 ((ρ.t 5),cur.size) (by simp [World.shape?,hg])
 have c2:(w.drew.alloc (.view ⟨g,0,none⟩ (ρ.t 5))).cell? ⟨b,1,none⟩=some (.slice (some ⟨g,0,none⟩) 0 0):=
  (aRF (a:=⟨b,1,none⟩) (Lib.alloc_old w.drew _ b hlt)).trans c1
 have c3:(w.alloc (.view ⟨g,0,none⟩ (ρ.t 5))).drew.cell? ⟨b,1,none⟩=some (.slice (some ⟨g,0,none⟩) 0 0):=c2;have c0:w.cell? ⟨b,1,none⟩=some (.slice (some ⟨g,0,none⟩) 0 0):=c1;have mixed:=L.mixed;have t72:=L.t72;have a72:=L.a72;have z72:=L.z72;have v72:=L.v72;have u72:=aRA L.t72;have t70:=L.t70;have a70:=L.a70;have z70:=L.z70;have v70:=L.v70;have u70:=aRA L.t70;have t37:=L.t37;have a37:=L.a37;have z37:=L.z37;have v37:=L.v37;have u37:=aRA L.t37;have t127:=L.t127;have a127:=L.a127;have z127:=L.z127;have v127:=L.v127;have u127:=aRA L.t127;have t3:=L.t3;have a3:=L.a3;have z3:=L.z3;have v3:=L.v3;have u3:=aRA L.t3;have t9:=L.t9;have a9:=L.a9;have z9:=L.z9;have v9:=L.v9;have u9:=aRA L.t9;have t5:=X.t5;have a5:=X.a5;have z5:=X.z5;have v5:=X.v5;have u5:=aRA X.t5
 go_enter L.f169,Body.n169_ntmps ρ
 go_wp2
 go_region_o
 all_goals (go_wp2;go_ret;exact⟨rfl,rfl⟩)
@[go_sem] def a0h:List pR->List pQ->Option pX
 |[(.val .ref (some (0,0)),none)],[.cells (.pair .mref (.pair (.list (.int .u8)) .unit)) ((some (0,0)),O) [(1,1)],.grow 5 1 Z]=>some ⟨[Z=List.length O.1],[(.val .str (sI O.1),none)],[.cells (.pair .mref (.pair (.list (.int .u8)) .unit)) ((some (0,0)),O) [],.dead]⟩
 |_,_=>none
theorem a0i {g:Gh}{w w':World}{m:Option (Nat×Nat)}{b:(Ty.pair (.list (.int .u8)) .unit).den}{e n:Nat}{s:List UInt8}{sd:List Prop}(hH:rZ g w (qE 0 [pQ.cells (.pair .mref (.pair (.list (.int .u8)) .unit)) (m,b) [(1,1)],.grow e 1 n]))
  (hos:w'.os=w.os) (htape:w'.tape=w.tape) (hout:w'.output=w.output) (hsz:w.heap.size<=w'.heap.size)
  (hcell: ∀b o,b<w.heap.size->w'.cell? ⟨b,o,none⟩=w.cell? ⟨b,o,none⟩) (hshape: ∀b s,w.shape? b=some s->w'.shape? b=some s)
  (hblk: ∀b,b<w.heap.size->(∀o,¬rP g 1 (.grow e 1 n) b o)->w'.heap[b]? =w.heap[b]?):
  J9 g w [pQ.cells (.pair .mref (.pair (.list (.int .u8)) .unit)) (m,b) [(1,1)],.grow e 1 n] ⟨sd,[(.val .str s,none)],[.cells (.pair .mref (.pair (.list (.int .u8)) .unit)) (m,b) [],.dead]⟩ g w' (.string ⟨s.toArray⟩):=by
 have hg0:pT (qE 0 [pQ.cells (.pair .mref (.pair (.list (.int .u8)) .unit)) (m,b) [(1,1)],.grow e 1 n]) 0=some (.cells (.pair .mref (.pair (.list (.int .u8)) .unit)) (m,b) [(1,1)]):=rfl;have hg1:pT (qE 0 [pQ.cells (.pair .mref (.pair (.list (.int .u8)) .unit)) (m,b) [(1,1)],.grow e 1 n]) 1=some (.grow e 1 n):=rfl;have hle:Le g w g w':=⟨fun _ _ h=>h,fun b o h=>hcell b o (hH.sl b o h),fun _ _ h=>h,fun _ _ _ h=>h⟩;have hno: ∀c o,rP g 0 (.cells (.pair .mref (.pair (.list (.int .u8)) .unit)) (m,b) [(1,1)]) c o->∀o',¬rP g 1 (.grow e 1 n) c o':=fun c o h o' h'=>by
  obtain⟨v,hv,hb⟩:=h';exact hH.dis 0 1 _ _ c o (by decide) hg0 hg1 h ⟨v,hv,hb⟩
 obtain⟨p,cs,hJ,hR,hra,hth,hns,htk⟩:=hH.blk 0 _ hg0;have hown0: ∀j,j<2->rP g 0 (.cells (.pair .mref (.pair (.list (.int .u8)) .unit)) (m,b) [(1,1)]) p.1 (p.2+j):=fun j hj=>⟨p,hJ,rfl,Nat.le_add_right _ _,Nat.add_lt_add_left hj _⟩;have hpl:p.1<w.heap.size:=OJ (hH.blk 0 _ hg0) (hown0 0 (by decide));have hpb:w'.heap[p.1]? =w.heap[p.1]? :=hblk p.1 hpl (hno p.1 _ (hown0 0 (by decide)));have hbk0:zA g w' 0 (.cells (.pair .mref (.pair (.list (.int .u8)) .unit)) (m,b) []):=
  ⟨p,cs,hJ,vZ hle hR,fun j v hj=>(hcell _ _ hpl).trans (hra j v hj),⟨fun j hj=>by
   have h1:=hth.1 j hj;rw[hcell _ _ hpl];exact⟨h1.1,(aSj (a:=⟨p.1,p.2+j,none⟩) hpb).trans h1.2⟩,fun h s hs=>hshape _ _ (hth.2 h s hs)⟩,hns,fun _ _ h=>by cases h⟩
 refine⟨fun b o h=>⟨h,hcell b o (hH.sl b o h)⟩,?_,(show qV g w' (.val .str s,none) (.string ⟨s.toArray⟩) from⟨DT _ _ _,trivial⟩),⟨hos,htape,hout,hsz,?_,?_,fun _ _ h=> .inl h,fun b s h=> .inl (hshape b s h)⟩,?_,fun _ _ _ _ _=>rfl,?_,fun _ _ _ h=>h,fun _ _ _ _ h=>h⟩
 ·refine⟨fun i blk h=> ?_,fun i j bi bj c o hij hi hj hoi hoj=> ?_,fun b o h=>aRX (hH.sl b o h) hsz,NT hH.tab.1 hsz (fun c hc=>hblk c (aRX hc hH.tab.1.1) fun o ho=>absurd (hH.tab.2 1 _ c o hg1 ho) (by omega)),fun i blk c o h ho=> ?_⟩
  ·match i,h with
   |0,h=>cases h;exact hbk0
   |1,h=>cases h;trivial
   |i+2,h=>simp [qE,pT] at h
  ·match i,j,hi,hj with
   |0,0,_,_=>exact hij rfl
   |0,1,_,hj=>cases hj;exact hoj
   |1,_,hi,_=>cases hi;exact hoi
   |0,j+2,_,hj=>simp [qE,pT] at hj
   |i+2,_,hi,_=>simp [qE,pT] at hi
  ·match i,h with
   |0,h=>cases h;exact hH.tab.2 0 _ c o hg0 ho
   |1,h=>cases h;exact ho.elim
   |i+2,h=>simp [qE,pT] at h
 ·intro c hc hn;exact hblk c hc fun o ho=>hn o ⟨1,_,hg1,ho⟩
 ·intro c o hc hn;exact⟨hcell c o hc,aSj (a:=⟨c,o,none⟩) (hblk c hc fun o' ho=>hn ⟨1,_,hg1,by obtain⟨v,hv,hb⟩:=ho;exact⟨v,hv,hb⟩⟩)⟩
 ·intro i blk c o hi ho
  match i,hi with
  |0,hi=>cases hi;exact .inr ⟨0,_,hg0,ho⟩
  |1,hi=>cases hi;exact ho.elim
  |i+2,hi=>simp at hi
 ·intro i t x ts u y us h1 h2
  match i,h1,h2 with
  |0,h1,h2=>cases h1;cases h2;rfl
  |1,h1,_=>cases h1
  |i+2,h1,_=>simp at h1
theorem aJQ (w:World) (a p:Addr) (n:Nat):(w.freeze a n).cell? p=w.cell? p:=by
 unfold World.freeze;split
 ·rfl
 ·simp only[World.cell?,aSN];by_cases h:a.block=p.block
  ·rw[if_pos h];cases w.heap[p.block]? with
   |none=>rfl
   |some o=>cases o<;>rfl
  ·rw[if_neg h]
theorem aJR (w:World) (a:Addr) (n b:Nat):(w.freeze a n).shape? b=w.shape? b:=by
 unfold World.freeze;split
 ·rfl
 ·simp only[World.shape?,aSN];by_cases h:a.block=b
  ·rw[if_pos h];cases w.heap[b]? with
   |none=>rfl
   |some o=>cases o<;>rfl
  ·rw[if_neg h]
theorem aJS (w:World) (a:Addr) (n b:Nat) (h:b≠a.block):(w.freeze a n).heap[b]? =w.heap[b]? :=by
 unfold World.freeze;split
 ·rfl
 ·simp only[aSN];rw[if_neg (Ne.symm h)]
theorem aJT (w:World) (a:Addr) (n:Nat):(w.freeze a n).os=w.os/\(w.freeze a n).tape=w.tape/\(w.freeze a n).output=w.output/\(w.freeze a n).heap.size=w.heap.size:=by
 unfold World.freeze;split
 ·exact⟨rfl,rfl,rfl,rfl⟩
 ·exact⟨rfl,rfl,rfl,by simp⟩
theorem aA2 {g:Gh}{w:World}{b:Nat}: ∀{l:List Int}{o:Nat},xX (Rd g w (.int .u8)) w g.S 1 b o l->∀j x,l[j]? =some x->w.cell? ⟨b,o+j,none⟩=some (.int .u8 x)
 |[],_,_,_,_,h=>by cases h
 |y::l,o,⟨⟨cs,_,hra,_,hR⟩,hl⟩,j,x,h=>by
  match j,h with
  |0,h=>
   cases h;have hR:cs=[.int .u8 y]:=hR;subst hR;exact hra 0 _ rfl
  |j+1,h=>
   have:=aA2 hl j x (by simpa using h);rw[show o+(j+1)=o+1+j by omega];exact this
theorem aJU {u:Ty}{m:Option (Nat×Nat)}{bv:(Ty.pair (.list (.int .u8)) .unit).den}{l:List u.den}(hget:qO (.list u) (.pair .mref (.pair (.list (.int .u8)) .unit)) (m,bv) 1=some l):l.length=bv.1.length:=by
 have h2:qO (.list u) (.list (.int .u8)) bv.1 0=some l:=hget;simp only[qO] at h2;split at h2
 ·rename_i h;injection h with h
  subst h;cases h2;rfl
 ·cases h2
theorem aJV:zE Tryz.prog 54 a0h:=by
 refine⟨fun _ _=>rfl,fun g w args vals L r hH ha hC hs=> ?_⟩;unfold a0h at hC;split at hC
 ·rename_i bv n;cases hC;obtain rfl:n=List.length bv.1:=hs _ (by simp);obtain⟨va,_,rfl,ra,hv⟩:=ha;cases hv;have hg0:pT (qE 0 [pQ.cells (.pair .mref (.pair (.list (.int .u8)) .unit)) ((some (0,0)),bv) [(1,1)],.grow 5 1 (List.length bv.1)]) 0=some (.cells (.pair .mref (.pair (.list (.int .u8)) .unit)) ((some (0,0)),bv) [(1,1)]):=rfl;have hg1:pT (qE 0 [pQ.cells (.pair .mref (.pair (.list (.int .u8)) .unit)) ((some (0,0)),bv) [(1,1)],.grow 5 1 (List.length bv.1)]) 1=some (.grow 5 1 (List.length bv.1)):=rfl;obtain⟨p,cs,hJ,hR,hra,hth,hns,htk⟩:=hH.blk 0 _ hg0;obtain⟨v',xs,hv',hown,hmax,hsl⟩:=hH.blk 1 _ hg1;obtain⟨c1,c2,rfl,hR1,hR2⟩:=hR;obtain⟨d1,d2,rfl,⟨a,cap,rfl,hcap,hl⟩,hd2⟩:=hR2;obtain⟨p',hJ',⟨hp0,_,_,_⟩,hc1⟩:=hR1;rw[hJ] at hJ';obtain rfl:=aRl hJ';obtain⟨b,o,k⟩:=p;have ho:o=0:=by simpa using hp0
  subst ho;have hlen1:c1.length=1:=by rcases hc1 with rfl|rfl<;>rfl
  obtain⟨q,hq,hva⟩:=yP ra.1;rw[hJ] at hq;cases hq;subst hva;have hcell1:w.cell? ⟨b,1,none⟩=some (.slice a bv.1.length cap):=hra 1 _ (by rw[aRq (by omega),hlen1];rfl);obtain⟨u,l,v,hget,hcv,hcur⟩:=htk 1 1 (by simp);have hvv:v= .slice a bv.1.length cap:=by
   rw[aRq (by omega),hlen1] at hcv;exact(aRl hcv).symm
  have hll:l.length=bv.1.length:=aJU hget;rw[hll,hv',hvv] at hcur;obtain rfl:=aRl hcur;have hbl:b<w.heap.size:=SX hcell1;have hdr: ∀(s:List UInt8) (sd:List Prop),J9 g w _ ⟨sd,[(.val .str s,none)],[.cells (.pair .mref (.pair (.list (.int .u8)) .unit)) ((some (0,0)),bv) [],.dead]⟩ g w.drew (.string ⟨s.toArray⟩):=fun s sd=>
   a0i hH rfl rfl rfl (Nat.le_refl _) (fun _ _ _=>rfl) (fun _ _ h=>h) (fun _ _ _=>rfl)
  obtain⟨hx,⟨hnil,h0⟩ |⟨gb,cap',cur,hsl',hb0,hbk,hnc,hcm,hcs,htake⟩⟩:=hown
  ·have hb0:bv.1=[]:=aSh.1 h0;have hz:sI bv.1=[]:=by rw[hb0];rfl
   have hl0:List.length bv.1=0:=h0;injection hnil with e1 e2 e3
   subst e1;subst e3;refine(a0g Tryz.lays169 Tryz.builderExtra b bv.1.length 0 none none .empty w w.drew hcell1 rfl (by rw[hl0];exact Any.unsafeString_none Tryz.lays169 Tryz.builderExtra w.drew none)).mono ?_;rintro e w' ⟨rfl,rfl⟩;exact⟨_,g,rfl,by rw[hz];exact hdr [] _⟩
  ·injection hsl' with e1 e2 e3
   subst e1;subst e3;have hsz:bv.1.length<=cur.size:=by omega
   by_cases hb0:bv.1=[]
   ·have hz:sI bv.1=[]:=by rw[hb0];rfl
    have hl0:List.length bv.1=0:=by rw[hb0];rfl
    by_cases hc0:cap=0
    ·subst hc0;rw[hl0] at hcell1;refine(aJP Tryz.lays169 Tryz.builderExtra b gb cur w hbl hcell1 hbk).mono ?_;rintro e w' ⟨rfl,rfl⟩;have hold: ∀c,c<w.heap.size->(w.drew.alloc (.view ⟨gb,0,none⟩ 5)).heap[c]? =w.heap[c]? :=fun c hc=>Lib.alloc_old w.drew _ c hc;refine⟨_,g,rfl,?_⟩;rw[hz];exact a0i hH rfl rfl rfl (by simp) (fun c o hc=>aRF (a:=⟨c,o,none⟩) (hold c hc)) (fun c s h=>(CT (hold c (CS h))).trans h) (fun c hc _=>hold c hc)
    ·refine(a0g Tryz.lays169 Tryz.builderExtra b bv.1.length cap (some ⟨gb,0,none⟩) (some ⟨gb,0,none⟩) .empty w w.drew hcell1 (Lib.run_unsafeSliceData_row _ _ _ _ _ _ hc0) (by rw[hl0];exact Any.unsafeString_none Tryz.lays169 Tryz.builderExtra w.drew _)).mono ?_;rintro e w' ⟨rfl,rfl⟩;exact⟨_,g,rfl,by rw[hz];exact hdr [] _⟩
   ·have hcap0:cap≠0:=fun h=>hb0 (aSh.1 (by omega));have hcb: ∀j x,bv.1[j]? =some x->w.cell? ⟨gb,j,none⟩=some (.int .u8 x):=by
     rcases hl with hl|⟨b',o',ha',hl⟩
     ·exact absurd hl hb0
     ·cases ha';intro j x hj;have:=aA2 hl j x hj;rwa [aRR] at this
    have hbk':w.drew.heap[gb]? =some (.cells cur 5 (0,0)):=hbk;have hshp:w.drew.shape? gb=some (5,cur.size):=by simp only[World.shape?,hbk']
    refine(a0g Tryz.lays169 Tryz.builderExtra b bv.1.length cap (some ⟨gb,0,none⟩) (some ⟨gb,0,none⟩) ⟨(sI bv.1).toArray⟩ w (w.drew.freeze ⟨gb,0,none⟩ bv.1.length) hcell1 (Lib.run_unsafeSliceData_row _ _ _ _ _ _ hcap0)
     (aJO w.drew _ _ _ 5 (Tryz.lays169).t127 (Tryz.builderExtra).cellsByte gb cur.size hshp bv.1 hb0 hsz (by unfold maxLen at hcm;omega) (fun j x h=>by rw[aSD,aRR];exact hcb j x h))).mono ?_
    rintro e w' ⟨rfl,rfl⟩;refine⟨_,g,rfl,?_⟩;have hblk: ∀c,(∀o,¬rP g 1 (.grow 5 1 (List.length bv.1)) c o)->(w.drew.freeze ⟨gb,0,none⟩ bv.1.length).heap[c]? =w.heap[c]? :=fun c hc=>aJS w.drew _ _ c fun e=>hc 0 ⟨_,hv',by rw[e];rfl⟩;have hr:=aJT w.drew ⟨gb,0,none⟩ bv.1.length;refine a0i hH hr.1 hr.2.1 hr.2.2.1 (aSW hr.2.2.2.symm) (fun c o _=>aJQ w.drew _ _ _) (fun c s h=>(aJR w.drew _ _ c).trans h) (fun c _ hc=>hblk c hc)
 ·cases hC
theorem aA3:sY Tryz.prog 149 ⟨(.pair .str (.pair .str .unit)),0,0,false,[]⟩:=⟨by kernel_rfl,(show ((_/\∃_,_/\_)\/_)/\_ from⟨.inl ⟨rfl,_,Tryz.underlying149,(show _/\_/\_/\_ from⟨rfl,by kernel_rfl,by kernel_rfl,(show _/\_/\_/\_ from⟨rfl,by kernel_rfl,by kernel_rfl,trivial⟩)⟩)⟩,(fun h=>absurd h (by decide))⟩)⟩
theorem TZ {P:Program}(w:World) (dT sT ty elem:TypeId) (sz g o dLen dCap:Nat) (a:Addr) (sLen sCap:Nat) (cur:Array Value) (t:TypeId) (cs:List Value)
  (hu:P.underlying dT=some (.slice elem)) (hs:(P.info? elem).map (·.size)=some sz)
  (hg:w.heap[g]? =some (.cells cur t (0,0))) (hn:cs.length=Nat.min sLen dLen*sz)
  (hsrc: ∀j v,cs[j]? =some v->w.cell? (a.add j)=some v) (hfit:o+cs.length<=cur.size) (h1: ∀v∈cs,v.oneCell'=true):
  (Builtin.copy_ #[dT,sT] ty #[.slice (some ⟨g,o,none⟩) dLen dCap,.slice (some a) sLen sCap]).run P w=
   .ok (goInt (Nat.min sLen dLen:Nat)) (w.setRow g (cur.toList.take o++cs++cur.toList.drop (o+cs.length)).toArray):=by
 have hl:=run_loadCells_list (P:=P) w a cs hsrc;have hst:=run_storeCells_at P g o t cs 0 cur w hg (by simpa using hfit) h1;cases hq:P.info? elem with
 |none=>simp [hq] at hs
 |some i=>
  have hi:i.size=sz:=by simpa[hq] using hs
  simp [Builtin.copy_,aRA hu,Builtin.lenOf,Builtin.firstCells,sizeOf,typeInfo,hq,hi,<-hn,hl,hst]
theorem aJW {P:Program}(w:World) (tS tR e:TypeId) (ht:P.underlying tS=some (.slice e)) (size:Nat) (hz: ∀w,(Go.sizeOf e).run P w= .ok size w)
  (a b:Addr) (la ca lb cb:Nat) (hne:a.block≠b.block) (tA tB:TypeId) (kA kB:Nat)
  (hsa:w.shape? a.block=some (tA,kA)) (hkA:kA≠0) (hsb:w.shape? b.block=some (tB,kB)) (hfb: ∀o,w.frozen? ⟨b.block,o,none⟩=false) (hsp:b.spot=none):
  (Extern.SlicesOverlaps.overlaps #[tS,tS] #[tR] #[.slice (some a) la ca,.slice (some b) lb cb]).run P w= .ok (.bool false) w:=by
 have hnb:(a.block != b.block)=true:=by simpa using hne
 have hnb':(a.block==b.block)=false:=by simpa using hne
 have hfb1:w.frozen? b=false:=by
  obtain⟨bb,bo,bs⟩:=b;cases hsp;exact hfb bo
 have hfb2:=hfb kB;change Sem.run P (α:=Value) (do
  let some t:=(#[tS,tS]:Array TypeId)[0]? |stuck "slices.overlaps: no parameter types"
  let .slice elem<-underlying t|stuck "slices.overlaps: slice type expected"
  let size<-sizeOf elem
  match (some a:Option Addr),(some b:Option Addr) with
  |some a,some b=>
   if la=0\/lb=0\/size=0 then pure (Value.bool false)
   else if a.block != b.block&&(<-frozen a)&&(<-frozen b) then unsupported .addressObserved
   else do
    if a.block != b.block then do
     noView a;noView b
     if<-mayBeOne a b then return Value.bool ((<-choose (.extern "sameAddr.stringBytes" 2))==1)
    pure (Value.bool (a.block==b.block&&a.off<b.off+lb*size&&b.off<a.off+la*size))
  |_,_=>pure (Value.bool false)) w=_
 by_cases h0:la=0\/lb=0\/size=0
 ·simp [aRA ht,hz,h0]
 ·cases kA with
  |zero=>exact absurd rfl hkA
  |succ kA=>
   cases hfa:w.frozen? a<;>cases hfe:w.frozen? {block:=a.block,off:=kA+1}<;>
   simp [aRA ht,hz,h0,hnb,hnb',frozen,noView,viewAt,mayBeOne,stringish,shape,Sem.run,hsa,hsb,hfb1,hfb2,hfa,hfe]
theorem aJX {α:Type}{l:List α}{i n:Nat}(hin:i<=n):(l.drop (i*2)).take ((n-i)*2)=(l.take (n*2)).drop (i*2):=by
 rw[List.drop_take,show n*2-i*2=(n-i)*2 by omega]
theorem aA4 {α:Type}{l:List α}{i n:Nat}{v:α}(h:v∈(l.drop (i*2)).take ((n-i)*2)):v∈l.take (n*2):=by
 rw[show (n-i)*2=n*2-i*2 by omega,<-List.drop_take] at h;exact List.mem_of_mem_drop h
theorem aJY {cur c1 c2:Array Value}{mid vs:List Value}{i n m:Nat}(hc1:c1=(cur.toList.take ((i+m)*2)++mid++cur.toList.drop ((i+m)*2+mid.length)).toArray) (hc2:c2=(c1.toList.take (i*2)++vs++c1.toList.drop (i*2+vs.length)).toArray)
  (hml:mid.length=(n-i)*2) (hvl:vs.length=m*2) (hcur:(n+m)*2<=cur.toList.length) (hin:i<=n):c2.toList.take ((n+m)*2)=cur.toList.take (i*2)++vs++mid:=by
 have e1:c1.toList=cur.toList.take ((i+m)*2)++(mid++cur.toList.drop ((i+m)*2+mid.length)):=by rw[hc1,aRo]
 have l1:(cur.toList.take ((i+m)*2)).length=(i+m)*2:=by rw[aRH];omega
 have e2:c1.toList.take (i*2)=cur.toList.take (i*2):=by
  rw[e1,aSP (by omega),List.take_take,Nat.min_eq_left (by omega)]
 have e3:c1.toList.drop (i*2+vs.length)=mid++cur.toList.drop ((i+m)*2+mid.length):=by
  rw[e1,hvl,show i*2+m*2=(cur.toList.take ((i+m)*2)).length by omega,aSZ]
 have l2:(cur.toList.take (i*2)).length=i*2:=by rw[aRH];omega
 have e4:c2.toList=(cur.toList.take (i*2)++vs++mid)++cur.toList.drop ((i+m)*2+mid.length):=by rw[hc2,e2,e3];simp only[aRo]
 rw[e4,show (n+m)*2=(cur.toList.take (i*2)++vs++mid).length by simp only[aRh];omega,aSE]
theorem aJZ (b n c i vb voff m vc:Nat) (cur:Array Value) (vs:List Value) (w:World) (hi:i<n) (hm:0<m) (hroom:n+m<=c) (hc63:c<=maxLen) (hvb:vb≠b)
  (hg:w.heap[b]? =some (.cells cur 149 (0,0))) (hcs:cur.size=c*2) (hvl:vs.length=m*2)
  (hvs: ∀j v,vs[j]? =some v->w.cell? ⟨vb,voff+j,none⟩=some v) (h1: ∀v∈cur.toList.take (n*2),v.oneCell'=true) (h1v: ∀v∈vs,v.oneCell'=true):
  Calls Tryz.prog 240 #[.slice (some ⟨b,0,none⟩) n c,.int .i64 i,.slice (some ⟨vb,voff,none⟩) m vc] w fun e w'=>
   e= .returned (.slice (some ⟨b,0,none⟩) (n+m) c)/\∃cur':Array Value,w'=w.drew.setRow b cur'/\cur'.size=cur.size/\cur'.toList.take ((n+m)*2)=cur.toList.take (i*2)++vs++(cur.toList.drop (i*2)).take ((n-i)*2):=by
 have u24:=aRA Tryz.underlying24;have hz1: ¬((m:Int)=0):=by omega
 have hz2: ¬((i:Int)=(n:Int)):=by omega
 have hw1:IntKind.i64.wrap ((i:Int)+(m:Int))=(i:Int)+(m:Int):=by rw[aSl];unfold maxLen at hc63;omega
 have hw2:IntKind.i64.wrap ((n:Int)+(m:Int))=(n:Int)+(m:Int):=by rw[aSl];unfold maxLen at hc63;omega
 have hb1:(0:Int)<=(i:Int)+(m:Int):=by omega
 have hin:i<=n:=by omega
 have htn:((i:Int)+(m:Int)).toNat=i+m:=by omega
 have hb2: ¬(c=i+m):=by omega
 have hb3:(i:Int)<=(n:Int)+(m:Int):=by omega
 have hb4: ¬(c=i):=by omega
 have z144: ∀w,(Go.sizeOf 149).run Tryz.prog w= .ok 2 w:=fun w=>by
  simp only[sizeOf,typeInfo,aRw,aSp,aRp];rfl
 have hsz:(Tryz.prog.info? 149).map (·.size)=some 2:=by kernel_rfl
 have hvs0:w.cell? ⟨vb,voff,none⟩=some (vs[0]'(by omega)):=hvs 0 _ (aRn (by omega));obtain⟨⟨tA,kA⟩,hsa,hkA⟩: ∃q:TypeId×Nat,w.shape? vb=some q/\q.2≠0:=by
  have h0:=hvs0;simp only[World.cell?] at h0;simp only[World.shape?];cases hh:w.heap[vb]? with
  |none=>rw[hh] at h0;simp at h0
  |some o=>
   rw[hh] at h0;cases o with
   |cells cs e fr=>
    refine⟨(e,cs.size),rfl,fun hz=> ?_⟩;have hz:cs.size=0:=hz;have:cs= #[]:=Array.eq_empty_of_size_eq_zero hz;subst this;simp at h0
   |_=>simp at h0
 have hov: ∀lb cb,(callFunc 268 #[.slice (some ⟨vb,voff,none⟩) m vc,.slice (some ⟨b,(i+m)*2,none⟩) lb cb]).run Tryz.prog w= .ok (.value (.bool false)) w:=fun lb cb=>by
  rw[run_callFunc_extern Tryz.func268 (by kernel_rfl) (by kernel_rfl) (by kernel_rfl) (e:=Extern.SlicesOverlaps.overlaps #[24,24] #[4]) (by kernel_rfl),
   aJW w 24 4 149 Tryz.underlying24 2 z144 ⟨vb,voff,none⟩ ⟨b,(i+m)*2,none⟩ m vc lb cb hvb tA 149 kA cur.size hsa hkA (by simp [World.shape?,hg]) (fun o=>Lib.frozen_of_heap hg _) rfl]
  rfl
 have mixed:Tryz.prog.follows .mixedOrders=true:=by kernel_rfl
 obtain⟨mid,hmid⟩: ∃mid,mid=(cur.toList.drop (i*2)).take ((n-i)*2):=⟨_,rfl⟩;have hml:mid.length=(n-i)*2:=by rw[hmid,aRH,aRy,aRP];omega
 have hmin1:Nat.min (n+m-i) (n+m- (i+m))=n-i:=by simp only[Nat.min_def];split<;>omega
 have hmin2:Nat.min m (n+m-i)=m:=by simp only[Nat.min_def];split<;>omega
 obtain⟨c1,hc1⟩: ∃c1:Array Value,c1=(cur.toList.take ((i+m)*2)++mid++cur.toList.drop ((i+m)*2+mid.length)).toArray:=⟨_,rfl⟩;have hc1l:c1.size=cur.size:=by rw[hc1];simp only[aR8,aRh,aRH,aRy,aRP,hml];omega
 obtain⟨c2,hc2⟩: ∃c2:Array Value,c2=(c1.toList.take (i*2)++vs++c1.toList.drop (i*2+vs.length)).toArray:=⟨_,rfl⟩;have hc2l:c2.size=cur.size:=by rw[hc2];simp only[aR8,aRh,aRH,aRy,aRP,hc1l,hvl];omega
 have hcp1: ∀ty dc sc,(Builtin.copy_ #[24,24] ty #[.slice (some ⟨b,(i+m)*2,none⟩) (n+m- (i+m)) dc,.slice (some ⟨b,i*2,none⟩) (n+m-i) sc]).run Tryz.prog w.drew= .ok (goInt (n-i:Nat)) (w.drew.setRow b c1):=fun ty dc sc=>by
  have h:=TZ (P:=Tryz.prog) w.drew 24 24 ty 149 2 b ((i+m)*2) (n+m- (i+m)) dc ⟨b,i*2,none⟩ (n+m-i) sc cur 149 mid Tryz.underlying24 hsz hg (by rw[hml,hmin1]) (fun j v hj=>by
    rw[aS9];rw[hmid,aS6] at hj;split at hj
    ·rw[List.getElem?_drop,aSt] at hj;show (w.cell? ⟨b,i*2+j,none⟩)=_;rw[Lib.cell_of_heap hg];exact hj
    ·cases hj) (by rw[hml];omega) (fun v hv=>h1 v (aA4 (hmid▸hv)))
  rw[h,hmin1,hc1]
 have hg1:(w.drew.setRow b c1).heap[b]? =some (.cells c1 149 (0,0)):=aTi w.drew b cur c1 _ _ hg;have hcp2: ∀ty dc,(Builtin.copy_ #[24,24] ty #[.slice (some ⟨b,i*2,none⟩) (n+m-i) dc,.slice (some ⟨vb,voff,none⟩) m vc]).run Tryz.prog (w.drew.setRow b c1)= .ok (goInt (m:Nat)) ((w.drew.setRow b c1).setRow b c2):=fun ty dc=>by
  have h:=TZ (P:=Tryz.prog) (w.drew.setRow b c1) 24 24 ty 149 2 b (i*2) (n+m-i) dc ⟨vb,voff,none⟩ m vc c1 149 vs Tryz.underlying24 hsz hg1 (by rw[hvl,hmin2]) (fun j v hj=>by
    rw[aS9,aRF (w:=w) (a:=⟨vb,voff+j,none⟩) (aST w.drew b vb c1 hvb)];exact hvs j v hj) (by rw[hvl,hc1l];omega) h1v
  rw[h,hmin2,hc2]
 have Hmid:=Lib.hid hmid;have Hc1:=Lib.hid hc1;have Hc2:=Lib.hid hc2;have Hs1:=Lib.hid hc1l;have Hs2:=Lib.hid hc2l;have Hml:=Lib.hid hml;clear hmid hc1 hc2 hc1l hc2l hml hmin1 hmin2
 go_enter Tryz.func240,Tryz.ntmps240
 go_wp2_with (simp only[hov])
 go_region_law_o (refine step_copy_runI rfl _ _ 24 24 rfl _ _ (by simp [Act.eval,Act.put]) (by simp [Act.eval,Act.put]) (hcp1 _ _ _) ?_)
 go_wp2_with (at_builtin;refine wpList_copy_runI _ rfl _ _ 24 24 rfl _ _ rfl rfl (hcp2 _ _) ?_)
 go_ret
 refine⟨rfl,c2,?_,Hs2.out,?_⟩
 ·rw[setRow_setRow]
 ·rw[<-Hmid.out];exact aJY Hc1.out Hc2.out Hml.out hvl (by rw[aRP];omega) hin
theorem aJ0 (base:Option Addr) (n c i:Nat) (v0:Option Addr) (vc:Nat) (w:World) (hi:i<=n) (hnc:n<=c) (hc63:c<=maxLen):
  Calls Tryz.prog 240 #[.slice base n c,.int .i64 i,.slice v0 0 vc] w fun e w'=>e= .returned (.slice base n c)/\w'=w:=by
 have u24:=aRA Tryz.underlying24
 go_enter Tryz.func240,Tryz.ntmps240
 go_wp2_with fail
 all_goals (go_ret;exact⟨rfl,rfl⟩)
theorem aJ1 (v:Value) (n vb voff m vc:Nat) (xs vs:List Value) (w:World) (hm:0<m) (hown:w.ownsRow 0 149 2 v n xs) (h63:n+m<=maxLen) (hby:(n+m)*32<=140737488355328)
  (hvl:vs.length=m*2) (hvs: ∀j v,vs[j]? =some v->w.cell? ⟨vb,voff+j,none⟩=some v) (h1v: ∀v∈vs,v.oneCell'=true):
  Calls Tryz.prog 240 #[v,.int .i64 n,.slice (some ⟨vb,voff,none⟩) m vc] w fun e w'=>
   ∃q cap,e= .returned (.slice (some ⟨q,0,none⟩) (n+m) cap)/\w'.ownsRow 0 149 2 (.slice (some ⟨q,0,none⟩) (n+m) cap) (n+m) (xs++vs)/\
   (q=w.heap.size\/v.ownBlock=some q)/\w.grownBy w' v.ownBlock:=by
 have u24:=aRA Tryz.underlying24;obtain⟨inf,hi,hsz,hz⟩:=DU aA3;have hby2:inf.bytes=32:=by
  have:(Tryz.prog.info? 149).map (·.bytes)=some 32:=by kernel_rfl
  rw[hi] at this;exact aRl this
 have hrun: ∀ty,∃q cap w',(Builtin.append_ #[24,24] ty #[v,.slice (some ⟨vb,voff,none⟩) m vc]).run Tryz.prog w= .ok (.slice (some ⟨q,0,none⟩) (n+m) cap) w'/\_:=
  fun ty=>YP (P:=Tryz.prog) w 24 ty 149 inf _ 2 32 Tryz.underlying24 hi hz hsz hby2 (by rfl) v n xs hown ⟨vb,voff,none⟩ m vc vs hvl (fun j u hj=>by rw[aS9];exact hvs j u hj) h1v hm h63 hby
 obtain⟨q,cap,w2,hr,h1,h2,h3,h4,h5⟩:=hrun 24;have H1:=Lib.hid h1;have H2:=Lib.hid h2;have H3:=Lib.hid h3;have Hown:=Lib.hid hown;have hz1: ¬((m:Int)=0):=by omega
 have hmx:n+m<=9223372036854775807:=by unfold maxLen at h63;omega
 obtain⟨hxl,hv⟩:=hown;clear h1 h2 h3 h5 hrun hz hsz hby2 hi hxl;rcases hv with⟨rfl,rfl⟩ |⟨b,c,cur,rfl,_,hbk,hnc,hcm,hcs,htk⟩
 ·clear Hown;rw[aRR] at hr
  go_enter Tryz.func240,Tryz.ntmps240
  go_wp2_with (at_builtin;refine Lib.wpList_append_run _ rfl _ _ _ _ rfl _ _ rfl rfl _ _ hr ?_)
  all_goals (go_ret;exact⟨q,cap,by rw[aRR];rfl,H1.out,H2.out,H3.out⟩)
 ·clear hbk hcs htk;have hcm:c<=9223372036854775807:=by unfold maxLen at hcm;omega
  go_enter Tryz.func240,Tryz.ntmps240
  go_wp2_with (at_builtin;refine Lib.wpList_append_run _ rfl _ _ _ _ rfl _ _ rfl rfl _ _ hr ?_)
  all_goals (go_ret;exact⟨q,cap,rfl,H1.out,H2.out,H3.out⟩)
theorem aJ2 (b n c i vb voff m vc:Nat) (cur:Array Value) (vs:List Value) (w:World) (hi:i<n) (hm:0<m) (hnc:n<=c) (hroom:c<n+m) (hbig:(n+m)*32<=140737488355328)
  (hg:w.heap[b]? =some (.cells cur 149 (0,0))) (hcs:cur.size=c*2) (hvl:vs.length=m*2)
  (hvs: ∀j v,vs[j]? =some v->w.cell? ⟨vb,voff+j,none⟩=some v) (h1: ∀v∈cur.toList.take (n*2),v.oneCell'=true) (h1v: ∀v∈vs,v.oneCell'=true):
  Calls Tryz.prog 240 #[.slice (some ⟨b,0,none⟩) n c,.int .i64 i,.slice (some ⟨vb,voff,none⟩) m vc] w fun e w'=>
   ∃G,e= .returned (.slice (some ⟨w.heap.size,0,none⟩) (n+m) G)/\w'.ownsRow 0 149 2 (.slice (some ⟨w.heap.size,0,none⟩) (n+m) G) (n+m) (cur.toList.take (i*2)++vs++(cur.toList.drop (i*2)).take ((n-i)*2))/\w.grownBy w' none:=by
 have u24:=aRA Tryz.underlying24;have mixed:Tryz.prog.follows .mixedOrders=true:=by kernel_rfl
 obtain⟨inf,hinf,hzs,hz⟩:=DU aA3;have hzb:inf.bytes=32:=by
  have:(Tryz.prog.info? 149).map (·.bytes)=some 32:=by kernel_rfl
  rw[hinf] at this;exact aRl this
 have hsz:(Tryz.prog.info? 149).map (·.size)=some 2:=by kernel_rfl
 have hz1: ¬((m:Int)=0):=by omega
 have hz2: ¬((i:Int)=(n:Int)):=by omega
 have hz3:(c:Int)<(n:Int)+(m:Int):=by omega
 have hbw:b<w.heap.size:=by
  rcases aSw b w.heap.size with h|h
  ·exact h
  ·rw[Array.getElem?_eq_none h] at hg;cases hg
 have hvw:vb<w.heap.size:=block_lt_of_cell (hvs 0 _ (aRn (by omega)));have hkk:(n:Int)+(m:Int)- (i:Int)=((n+m-i:Nat):Int):=by omega
 have hik:i+(n+m-i)=n+m:=by omega
 have hold:(Builtin.firstCells inf.size i (.slice (some ⟨b,0,none⟩) i c)).run Tryz.prog w.drew= .ok (cur.toList.take (i*2)).toArray w.drew:=by
  rw[hzs];exact run_firstCells_some w.drew 2 i ⟨b,0,none⟩ i c (cur.toList.take (i*2)) (by rw[aRH,aRP];omega) (fun j v hj=>by
   rw[aS9,aRR];rw[aS6] at hj;split at hj
   ·rw[aSt] at hj;show w.cell? ⟨b,j,none⟩=_;rw[Lib.cell_of_heap hg];exact hj
   ·cases hj)
 have hrz: ∀ty,(Builtin.append_ #[24,3] ty #[.slice (some ⟨b,0,none⟩) i c,.int .i64 ((n:Int)+(m:Int)- (i:Int))]).run Tryz.prog w=
   .ok (.slice (some ⟨w.heap.size,0,none⟩) (n+m) (grownCap w (n+m) c 149)) (w.drew.alloc (.cells ((cur.toList.take (i*2)).toArray++Builtin.zeroCells (wX (.pair .str (.pair .str .unit))).cells (n+m-i)++Builtin.zeroCells (wX (.pair .str (.pair .str .unit))).cells (grownCap w (n+m) c 149- (n+m))) 149)):=fun ty=>by
  have h:=Lib.run_append_grow_zeros (P:=Tryz.prog) w 24 3 ty 149 inf _ .i64 .i64 Tryz.underlying24 Tryz.underlying3 hinf hz (some ⟨b,0,none⟩) i c (cur.toList.take (i*2)) hold (n+m-i) (by omega) (by rw[hzs];decide) (by omega) (by omega) (by rw[hzb];omega) (by rw[hzb,hik];exact growslice_fits hroom hbig);rw[hik] at h;rw[hkk];exact h
 obtain⟨G,hG⟩: ∃G,G=grownCap w (n+m) c 149:=⟨_,rfl⟩;obtain⟨ROW,hROW⟩: ∃ROW:Array Value,ROW=(cur.toList.take (i*2)).toArray++Builtin.zeroCells (wX (.pair .str (.pair .str .unit))).cells (n+m-i)++Builtin.zeroCells (wX (.pair .str (.pair .str .unit))).cells (G- (n+m)):=⟨_,rfl⟩;rw[<-hG] at hrz;rw[<-hROW] at hrz;have hGn:n+m<=G:=by rw[hG];exact grownCap_ge w _ _ _
 have hGm:G<=maxLen:=by rw[hG];exact grownCap_le_maxLen w (n+m) c _ (by unfold maxLen;omega)
 have hzc:(wX (.pair .str (.pair .str .unit))).cells.size=2:=rfl;have hRl:ROW.size=G*2:=by
  rw[hROW];simp only[aTq,aR8,size_zeroCells,hzc,aRH,aRP];omega
 have hRt:ROW.toList.take (i*2)=cur.toList.take (i*2):=by
  rw[hROW];simp only[Array.toList_append,aRo];rw[aSP (by rw[aRH,aRP];omega),List.take_take,Nat.min_self]
 obtain⟨q,hq⟩: ∃q,q=w.heap.size:=⟨_,rfl⟩;obtain⟨mid,hmid⟩: ∃mid,mid=(cur.toList.drop (i*2)).take ((n-i)*2):=⟨_,rfl⟩;have hml:mid.length=(n-i)*2:=by rw[hmid,aRH,aRy,aRP];omega
 have hmin1:Nat.min m (n+m-i)=m:=by simp only[Nat.min_def];split<;>omega
 have hmin2:Nat.min (n-i) (n+m- (i+m))=n-i:=by simp only[Nat.min_def];split<;>omega
 obtain⟨c1,hc1⟩: ∃c1:Array Value,c1=(ROW.toList.take (i*2)++vs++ROW.toList.drop (i*2+vs.length)).toArray:=⟨_,rfl⟩;have hc1l:c1.size=G*2:=by rw[hc1];simp only[aR8,aRh,aRH,aRy,aRP,hRl,hvl];omega
 obtain⟨c2,hc2⟩: ∃c2:Array Value,c2=(c1.toList.take ((i+m)*2)++mid++c1.toList.drop ((i+m)*2+mid.length)).toArray:=⟨_,rfl⟩;have hc2l:c2.size=G*2:=by rw[hc2];simp only[aR8,aRh,aRH,aRy,aRP,hc1l,hml];omega
 obtain⟨W1,hW1⟩: ∃W1,W1=w.drew.alloc (.cells ROW 149):=⟨_,rfl⟩;rw[<-hW1] at hrz;have hbq:b≠q:=by omega
 have hvq:vb≠q:=by omega
 have hg1:W1.heap[q]? =some (.cells ROW 149 (0,0)):=by rw[hW1,hq];exact aTs w.drew _
 have hO1: ∀k,k<w.heap.size->W1.heap[k]? =w.heap[k]? :=fun k hk=>by rw[hW1];exact aRL w.drew _ k hk
 have hcpA: ∀(W:World),W.heap=W1.heap->∀ty dc,(Builtin.copy_ #[24,24] ty #[.slice (some ⟨q,i*2,none⟩) (n+m-i) dc,.slice (some ⟨vb,voff,none⟩) m vc]).run Tryz.prog W= .ok (goInt (m:Nat)) (W.setRow q c1):=fun W hW ty dc=>by
  have h:=TZ (P:=Tryz.prog) W 24 24 ty 149 2 q (i*2) (n+m-i) dc ⟨vb,voff,none⟩ m vc ROW 149 vs Tryz.underlying24 hsz (by rw[hW];exact hg1) (by rw[hvl,hmin1]) (fun j v hj=>by
    rw[aS9,aRF (w:=w) (a:=⟨vb,voff+j,none⟩) (by rw[hW];exact hO1 vb hvw)];exact hvs j v hj) (by rw[hvl,hRl];omega) h1v
  rw[h,hmin1,hc1]
 have hcpB: ∀(W:World),W.heap=(W1.setRow q c1).heap->∀ty dc sc,(Builtin.copy_ #[24,24] ty #[.slice (some ⟨q,(i+m)*2,none⟩) (n+m- (i+m)) dc,.slice (some ⟨b,i*2,none⟩) (n-i) sc]).run Tryz.prog W= .ok (goInt (n-i:Nat)) (W.setRow q c2):=fun W hW ty dc sc=>by
  have h:=TZ (P:=Tryz.prog) W 24 24 ty 149 2 q ((i+m)*2) (n+m- (i+m)) dc ⟨b,i*2,none⟩ (n-i) sc c1 149 mid Tryz.underlying24 hsz (by rw[hW];exact aTi W1 q ROW c1 _ _ hg1) (by rw[hml,hmin2]) (fun j v hj=>by
    rw[aS9,aRF (w:=w) (a:=⟨b,i*2+j,none⟩) (by rw[hW,aST W1 q b c1 hbq];exact hO1 b hbw),Lib.cell_of_heap hg];rw[hmid,aS6] at hj;split at hj
    ·rw[List.getElem?_drop,aSt] at hj;exact hj
    ·cases hj) (by rw[hml,hc1l];omega) (fun v hv=>h1 v (aA4 (hmid▸hv)))
  rw[h,hmin2,hc2]
 have hGi: ¬(G=i):=by omega
 have hGim: ¬(G=i+m):=by omega
 have hci: ¬(c=i):=by omega
 have hw1:IntKind.i64.wrap ((i:Int)+(m:Int))=(i:Int)+(m:Int):=by rw[aSl];omega
 have hw2:IntKind.i64.wrap ((n:Int)+(m:Int))=(n:Int)+(m:Int):=by rw[aSl];omega
 have hw3:IntKind.i64.wrap ((n:Int)+(m:Int)- (i:Int))=(n:Int)+(m:Int)- (i:Int):=by rw[aSl];omega
 have hb1:(0:Int)<=(i:Int)+(m:Int):=by omega
 have hin:i<=n:=by omega
 have htn:((i:Int)+(m:Int)).toNat=i+m:=by omega
 have hb3:(i:Int)<=(n:Int):=by omega
 have hG63:G<=9223372036854775807:=by unfold maxLen at hGm;omega
 rw[<-hq] at hrz⊢;have hend: ∀W:World,W.heap=((W1.setRow q c1).setRow q c2).heap->W.os=w.os->W.tape=w.tape->W.output=w.output->
   W.ownsRow 0 149 2 (.slice (some ⟨q,0,none⟩) (n+m) G) (n+m) (cur.toList.take (i*2)++vs++mid)/\w.grownBy W none:=fun W hW e1 e2 e3=>by
  have hg2:W.heap[q]? =some (.cells c2 149 (0,0)):=by rw[hW];exact aTi (W1.setRow q c1) q c1 c2 _ _ (aTi W1 q ROW c1 _ _ hg1)
  have hs:w.heap.size<=W.heap.size:=by
   have:=(aRE.1 hg2).1;omega
  refine⟨⟨?_,.inr ⟨q,G,c2,rfl,aSg _,hg2,hGn,hGm,hc2l,?_⟩⟩,⟨e1,e2,e3,hs,fun k hk _=> ?_⟩⟩
  ·simp only[aRh,aRH,aRP,hml,hvl];omega
  ·have x1:c1.toList=cur.toList.take (i*2)++vs++ROW.toList.drop (i*2+vs.length):=by rw[hc1,hRt]
   have l1:(cur.toList.take (i*2)++vs).length=(i+m)*2:=by rw[aRh,aRH,aRP,hvl];omega
   have x2:c2.toList=cur.toList.take (i*2)++vs++mid++c1.toList.drop ((i+m)*2+mid.length):=by
    rw[hc2];show c1.toList.take ((i+m)*2)++mid++_=_;rw[x1,<-l1,aSE]
   rw[x2,show (n+m)*2=(cur.toList.take (i*2)++vs++mid).length by rw[aRh,l1,hml];omega,aSE]
  ·rw[hW,aST _ q k c2 (by omega),aST _ q k c1 (by omega)];exact hO1 k hk
 have Hmid:=Lib.hid hmid;have Hq:=Lib.hid hq;have Hend:=Lib.hid hend;have HW1:=Lib.hid hW1;clear hkk hik hold hROW hG hRl hmid hq hend hW1 hc1 hc2 hc1l hc2l hml hmin1 hmin2 hz hzs hzb hinf hRt hg1 hO1
 go_enter Tryz.func240,Tryz.ntmps240
 go_wp2_with (first
  |(at_builtin;refine Lib.wpList_append_run _ rfl _ _ _ _ rfl _ _ rfl rfl _ _ (hrz _) ?_)
  |(at_builtin;refine wpList_copy_runI _ rfl _ _ 24 24 rfl _ _ rfl rfl (hcpA _ rfl _ _) ?_))
 go_region_law_o (refine step_copy_runI rfl _ _ 24 24 rfl (.slice (some ⟨q,(i+m)*2,none⟩) (n+m- (i+m)) (G- (i+m))) (.slice (some ⟨b,i*2,none⟩) (n-i) (c-i)) (by simp [Act.eval,Act.put]) (by simp [Act.eval,Act.put]) (hcpB (W1.setRow q c1).drew rfl _ (G- (i+m)) (c-i)) ?_)
 go_wp2_with fail
 go_ret
 rw[<-Hmid.out];exact⟨G,rfl,Hend.out _ rfl (by rw[HW1.out];rfl) (by rw[HW1.out];rfl) (by rw[HW1.out];rfl)⟩
theorem aJ3 (v:Value) (n i m vc:Nat) (v0:Option Addr) (xs vs:List Value) (w:World) (hin:i<=n) (hown:w.ownsRow 0 149 2 v n xs) (hby:(n+m)*32<=140737488355328)
  (h1: ∀u∈xs,u.oneCell'=true) (hv0:m=0\/∃vb voff,v0=some ⟨vb,voff,none⟩/\v.ownBlock≠some vb/\∀j u,vs[j]? =some u->w.cell? ⟨vb,voff+j,none⟩=some u)
  (hvl:vs.length=m*2) (h1v: ∀v∈vs,v.oneCell'=true):
  Calls Tryz.prog 240 #[v,.int .i64 i,.slice v0 m vc] w fun e w'=>
   ∃v',e= .returned v'/\w'.ownsRow 0 149 2 v' (n+m) (xs.take (i*2)++vs++xs.drop (i*2))/\(m=0->v'=v)/\(∀b,v'.ownBlock=some b->b=w.heap.size\/v.ownBlock=some b)/\w.grownBy w' v.ownBlock:=by
 have h63:n+m<=maxLen:=by unfold maxLen;omega
 rcases Nat.eq_zero_or_pos m with hm|hm
 ·subst hm;have hvs:vs=[]:=aSh.1 (by omega);subst hvs;have hres:w.ownsRow 0 149 2 v (n+0) (xs.take (i*2)++[]++xs.drop (i*2)):=by
   rw[List.append_nil,aSs];exact hown
  obtain⟨base,c,rfl,hnc,hc⟩: ∃base c,v= .slice base n c/\n<=c/\c<=maxLen:=by
   rcases hown.2 with⟨rfl,rfl⟩ |⟨b,c,cur,rfl,_,_,h2,h3,_⟩
   ·exact⟨none,0,rfl,Nat.le_refl _,by unfold maxLen;omega⟩
   ·exact⟨_,c,rfl,h2,h3⟩
  refine(aJ0 base n c i v0 vc w hin hnc hc).mono ?_;rintro e w' ⟨rfl,rfl⟩;exact⟨_,rfl,hres,fun _=>rfl,fun b hb=> .inr hb,World.grownBy.refl _ _⟩
 ·obtain⟨vb,voff,rfl,hvb,hvs⟩: ∃vb voff,v0=some ⟨vb,voff,none⟩/\v.ownBlock≠some vb/\∀j u,vs[j]? =some u->w.cell? ⟨vb,voff+j,none⟩=some u:=by
   rcases hv0 with h|h
   ·omega
   ·exact h
  have hxl:=hown.1;rcases aSw i n with hlt|hge
  ·rcases hown.2 with⟨rfl,rfl⟩ |⟨b,c,cur,rfl,_,hbk,hnc,hcm,hcs,htk⟩
   ·omega
   ·have hb:vb≠b:=fun h=>hvb (by rw[h];rfl);have hx1:cur.toList.take (i*2)=xs.take (i*2):=by rw[<-htk,List.take_take,Nat.min_eq_left (by omega)]
    have hx2:(cur.toList.drop (i*2)).take ((n-i)*2)=xs.drop (i*2):=by rw[aJX hin,htk]
    rcases aSw c (n+m) with hr|hr
    ·refine(aJ2 b n c i vb voff m vc cur vs w hlt hm hnc hr hby hbk hcs hvl hvs (by rw[htk];exact h1) h1v).mono ?_;rintro e w' ⟨G,rfl,ho,hg⟩;rw[hx1,hx2] at ho;exact⟨_,rfl,ho,fun h=>by omega,fun b hb=> .inl (by simpa[Value.ownBlock] using hb.symm),⟨hg.os,hg.tape,hg.output,hg.size,fun k hk _=>hg.block k hk (by simp)⟩⟩
    ·refine(aJZ b n c i vb voff m vc cur vs w hlt hm hr hcm hb hbk hcs hvl hvs (by rw[htk];exact h1) h1v).mono ?_;rintro e w' ⟨rfl,cur',rfl,hs,ht⟩;rw[hx1,hx2] at ht;refine⟨_,rfl,⟨?_,.inr ⟨b,c,cur',rfl,aSg _,aTi w.drew b cur cur' _ _ hbk,hr,hcm,by rw[hs,hcs],ht⟩⟩,fun h=>by omega,fun b' hb'=> .inr hb',⟨rfl,rfl,rfl,by simp,fun k hk hne=>aST w.drew b k cur' (fun h=>hne (by rw[h];rfl))⟩⟩;simp only[aRh,aRH,aRy,hxl,hvl];omega
  ·obtain rfl:i=n:=by omega
   refine(aJ1 v i vb voff m vc xs vs w hm hown h63 hby hvl hvs h1v).mono ?_;rintro e w' ⟨q,cap,rfl,ho,hq,hg⟩;refine⟨_,rfl,?_,fun h=>by omega,fun b hb=> ?_,hg⟩
   ·rw[<-hxl,List.take_length,aSb,List.append_nil];exact ho
   ·have hb:q=b:=by simpa[Value.ownBlock] using hb
    exact hb▸hq
theorem aA5 {α:Type}{R:α->List Value->Prop}{c:Nat}: ∀{l:List α}{cs:List Value}(i:Nat),sS R c l cs->sS R c (l.take i) (cs.take (i*c))
 |_,_,0,_=>by simp [sS]
 |[],_,_+1,h=>by rw[show _=[] from h];simp [sS]
 |x::l,_,i+1,⟨c1,c2,e,h1,h2,h3⟩=>by
  refine⟨c1,c2.take (i*c),?_,h1,h2,aA5 i h3⟩;rw[e,aSr,Nat.add_comm,<-h1,List.take_length_add_append]
theorem aA6 {α:Type}{R:α->List Value->Prop}{c:Nat}: ∀{l:List α}{cs:List Value}(i:Nat),sS R c l cs->sS R c (l.drop i) (cs.drop (i*c))
 |_,_,0,h=>by simpa using h
 |[],_,_+1,h=>by rw[show _=[] from h];simp [sS]
 |x::l,_,i+1,⟨c1,c2,e,h1,h2,h3⟩=>by
  rw[e,show (i+1)*c=c1.length+i*c by rw[h1,aSr,Nat.add_comm],List.drop_length_add_append];exact aA6 i h3
def AJ {t:Type}(l:List t) (i:Int) (v:List t):List t:=List.take i.toNat l++v++List.drop i.toNat l
@[go_sem] def a0j:List pR->List pQ->Option pX
 |[(.own 0 O,none),(.val (.int .i64) Z,none),(.val (.list (.pair .str (.pair .str .unit))) aA,none)],[.row 149 (.pair .str (.pair .str .unit)) aB aC]=>
  some ⟨[O=aC,0<=Z/\Z<=List.length aB,(List.length aB+List.length aA)*32<=140737488355328],[(.own 0 (List.length (AJ aB Z aA)),none)],[.row 149 (.pair .str (.pair .str .unit)) (AJ aB Z aA) (List.length (AJ aB Z aA))]⟩
 |_,_=>none
theorem aJ4:zE Tryz.prog 240 a0j:=by
 refine⟨fun _ _=>rfl,fun g w args vals L r hH ha hC hs=> ?_⟩;unfold a0j at hC;split at hC
 ·rename_i n iI vl l n2;cases hC;obtain rfl:n=n2:=hs _ (by simp);obtain⟨hi0,hil⟩:=hs (0<=iI/\iI<=List.length l) (by simp);have hby:=hs ((List.length l+List.length vl)*32<=140737488355328) (by simp);clear hs;obtain⟨va,_,rfl,ra,vb,_,rfl,rb,vc,_,rfl,rc,hv⟩:=ha;cases hv;have hg0:pT (qE 0 [pQ.row 149 (.pair .str (.pair .str .unit)) l n]) 0=some (.row 149 (.pair .str (.pair .str .unit)) l n):=rfl;obtain⟨hl,v,xs,hcur,hown,hF,hnone,hseal⟩:=hH.blk 0 _ hg0;have hva:va=v:=by
   have:=ra.1.1;rw[hcur] at this;exact(aRl this).symm
  subst hva;obtain⟨i,rfl⟩:=Int.eq_ofNat_of_zero_le hi0;have hvb:vb= .int .i64 i:=vL rb.1;subst hvb;obtain⟨a,cap,rfl,hcap,hlist⟩:=CV rc.1;have hRone: ∀(x:(Ty.pair .str (.pair .str .unit)).den) cs,Rd g w (.pair .str (.pair .str .unit)) x cs->∀v∈cs,v.oneCell'=true:=fun x cs h=>zV h;obtain⟨vs,hFv,hv0⟩: ∃vs,sS (Rd g w (.pair .str (.pair .str .unit))) 2 vl vs/\(vl.length=0\/∃vb voff,a=some ⟨vb,voff,none⟩/\va.ownBlock≠some vb/\∀j u,vs[j]? =some u->w.cell? ⟨vb,voff+j,none⟩=some u):=by
   rcases hlist with rfl|⟨b,o,rfl,hL⟩
   ·exact⟨[],rfl,.inl rfl⟩
   ·obtain⟨cs,h1,h2,h3⟩:=LJ hL;rcases Nat.eq_zero_or_pos vl.length with h0|h0
    ·exact⟨cs,h1,.inl h0⟩
    ·exact⟨cs,h1,.inr ⟨b,o,rfl,fun hb=>hseal b hb _ (h3 0 (Nat.mul_pos h0 (by decide))),h2⟩⟩
  have hvl:=H6 hFv;have hil2:(i:Int)<=(l.length:Int):=hil;have hil':i<=n:=by omega
  subst hl;refine(aJ3 va l.length i vl.length cap a xs vs w (by omega) hown hby (OQ hRone hF) hv0 hvl (OQ hRone hFv)).mono ?_;rintro e w' ⟨v',rfl,hown',hm0,hob,hgr⟩;have hlen:(AJ l (i:Int) vl).length=l.length+vl.length:=by
   simp only[AJ,aRY,aRh,aRH,aRy];omega
  have hF':sS (Rd g w (.pair .str (.pair .str .unit))) 2 (AJ l (i:Int) vl) (xs.take (i*2)++vs++xs.drop (i*2)):=by
   unfold AJ;rw[aRY];exact OI (OI (aA5 i hF) hFv) (aA6 i hF)
  have hsl: ∀b o,g.S b o->w'.cell? ⟨b,o,none⟩=w.cell? ⟨b,o,none⟩:=fun b o h=>aRF (a:=⟨b,o,none⟩) (hgr.block b (hH.sl b o h) (fun e=>hseal b e.symm o h));have hE:=rS.row (side:=[]) (rds:=[]) (s:=(.own 0 (AJ l (i:Int) vl).length,none)) (val:=v') (k:=0) (g:=g) (w:=w) (H:=qE 0 [pQ.row 149 (.pair .str (.pair .str .unit)) l l.length]) hH (e:=149) (t:= .pair .str (.pair .str .unit)) (l:=AJ l (i:Int) vl) (n:=(AJ l (i:Int) vl).length) (v:=v') rfl (by rw[hlen];exact hown') hF'
   (fun m hm=>hnone m (by omega)) (fun u hu=>by
    rcases Nat.eq_zero_or_pos vl.length with h0|h0
    ·rw[hlen,h0,aSG,hcur] at hu;rw[hm0 h0];exact(aRl hu).symm
    ·rw[hnone _ (by omega)] at hu;cases hu)
   (.inr ⟨va.ownBlock,hgr,fun b hb o=>⟨0,_,by simp,hg0,va,hcur,hb⟩⟩) hsl
   (fun b hb o hS=>by
    rcases hob b hb with h|h
    ·have:=hH.sl b o hS;omega
    ·exact hseal b h o hS)
   (fun b hb=>(hob b hb).imp (fun h=>by omega) fun h o=>⟨0,_,by simp,hg0,va,hcur,h⟩)
   ⟨⟨by simp [Gh.tok],by
    rw[hlen];rcases hown'.2 with⟨rfl,h⟩ |⟨b,cap',_,rfl,_,_,h,_⟩
    ·exact .inl ⟨rfl,h⟩
    ·exact .inr ⟨b,cap',rfl,h⟩⟩,trivial⟩
  refine⟨v',_,rfl,⟨fun b o h=>⟨hE.le.S b o h,hE.le.cell b o h⟩,hE.heap.ext ?_,hE.slot,hE.fr.mono fun b o ⟨i,blk,_,h1,h2⟩=>⟨i,blk,h1,h2⟩,fun i blk b o hi ho=> ?_,fun i t x ts h=> ?_,fun i t x ts u y us h _=> ?_,fun _ _ _ h=>h,fun i m u hi h=> ?_⟩⟩
  ·intro i
   match i with
   |0=>rfl
   |i+1=>rfl
  ·match i,hi with
   |0,hi=>
    cases hi;exact(hE.perm 0 _ b o (by simp [pU]) rfl ho).imp id fun⟨i,blk,_,h1,h2⟩=>⟨i,blk,h1,h2⟩
   |i+1,hi=>simp at hi
  ·match i,h with
   |0,h=>cases h
   |i+1,h=>simp at h
  ·match i,h with
   |0,h=>cases h
   |i+1,h=>simp at h
  ·exact hE.le.cur i m u h
 ·cases hC
end Go.Proofs.YtbbpilohihldiaaGreatDoor
namespace Go.Proofs.YtbbpilohihldiaaGreatDoor.Vc
open Go.RowKit
@[go_sem] def a0k (np:Nat):DV->Bool
 | .any=>true
 | .nilS=>true
 | .val .ref (some (i,_))=>decide (i<np)
 | .val .ref none=>true
 | .val t _=>t.pure
 |_=>false
@[go_sem] def U0 (np:Nat):pR->Bool
 |(d,none)=>a0k np d
 |(.val (.list t) _,some k)=>t.pure&&decide (k<np)
 |_=>false
@[go_sem] def LX (np:Nat):List (Nat×pR)->Bool
 |[]=>true
 |(_,s)::r=>U0 np s&&LX np r
theorem aA7 {np:Nat}: ∀{env:List (Nat×pR)},LX np env=true->∀t,U0 np (lk env t)=true
 |[],_,t=>rfl
 |(k,s)::r,h,t=>by
  simp only[LX,aRm] at h;unfold lk;split
  ·exact h.1
  ·exact aA7 h.2 t
theorem aJ5 {np:Nat}{g g':Gh}{w:World}(hS:g'.S=g.S) (hJ: ∀i,i<np->g'.J i=g.J i) (hC: ∀i n,i<np->g'.cur i n=g.cur i n) {s:pR}{v:Value}(hp:U0 np s=true) (h:qV g w s v):qV g' w s v:=by
 have hV: ∀{t:Ty}{x:t.den},t.pure=true->sO g w t x v->sO g' w t x v:=fun ht hv=>by
  rcases hv with⟨h1,cs,h2,h3⟩ |⟨h1,h2⟩
  ·exact .inl ⟨h1,cs,h2,vH hS ht h3⟩
  ·exact .inr ⟨h1,vH hS ht h2⟩
 have hD: ∀d,a0k np d=true->z8 g w d v->z8 g' w d v:=by
  intro d hd hr;unfold a0k at hd;split at hd
  ·trivial
  ·exact hr
  ·rename_i i o;have hi:=aRZ hd;rcases hr with⟨h1,_⟩ |⟨h1,h2⟩
   ·cases h1
   ·refine .inr ⟨h1,?_⟩;obtain⟨p,hp1,hp2⟩:=h2;exact⟨p,(hJ i hi).trans hp1,hp2⟩
  ·rcases hr with⟨h1,_⟩ |⟨h1,h2⟩
   ·cases h1
   ·exact .inr ⟨h1,h2⟩
  ·exact hV hd hr
  ·cases hd
 obtain⟨d,k⟩:=s;cases k with
 |none=>exact⟨hD d hp h.1,trivial⟩
 |some k=>
  unfold U0 at hp;split at hp
  ·rename_i heq;cases heq
  ·rename_i t x k' heq;cases heq;simp only[aRm,aRk] at hp;exact⟨hV (t:= .list t) hp.1 h.1,(hC k _ hp.2).trans h.2⟩
  ·cases hp
theorem aJ6 {np:Nat}{g g':Gh}{w w':World}{env:List (Nat×pR)}{tmps:Array Value}(h:AG g w env tmps) (hp:LX np env=true) (hS: ∀b o,g.S b o->g'.S b o) (hc: ∀b o,g.S b o->w'.cell? ⟨b,o,none⟩=w.cell? ⟨b,o,none⟩)
  (hJ: ∀i p,i<np->g.J i=some p->g'.J i=some p) (hC: ∀i n v,i<np->g.cur i n=some v->g'.cur i n=some v):AG g' w' env tmps:=fun t=>by
 have le:Le g w ⟨g'.S,fun i=>if i<np then g'.J i else g.J i,fun i n=>if i<np then g'.cur i n else g.cur i n⟩ w':=by
  refine⟨hS,hc,fun i p hi=> ?_,fun i n v hi=> ?_⟩
  ·show (if i<np then _ else _)=_;split
   ·rename_i hlt;exact hJ i p hlt hi
   ·exact hi
  ·show (if i<np then _ else _)=_;split
   ·rename_i hlt;exact hC i n v hlt hi
   ·exact hi
 exact aJ5 (np:=np) (g:=⟨g'.S,fun i=>if i<np then g'.J i else g.J i,fun i n=>if i<np then g'.cur i n else g.cur i n⟩) (g':=g') rfl (fun i hi=>(if_pos hi).symm) (fun i n hi=>by show g'.cur i n=(if i<np then g'.cur i n else g.cur i n);rw[if_pos hi]) (aA7 hp t) (AC le (h t))
theorem sR.inner {A A':Nat->Nat->Prop}{L L':List pQ}{g0 g g':Gh}{w0 w w':World}{H H':rO}(h:sR A L g0 w0 g w H) (k:sR A' L' g w g' w' H') (hA: ∀b o,A' b o->w.heap.size<=b\/yQ g H b o) (hl:L.length<=L'.length)
  (hL: ∀i,i<L.length->∀b,L'[i]? =some b->pT H i=some b):sR A L g0 w0 g' w' H':=by
 have own: ∀b o,A' b o->w0.heap.size<=b\/A b o:=fun b o x=>by
  rcases hA b o x with h1|⟨i,blk,h1,h2⟩
  ·exact .inl (aSe h.fr.size h1)
  ·exact h.perm i blk b o h1 h2
 refine⟨fun b o x=> ?_,h.fr.trans k.fr own,fun i blk b o h1 h2=> ?_,fun i p hi hp=>k.J i p (by omega) (h.J i p hi hp),fun i hi=>k.live i (by omega),fun i u y us hi hg=> ?_,fun i n v hi hv=>k.cur i n v (by omega) (h.cur i n v hi hv)⟩
 ·obtain⟨h1,h2⟩:=h.shut b o x;obtain⟨k1,k2⟩:=k.shut b o h1;exact⟨k1,k2.trans h2⟩
 ·rcases k.perm i blk b o h1 h2 with h3|h3
  ·exact .inl (aSe h.fr.size h3)
  ·exact own b o h3
 ·obtain⟨x,ts,hx⟩:=k.ty i u y us (by omega) hg;exact h.ty i u x ts hi (hL i hi _ hx)
theorem sR.start {g:Gh}{w:World}{H:rO}{L':List pQ}(hH:rZ g w H) (hL: ∀i b,L'[i]? =some b->pT H i=some b/\b≠.dead) (hty: ∀i,i<L'.length->∀b,pT H i=some b->L'[i]? =some b):sR (yQ g H) L' g w g w H:=by
 refine⟨fun b o h=>⟨h,rfl⟩,Fr.refl _ _ _,fun i blk b o hg ho=> .inr ⟨i,blk,hg,ho⟩,fun _ _ _ h=>h,fun i hi=> ?_,fun i u y us hi hg=>⟨y,us,hty i hi _ hg⟩,fun _ _ _ _ h=>h⟩;obtain⟨h1,h2⟩:=hL i L'[i] (by simp);have hbk:=hH.blk i _ h1;generalize L'[i]=blk at hbk h2;cases blk with
 |cells t x ts=>obtain⟨p,cs,hp,_⟩:=hbk;exact .inl ⟨p,hp⟩
 |grow e c n=>obtain⟨v,xs,hv,_⟩:=hbk;exact .inr ⟨n,v,hv⟩
 |row e t l n=>obtain⟨_,v,xs,hv,_⟩:=hbk;exact .inr ⟨n,v,hv⟩
 |map k v l=>obtain⟨p,es,cl,hp,_⟩:=hbk;exact .inl ⟨p,hp⟩
 |iter s n=>obtain⟨p,hp,_⟩:=hbk;exact .inl ⟨p,hp⟩
 |dead=>exact absurd rfl h2
@[go_sem] def JH (env:List (Nat×pR)):List Nat->List pR->List (Nat×pR)
 |p::ps,s::ss=>JH (sX (some p) s env) ps ss
 |_,_=>env
theorem aA8 {g:Gh}{w:World}: ∀{ps:List Nat}{ss:List pR}{vs:List Value}{env:List (Nat×pR)}{tmps:Array Value},AG g w env tmps->(∀p∈ps,p<tmps.size)->v8 g w ss vs->ps.length=ss.length->
  AG g w (JH env ps ss) ((ps.zip vs).foldl (fun t (q:Nat×Value)=>t.setIfInBounds q.1 q.2) tmps)/\((ps.zip vs).foldl (fun t (q:Nat×Value)=>t.setIfInBounds q.1 q.2) tmps).size=tmps.size
 |[],[],vs,env,tmps,h,_,ha,_=>by
  have:vs=[]:=ha;subst this;exact⟨h,rfl⟩
 |p::ps,s::ss,vs,env,tmps,h,hp,ha,hl=>by
  obtain⟨v,vs',rfl,h1,h2⟩:=ha;have hput:AG g w (sX (some p) s env) (tmps.setIfInBounds p v):=ZJ (a:={tmps:=tmps,defers:=[]}) (o:=⟨some p,.move (.tmp 0),0, "",#[],none⟩) (N:=tmps.size) h (Le.refl g w) h1 rfl (by simpa[H0] using hp p (by simp))
  have:=aA8 (tmps:=tmps.setIfInBounds p v) hput (fun q hq=>by simpa using hp q (aRt _ hq)) h2 (by simpa using hl);exact⟨this.1,by rw[List.zip_cons_cons,List.foldl_cons];rw[this.2];simp⟩
def a0l (P:Program) (gf:Nat) (u:Ty) {ι:Type}(pre:u.den->Prop) (items:u.den->List ι) (vl:ι->List Value):Prop:=
 (∀args w,(callFunc gf args).run P w= .ok (.enter gf args) w)/\
 ∀(l b o:Nat) (x:u.den) (cs:List Value) (g:Gh) (W0:World) (J:Nat->World->Prop) (Jx:World->Prop),pre x->Rd g W0 u x cs->
  (∀i W,J i W->W.rangeAt b o cs/\∀b o,g.S b o->W.cell? ⟨b,o,none⟩=W0.cell? ⟨b,o,none⟩)->
  (∀i W d,J i W->J i {W with drawn:=d})->(∀W d,Jx W->Jx {W with drawn:=d})->
  (∀i it W,(items x)[i]? =some it->J i W->YieldAt Fence.wide 0 P l (vl it).toArray W fun e W'=>(e= .returned (.bool true)/\J (i+1) W')\/(e= .returned (.bool false)/\Jx W'))->
  ∀W,J 0 W->Calls P gf #[.func (.yield l) #[] #[],.pointer (some ⟨b,o,none⟩)] W fun e W'=>(∃v,e= .returned v)/\(J (items x).length W'\/Jx W')
def vX {ι σ ρ:Type}(f:ι->σ->Option (σ⊕ρ)):List ι->σ->Option (σ⊕ρ)
 |[],x=>some (.inl x)
 |it::r,x=>(f it x).bind fun w=>match w with
  | .inl x'=>vX f r x'
  | .inr y=>some (.inr y)
theorem aJ7 {ι σ ρ:Type}{f:ι->σ->Option (σ⊕ρ)}{it:ι}{r:List ι}{x:σ}{y:σ⊕ρ}(h:vX f (it::r) x=some y): ∃w,f it x=some w/\(∀x',w= .inl x'->vX f r x'=some y)/\(∀z,w= .inr z->y= .inr z):=by
 unfold vX at h;cases hf:f it x with
 |none=>rw[hf] at h;cases h
 |some w=>
  rw[hf] at h;refine⟨w,rfl,fun x' e=> ?_,fun z e=> ?_⟩
  ·subst e;exact h
  ·subst e;exact(aRl h).symm
def qA (st:St):Ex->St->Prop
 | .normal,s=> ∃k:vK,s.keep k=st
 |_,_=>False
def qF {σ ρ:Type}(encH:σ->List pQ) (E0:List (Nat×pR)) (N np np':Nat) (w:σ⊕ρ) (Q:Ex->St->Prop):Ex->St->Prop
 | .normal,s=> ∃(k:vK) (x:σ),w= .inl x/\s.keep k=⟨[],qE 0 (encH x),qK (encH x),N,np'⟩
 |e,s=> ∃(k:vK) (B:List pQ),s.keep k=⟨[],qE 0 B,qK B,N,np'⟩/\(∃z,w= .inr z)/\Q e ⟨E0,qE 0 B,qK B,N,np⟩
section
variable {B:Nat}{A:Nat->Nat->Prop}{L:List pQ}{g0 g:Gh}{w0 w:World}{b0 o0 n0:Nat}{cs:List Value}{E0:List (Nat×pR)}{tmps:Array Value}{ds:List Deferred}
structure BG (B:Nat) (A:Nat->Nat->Prop) (L:List pQ) (g0:Gh) (w0:World) (g:Gh) (w:World) (b0 o0 n0:Nat) (cs:List Value) (E0:List (Nat×pR)) (tmps:Array Value) (ds:List Deferred) (g1:Gh) (W:World) (H:rO):Prop where
 env:AG g1 W E0 tmps
 heap:rZ g1 W H
 good:sR A L g0 w0 g1 W H
 sld: ∀b o,g.S b o->g1.S b o/\W.cell? ⟨b,o,none⟩=w.cell? ⟨b,o,none⟩
 rng:W.rangeAt b0 o0 cs
 len:cs.length=n0
 lt:0<n0->b0<W.heap.size
 out: ∀o,o0<=o->o<o0+n0->¬yQ g1 H b0 o
 defs:yR B W ds
theorem BG.turn {g1:Gh}{W W2:World}{H:rO}(h:BG B A L g0 w0 g w b0 o0 n0 cs E0 tmps ds g1 W H) (t:uL w0.heap.size W W2) {ds':List Deferred}(hd:yR B W2 ds'):BG B A L g0 w0 g w b0 o0 n0 cs E0 tmps ds' g1 W2 H:=by
 refine⟨fun x=>AC (t.le h.heap.sl) (h.env x),t.heapOk h.heap,h.good.turn h.heap.sl t,fun b o x=>⟨(h.sld b o x).1,(t.cell (h.heap.sl b o (h.sld b o x).1) o).1.trans (h.sld b o x).2⟩,fun j v hv=> ?_,h.len,fun x=>aRX (h.lt x) t.size,h.out,hd⟩;have hj:j<cs.length:=(aRu.1 hv).1;have:=h.len;exact(t.cell (h.lt (by omega)) _).1.trans (h.rng j v hv)
theorem BG.inner {g1 g2:Gh}{W W2:World}{H H2:rO}{L':List pQ}{np':Nat}(h:BG B A L g0 w0 g w b0 o0 n0 cs E0 tmps ds g1 W H) (k:sR (yQ g1 H) L' g1 W g2 W2 H2) (hH:rZ g2 W2 H2) (hpin:LX np' E0=true) (hnp:np'=L'.length) (hl:L.length<=L'.length)
  (hL: ∀i,i<L.length->∀b,L'[i]? =some b->pT H i=some b):BG B A L g0 w0 g w b0 o0 n0 cs E0 tmps ds g2 W2 H2:=by
 subst hnp;refine⟨aJ6 h.env hpin (fun b o x=>(k.shut b o x).1) (fun b o x=>(k.shut b o x).2) (fun i p hi x=>k.J i p hi x) (fun i n v hi x=>k.cur i n v hi x),hH,h.good.inner k (fun b o x=> .inr x) hl hL,fun b o x=> ?_,fun j v hv=> ?_,h.len,fun x=>aRX (h.lt x) k.fr.size,fun o h1 h2 ⟨i,blk,h3,h4⟩=> ?_,h.defs.same fun D hD=> ?_⟩
 ·obtain⟨h1,h2⟩:=h.sld b o x;exact⟨(k.shut b o h1).1,(k.shut b o h1).2.trans h2⟩
 ·have hj:j<cs.length:=(aRu.1 hv).1;have:=h.len;exact(k.fr.cell _ _ (h.lt (by omega)) (h.out _ (by omega) (by omega))).1.trans (h.rng j v hv)
 ·rcases k.perm i blk _ _ h3 h4 with h5|h5
  ·have:=h.lt (by omega);omega
  ·exact h.out o h1 h2 h5
 ·rw[k.fr.blk D (aRE.1 hD).1 (fun o ⟨i,blk,h1,h2⟩=>TL (h.heap.blk i blk h1) h2 hD rfl)];exact hD
theorem aA9 {g1 g2:Gh}{W W2:World}{H H2:rO}{L':List pQ}(hH:rZ g1 W H) (k:sR (yQ g1 H) L' g1 W g2 W2 H2) {D:Nat}{ob:Obj}(hD:W.heap[D]? =some ob) (hm:FD ob=true):W2.heap[D]? =some ob:=by
 rw[k.fr.blk D (aRE.1 hD).1 (fun o ⟨i,blk,h1,h2⟩=>TL (hH.blk i blk h1) h2 hD hm)];exact hD
end
theorem uL.put {B:Nat}{W:World}{l:Nat}{o o':Obj}(h:W.heap[l]? =some o) (hB:B<=l) (hN:NG<=l) (hm:FD o=true) (hm':FD o'=true):uL B W (W.putObj l o'):=by
 have hlt:=(aRE.1 h).1;refine⟨rfl,rfl,rfl,by simp [World.putObj],fun b hb=> ?_⟩;by_cases e:b=l
 ·subst e;exact .inr ⟨hB,hN,_,_,h,World.putObj_heap_same hlt,hm,hm'⟩
 ·exact .inl (World.putObj_heap_other e)
theorem uL.new (B:Nat) (W:World) (o:Obj):uL B W (W.alloc o):=by
 refine⟨rfl,rfl,rfl,by simp,fun b hb=> .inl ?_⟩;exact aRL W o b hb
theorem aBa {e:Ex}{x:Exit}(h:DY x=some e):(x= .normal/\e= .normal)\/(x= .ret/\e= .ret)\/∃id,x= .exit id/\e= .exit id:=by
 cases x<;>simp only[DY,aRg] at h
 ·exact .inl ⟨rfl,h.symm⟩
 ·exact .inr (.inr ⟨_,rfl,h.symm⟩)
 ·cases h
 ·exact .inr (.inl ⟨rfl,h.symm⟩)
 ·cases h
 ·cases h
def aJ8:Ex->Option Code
 | .normal=>none
 | .ret=>some .ret
 | .exit id=>some (.exit id)
theorem a0m {P:Program}{gf:Nat}{u:Ty}{ι:Type}{pre:u.den->Prop}{items:u.den->List ι}{vl:ι->List Value}(hit:a0l P gf u pre items vl) {sl:ι->List pR}(hsl: ∀it g w,v8 g w (sl it) (vl it))
  {fo:Operand}{ps:Array Tmp}{assign body:Code}{s:St}{Q:Ex->St->Prop}{c:Nat}{k0:Option Nat}(hf:tH s.env fo=(.val .clo (some (gf,[(c,0)])),k0)) {xc:u.den}{toks:List (Nat×Nat)}(hc:pT s.H c=some (.cells u xc toks)) (hpre:pre xc)
  {σ ρ:Type}{f:ι->σ->Option (σ⊕ρ)}{x0:σ}{y:σ⊕ρ}(hy:vX f (items xc) x0=some y)
  (E0:List (Nat×pR)) (E1:ι->List (Nat×pR)) (encH:σ->List pQ) (np':Nat) (k:vK) (hk:xE s.np k.ids=true) (h0:s.keep k=⟨E0,qE 0 (encH x0),qK (encH x0),s.N,s.np⟩)
  (hcd:k.ids.all (fun q=>decide (q.2≠c))=true) (hpin:LX np' E0=true) (hnp:s.np<=np') (hlen: ∀x,np'<=qK (encH x)) (hdead: ∀x,((encH x).take np').all (fun b=>match b with| .dead=>false|_=>true)=true)
  (hps: ∀it,ps.toList.length=(sl it).length) (hpN:(ps.toList.all fun p=>decide (p<s.N))=true)
  (hround: ∀it x w,f it x=some w->(∀z,w= .inr z->y= .inr z)->Ev true P assign ⟨JH E0 ps.toList (sl it),qE 0 (encH x),qK (encH x),s.N,np'⟩ (qA ⟨E1 it,qE 0 (encH x),qK (encH x),s.N,np'⟩)/\
   Ev true P body ⟨E1 it,qE 0 (encH x),qK (encH x),s.N,np'⟩ (qF encH E0 s.N s.np np' w Q))
  (hdone: ∀x,y= .inl x->Q .normal ⟨E0,qE 0 (encH x),qK (encH x),s.N,s.np⟩):Ev false P (.rangeFunc fo ps assign body) s Q:=by
 intro ro hro A L g0 w0 g a w B hB hr hg hn;have hN:ro=none:=by cases ro<;>first|rfl|cases hro
 subst hN;have hfv:=zG hr.env fo;rw[hf] at hfv;obtain⟨p,hpJ,hev⟩: ∃p,g.J c=some p/\a.eval fo= .func (.func gf) #[] #[.pointer (some ⟨p.1,p.2,none⟩)]:=by
  rcases hfv.1 with⟨h1,_⟩ |⟨_,vs,⟨p,vs',h4,h5,h6⟩,h3⟩
  ·cases h1
  ·rw[show vs'=[] from h6] at h5;subst h5;simp only[aR7,and_true] at h3;exact⟨p,h4,h3⟩
 obtain⟨p',cs,hp',hRc,hra,hth,hns,htk⟩:=hr.heap.blk c _ hc;rw[hpJ] at hp';obtain rfl:=aRl hp';have hcl:=sH hRc;obtain⟨hr1,hg1,hn1,_⟩:=ZI hr hg hn k hk;have hout: ∀o,p.2<=o->o<p.2+u.cells->¬yQ (u6 g s.np k.ids) (s.keep k).H p.1 o:=by
  rintro o h1 h2 ⟨i,blk,h3,h4⟩;have h3':pT (OC s k (xE s.np k.ids)).H i=some blk:=h3;rw[hk] at h3';obtain⟨o',h5,rfl⟩:=HA h3';obtain⟨c1,h6,h7⟩:=(JC hk h5 fun c1 hc1=>hr.heap.blk o' c1 hc1).2 _ _ h4;have h8:=aRW.1 hcd _ h5;exact hr.heap.dis o' c c1 _ p.1 o (aRZ h8) h6 hc h7 ⟨p,hpJ,rfl,h1,h2⟩
 rw[h0] at hr1 hg1 hout;have inv0:BG B A L g0 w0 g w p.1 p.2 u.cells cs E0 a.tmps a.defers (u6 g s.np k.ids) w (qE 0 (encH x0)):=
  ⟨hr1.env,hr1.heap,hg1,fun b o h=>⟨h,rfl⟩,hra,hcl,fun hpos=>by
   obtain⟨v,hv⟩:=aRi.1 (hth.1 0 hpos).1;exact SX hv,hout,hr.def_⟩
 have hNG:NG<=w.heap.size:=hr.heap.tab.1.1;have hBw:w0.heap.size<=w.heap.size:=hg.fr.size;refine wpIn_rangeFunc fun fn _=> ?_;obtain⟨rec,hrec⟩: ∃rec:LoopState->Option Code->Loop,rec=fun st pe=>{state:=st,pending:=pe,fn,tmps:=a.tmps,params:=ps,assign,body,defers:=w.heap.size}:=⟨_,rfl⟩;obtain⟨W1,hW1⟩: ∃W1,(w.alloc (.deferred (some []))).alloc (.loop (rec .ready none))=W1:=⟨_,rfl⟩;have hL1:W1.heap[w.heap.size+1]? =some (.loop (rec .ready none)):=by
  rw[<-hW1];have:=World.alloc_heap_new (w.alloc (.deferred (some []))) (.loop (rec .ready none));rwa [World.size_alloc] at this
 have hK1:W1.heap[w.heap.size]? =some (.deferred (some [])):=by
  rw[<-hW1];exact(aRL _ _ _ (by simp)).trans (World.alloc_heap_new w _)
 have t1:uL w0.heap.size w W1:=by rw[<-hW1];exact(uL.new _ _ _).trans (uL.new _ _ _)
 obtain⟨ds,hds⟩: ∃ds:List Deferred,{target:= .collected w.heap.size,args:= #[]}::a.defers=ds:=⟨_,rfl⟩;have hd1:yR B W1 ds:=by
  rw[<-hds];refine⟨List.nodup_cons.2 ⟨fun hm=> ?_,hr.def_.1⟩,fun d hd=> ?_⟩
  ·obtain⟨D,h1,_,_,h4⟩:=hr.def_.2 _ hm;have h5:w.heap.size=D:=by injection h1 with h1;injection h1
   have:=(aRE.1 h4).1;omega
  ·rcases aRv.1 hd with rfl|hd
   ·exact⟨_,rfl,by omega,hNG,hK1⟩
   ·obtain⟨D,h1,h2,h3,h4⟩:=hr.def_.2 _ hd;have hlt:=(aRE.1 h4).1;refine⟨D,h1,h2,h3,?_⟩;rw[<-hW1];exact(aRL _ _ D (by simp;omega)).trans ((aRL _ _ D hlt).trans h4)
 let l:=w.heap.size+1
 let J:Nat->World->Prop:=fun i W=> ∃g1 x,vX f ((items xc).drop i) x=some y/\BG B A L g0 w0 g w p.1 p.2 u.cells cs E0 a.tmps ds g1 W (qE 0 (encH x))/\
  (∀j,qK (encH x)<=j->g1.J j=none/\∀n,g1.cur j n=none)/\W.heap[l]? =some (.loop (rec .ready none))
 let Jx:World->Prop:=fun W=> ∃g1 Bl e cd z,aJ8 e=some cd/\y= .inr z/\Q e ⟨E0,qE 0 Bl,qK Bl,s.N,s.np⟩/\BG B A L g0 w0 g w p.1 p.2 u.cells cs E0 a.tmps ds g1 W (qE 0 Bl)/\
  (∀j,qK Bl<=j->g1.J j=none/\∀n,g1.cur j n=none)/\s.np<=qK Bl/\W.heap[l]? =some (.loop (rec .done (some cd)))
 have tdrawn: ∀(W:World) (d:Nat),uL w0.heap.size W {W with drawn:=d}:=fun W d=>⟨rfl,rfl,rfl,Nat.le_refl _,fun _ _=> .inl rfl⟩
 have hJd: ∀i W d,J i W->J i {W with drawn:=d}:=fun i W d ⟨g1,x,h1,h2,h3,h4⟩=>⟨g1,x,h1,h2.turn (tdrawn W d) (h2.defs.same fun _ h=>h),h3,h4⟩
 have hJxd: ∀W d,Jx W->Jx {W with drawn:=d}:=fun W d ⟨g1,Bl,e,cd,z,h1,h2,h3,h4,h5,h6,h7⟩=>⟨g1,Bl,e,cd,z,h1,h2,h3,h4.turn (tdrawn W d) (h4.defs.same fun _ h=>h),h5,h6,h7⟩
 have hround2: ∀i it W,(items xc)[i]? =some it->J i W->YieldAt Fence.wide 0 P l (vl it).toArray W fun e W'=>(e= .returned (.bool true)/\J (i+1) W')\/(e= .returned (.bool false)/\Jx W'):=by
  rintro i it W hi ⟨g1,x,hfold,inv,nb,hl⟩;have hil:i<(items xc).length:=(aRu.1 hi).1;have hdrop:(items xc).drop i=it::(items xc).drop (i+1):=by
   rw[aRC hil];congr 1;exact(aRu.1 hi).2
  rw[hdrop] at hfold;obtain⟨wv,hw,hinl,hinr⟩:=aJ7 hfold;obtain⟨evA,evB⟩:=hround it x wv hw hinr;have hvl:(vl it).toArray.size=ps.size:=by
   rw[aR8,(TU (hsl it g1 W)).1,<-hps it,aRP]
  have hyl:=run_yield (P:=P) (args:=(vl it).toArray) hl (by rw[hrec];exact hvl);rw[hrec] at hyl;refine⟨fn,_,assign,body,hyl,roundIn_of_wpIn trivial ?_⟩;have hz:(ps.zip (vl it).toArray).foldl (fun tmps (t,v)=>tmps.setIfInBounds t v) a.tmps=(ps.toList.zip (vl it)).foldl (fun t (q:Nat×Value)=>t.setIfInBounds q.1 q.2) a.tmps:=by
   rw[<-aTn,Array.toList_zip]
  rw[hz];obtain⟨henv,hsz⟩:=aA8 inv.env (fun q hq=>by rw[hr.size];exact aRZ (aRW.1 hpN q hq)) (hsl it g1 W) (hps it);have hL'len:((encH x).take np').length=np':=by
   rw[aRH];have:=hlen x;rw[TV] at this;omega
  have hLget: ∀i b,((encH x).take np')[i]? =some b->pT (qE 0 (encH x)) i=some b:=fun i b h=>by
   rw[xM];exact(aTk (by have:=(aRu.1 h).1;omega)).symm.trans h
  have hLget2: ∀i b,((encH x).take np')[i]? =some b->pT (qE 0 (encH x)) i=some b/\b≠.dead:=fun i b h=>⟨hLget i b h,fun e=>by
   have:=aRW.1 (hdead x) b (List.mem_of_getElem? h);subst e;cases this⟩
  have hLty: ∀i,i<((encH x).take np').length->∀b,pT (qE 0 (encH x)) i=some b->((encH x).take np')[i]? =some b:=fun i hi b h=>by
   rw[xM] at h;exact(aTk (by omega)).trans h
  have gs:=sR.start inv.heap hLget2 hLty;have rA:uO W.heap.size g1 W ⟨JH E0 ps.toList (sl it),qE 0 (encH x),qK (encH x),s.N,np'⟩ {tmps:=(ps.toList.zip (vl it)).foldl (fun t (q:Nat×Value)=>t.setIfInBounds q.1 q.2) a.tmps,defers:=[]}:=⟨henv,inv.heap,hsz.trans hr.size,nb,a9V _ _,hlen x⟩;have hlow:L.length<=((encH x).take np').length:=by rw[hL'len,<-hn];exact hnp
  refine aS8 (evA (some l) rfl _ _ g1 W g1 _ W _ (Nat.le_refl _) rA gs hL'len.symm) fun e a1 wa hp=> ?_;obtain⟨e',g2,s2,e1,e2,e3,e4,e5⟩:=hp;rcases aBa e1 with⟨rfl,rfl⟩ |⟨rfl,rfl⟩ |⟨id,rfl,rfl⟩
  ·obtain⟨kA,hkA⟩:=e2;obtain⟨g3,k1,k2,k3,_⟩:=FE e3 e4 e5 kA;rw[hkA] at k1 k2;have inva:=inv.inner k2 k1.heap hpin hL'len.symm hlow (fun i hi b h=>hLget i b h);have hla:=aA9 inv.heap k2 hl rfl;refine⟨_,run_beginRound hla (by rw[hrec]),?_⟩;obtain⟨Wb,hWb⟩: ∃Wb,wa.putObj l (.loop {rec .ready none with state:= .busy})=Wb:=⟨_,rfl⟩
   have tb:uL w0.heap.size wa Wb:=by rw[<-hWb];exact uL.put hla (by show w0.heap.size<=w.heap.size+1;omega) (by show NG<=w.heap.size+1;omega) rfl rfl
   have hlt:=(aRE.1 hla).1;have other: ∀{W:World}{o o':Obj}{D:Nat},W.heap[l]? =some (.loop (rec .ready none))\/W.heap[l]? =some (.loop {rec .ready none with state:= .busy})->W.heap[D]? =some (.deferred (some []))->(W.putObj l o').heap[D]? =some (.deferred (some [])):=by
    intro W o o' D h1 h2;rw[World.putObj_heap_other (fun e=>by subst e;rcases h1 with h1|h1<;>(rw[h1] at h2;cases h2))]
    exact h2
   have invb:=inva.turn tb (inva.defs.same fun D hD=>by rw[<-hWb];exact other (o:= .loop (rec .ready none)) (.inl hla) hD);have hlb:Wb.heap[l]? =some (.loop {rec .ready none with state:= .busy}):=by rw[<-hWb];exact World.putObj_heap_same hlt
   rw[hWb];have gsb:=sR.start invb.heap hLget2 hLty;have rB:uO W.heap.size g3 Wb ⟨E1 it,qE 0 (encH x),qK (encH x),s.N,np'⟩ a1:=⟨fun t=>AC (tb.le k1.heap.sl) (k1.env t),invb.heap,k1.size,k1.nb,k1.def_.same fun D hD=>by rw[<-hWb];exact other (o:= .loop (rec .ready none)) (.inl hla) hD,hlen x⟩;have hWW:W.heap.size<=Wb.heap.size:=aSe k2.fr.size tb.size;refine aS8 (evB (some l) rfl _ _ g3 Wb g3 a1 Wb _ hWW rB gsb hL'len.symm) fun e a2 wc hp=> ?_;obtain⟨e',g4,s4,e1,e2,e3,e4,e5⟩:=hp;have wQ: ∀(kB:vK) (Bl:List pQ),s4.keep kB=⟨[],qE 0 Bl,qK Bl,s.N,np'⟩->∀jump:Option Code,∃g5,BG B A L g0 w0 g w p.1 p.2 u.cells cs E0 a.tmps ds g5 (wc.putObj l (.loop (rec (if jump.isNone then .ready else .done) jump))) (qE 0 Bl)/\
     (∀j,qK Bl<=j->g5.J j=none/\∀n,g5.cur j n=none)/\np'<=qK Bl/\(wc.putObj l (.loop (rec (if jump.isNone then .ready else .done) jump))).heap[l]? =some (.loop (rec (if jump.isNone then .ready else .done) jump))/\
     (Instr.endRound l jump).run P wc= .ok (.bool jump.isNone) (wc.putObj l (.loop (rec (if jump.isNone then .ready else .done) jump))):=by
    intro kB Bl hkB jump;obtain⟨g5,j1,j2,j3,_⟩:=FE e3 e4 e5 kB;rw[hkB] at j1 j2;have invc:=invb.inner j2 j1.heap hpin hL'len.symm hlow (fun i hi b h=>hLget i b h);have hlc:=aA9 invb.heap j2 hlb rfl;have hltc:=(aRE.1 hlc).1;have tc:uL w0.heap.size wc (wc.putObj l (.loop (rec (if jump.isNone then .ready else .done) jump))):=uL.put hlc (by show w0.heap.size<=w.heap.size+1;omega) (by show NG<=w.heap.size+1;omega) rfl rfl;refine⟨g5,invc.turn tc (invc.defs.same fun D hD=>other (o:= .loop (rec .ready none)) (.inr hlc) hD),j1.nb,j1.np,World.putObj_heap_same hltc,?_⟩;have:=run_endRound (P:=P) jump hlc;rw[this,hrec]
   rcases aBa e1 with⟨rfl,rfl⟩ |⟨rfl,rfl⟩ |⟨id,rfl,rfl⟩
   ·obtain⟨kB,x',rfl,hkB⟩:=e2;obtain⟨g5,q1,q2,q3,q4,q5⟩:=wQ kB _ hkB none;exact⟨_,_,q5,.inl ⟨rfl,g5,x',hinl x' rfl,q1,q2,q4⟩⟩
   ·obtain⟨kB,Bl,hkB,⟨z,rfl⟩,hq⟩:=e2;obtain⟨g5,q1,q2,q3,q4,q5⟩:=wQ kB _ hkB (some .ret);exact⟨_,_,q5,.inr ⟨rfl,g5,Bl,.ret,.ret,z,rfl,hinr z rfl,hq,q1,q2,aSe hnp q3,q4⟩⟩
   ·obtain⟨kB,Bl,hkB,⟨z,rfl⟩,hq⟩:=e2;obtain⟨g5,q1,q2,q3,q4,q5⟩:=wQ kB _ hkB (some (.exit id));exact⟨_,_,q5,.inr ⟨rfl,g5,Bl,.exit id,.exit id,z,rfl,hinr z rfl,hq,q1,q2,aSe hnp q3,q4⟩⟩
  ·exact e2.elim
  ·exact e2.elim
 refine⟨l,[{target:= .collected w.heap.size,args:= #[]}],W1,{target:= .fn (.func gf) #[.pointer (some ⟨p.1,p.2,none⟩)],args:= #[.func (.yield l) #[] #[]]},W1,gf,#[.func (.yield l) #[] #[]]++ #[.pointer (some ⟨p.1,p.2,none⟩)],W1,?_,?_,fun _ _=>trivial,?_,fun h=>(by cases h),?_⟩
 ·rw[<-hW1,hrec];exact run_enterLoop_outer _ _ _ _ _
 ·simp only[resolve,hev];simp [go_sem]
 ·simp [invoke,go_sem,hit.1]
 ·have inv1:=inv0.turn t1 hd1;refine(a94 (ro:=none) (n:=0-1) (hit.2 l p.1 p.2 xc cs g w J Jx hpre hRc (fun i W ⟨g1,x,_,h2,_⟩=>⟨h2.rng,fun b o hb=>(h2.sld b o hb).2⟩) hJd hJxd hround2 W1 ⟨_,x0,hy,inv1,hr1.nb,hL1⟩)).mono ?_;have hend: ∀{W:World}{r:Loop},W.heap[l]? =some (.loop r)->∀{ds0:List Deferred},yR B W ds0->yR B (W.putObj l (.loop {r with state:= .exhausted})) ds0:=by
   intro W r h1 ds0 h2;refine h2.same fun D hD=> ?_;rw[World.putObj_heap_other (fun e=>by subst e;rw[h1] at hD;cases hD)];exact hD
  rintro e W2 ⟨⟨v,rfl⟩,(⟨g1,x,h1,h2,h3,h4⟩ |⟨g1,Bl,e,cd,z,h1,h2,h3,h4,h5,h6,h7⟩)⟩
  ·rw[aSb] at h1;have hyx:y= .inl x:=(aRl h1).symm;have hin:=h2.turn (uL.put (o':= .loop {rec .ready none with state:= .exhausted}) h4 (by show w0.heap.size<=w.heap.size+1;omega) (by show NG<=w.heap.size+1;omega) rfl rfl) (hend h4 h2.defs)
   refine⟨none,W2.putObj l (.loop {rec .ready none with state:= .exhausted}),by have:=run_endLoop (P:=P) h4 (by rw[hrec];simp);rw[hrec] at this⊢;exact this,?_⟩
   refine⟨.normal,g1,_,rfl,hdone x hyx,⟨hin.env,hin.heap,hr.size,h3,?_,aSe hnp (hlen x)⟩,hin.good,hn⟩;have:=hin.defs;rw[<-hds] at this;exact this
  ·have hin:=h4.turn (uL.put (o':= .loop {rec .done (some cd) with state:= .exhausted}) h7 (by show w0.heap.size<=w.heap.size+1;omega) (by show NG<=w.heap.size+1;omega) rfl rfl) (hend h7 h4.defs)
   refine⟨some cd,W2.putObj l (.loop {rec .done (some cd) with state:= .exhausted}),by have:=run_endLoop (P:=P) h7 (by rw[hrec];simp);rw[hrec] at this⊢;exact this,?_⟩
   have hdef:=hin.defs;rw[<-hds] at hdef;have hrel:uO B g1 (W2.putObj l (.loop {rec .done (some cd) with state:= .exhausted})) ⟨E0,qE 0 Bl,qK Bl,s.N,s.np⟩ {a with defers:=[{target:= .collected w.heap.size,args:= #[]}]++a.defers}:=⟨hin.env,hin.heap,hr.size,h5,hdef,h6⟩
   cases e with
   |normal=>cases h1
   |ret=>
    obtain rfl:=aRl h1;exact wpIn_ret ⟨.ret,g1,_,rfl,h3,hrel,hin.good,hn⟩
   |exit id=>
    obtain rfl:=aRl h1;exact wpIn_exit ⟨.exit id,g1,_,rfl,h3,hrel,hin.good,hn⟩
section
variable {σ ρ:Type}{encH:σ->List pQ}{E0:List (Nat×pR)}{N np np':Nat}{w:σ⊕ρ}{Q:Ex->St->Prop}{st s:St}
theorem a0n (k:vK) (h:s.keep k=st):qA st .normal s:=⟨k,h⟩
theorem a0o (k:vK) (x:σ) (hw:w= .inl x) (h:s.keep k=⟨[],qE 0 (encH x),qK (encH x),N,np'⟩):qF encH E0 N np np' w Q .normal s:=⟨k,x,hw,h⟩
theorem aJ9 (k:vK) (B:List pQ) (z:ρ) (hw:w= .inr z) (h:s.keep k=⟨[],qE 0 B,qK B,N,np'⟩) (hq:Q .ret ⟨E0,qE 0 B,qK B,N,np⟩):qF encH E0 N np np' w Q .ret s:=⟨k,B,h,⟨z,hw⟩,hq⟩
end
end Go.Proofs.YtbbpilohihldiaaGreatDoor.Vc
namespace Go.Proofs.YtbbpilohihldiaaGreatDoor
open Go.RowKit Go.Shelf Vc
section
attribute [local go_sem] Oper.semAt_some
def BH (d:(Ty.pair .str (.pair (.list .str) (.pair .str .unit))).den):List (Int×List UInt8):=
 (0,d.1)::((List.range d.2.1.length).map fun j:Nat=>((j:Int)+1,d.2.1.getD j []))++[((d.2.1.length:Int)+1,d.2.2.1)]
def JI (it:Int×List UInt8):List Value:=[.int .i64 it.1,.string ⟨it.2.toArray⟩]
@[go_sem] def U1 (it:Int×List UInt8):List pR:=[(.val (.int .i64) it.1,none),(.val .str it.2,none)]
theorem a0p (it:Int×List UInt8) (g:Gh) (w:World):v8 g w (U1 it) (JI it):=⟨_,_,rfl,⟨wH _ _ _ _,trivial⟩,_,_,rfl,⟨DT _ _ _,trivial⟩,rfl⟩
theorem aKa (d:(Ty.pair .str (.pair (.list .str) (.pair .str .unit))).den):(BH d).length=d.2.1.length+2:=by simp [BH]
theorem aKb (d:(Ty.pair .str (.pair (.list .str) (.pair .str .unit))).den):(BH d)[0]? =some (0,d.1):=by simp [BH]
theorem aKc (d:(Ty.pair .str (.pair (.list .str) (.pair .str .unit))).den) {j:Nat}(h:j<d.2.1.length):(BH d)[j+1]? =some ((j:Int)+1,d.2.1.getD j []):=by
 simp [BH,aRz,h]
theorem aKd (d:(Ty.pair .str (.pair (.list .str) (.pair .str .unit))).den):(BH d)[d.2.1.length+1]? =some ((d.2.1.length:Int)+1,d.2.2.1):=by
 simp [BH]
theorem aKe:a0l Tryz.prog 92 (.pair .str (.pair (.list .str) (.pair .str .unit))) (fun d=>d.2.1.length<=4611686018427387904) BH JI:=by
 refine⟨fun _ _=>rfl,?_⟩;intro l b o d cs g W0 J Jx hpre hR hrd hJd hJxd hY W h0;obtain⟨c1,c2,rfl,hh,c3,c4,rfl,hl,c5,c6,rfl,ht,hu⟩:=hR;rw[show c1=[.string ⟨d.1.toArray⟩] from hh] at hrd;rw[show c5=[.string ⟨d.2.2.1.toArray⟩] from ht,show c6=[] from hu] at hrd;obtain⟨a,cap,rfl,hcap,hel⟩:=hl;have r0: ∀i W,J i W->W.cell? ⟨b,o,none⟩=some (.string ⟨d.1.toArray⟩):=fun i W h=>by simpa using(hrd i W h).1 0 _ rfl
 have r1: ∀i W,J i W->W.cell? ⟨b,o+1,none⟩=some (.slice a d.2.1.length cap):=fun i W h=>(hrd i W h).1 1 _ rfl;have r2: ∀i W,J i W->W.cell? ⟨b,o+2,none⟩=some (.string ⟨d.2.2.1.toArray⟩):=fun i W h=>(hrd i W h).1 2 _ rfl;have re: ∀j,j<d.2.1.length->∃b' o',a=some ⟨b',o',none⟩/\∀i W,J i W->W.cell? ⟨b',o'+j,none⟩=some (.string ⟨(d.2.1.getD j []).toArray⟩):=by
  intro j hj;rcases hel with h|⟨b',o',h1,h2⟩
  ·rw[h] at hj;cases hj
  ·refine⟨b',o',h1,fun i W h=> ?_⟩;have hg:d.2.1[j]? =some (d.2.1.getD j []):=by rw[aRD,aRn hj];rfl
   obtain⟨cs,k1,k2,k3,k4⟩:=T0 h2 hg;rw[show cs=[.string ⟨(d.2.1.getD j []).toArray⟩] from k4] at k2;have k5:=k2 0 _ rfl;have k6:=k3 0 (by decide);rw[aSG,show j*Ty.str.cells=j from aTp j] at k5 k6;rw[(hrd i W h).2 _ _ k6];exact k5
 have q0:=aKb d;have qm:=fun j=>aKc d (j:=j);have ql:=aKd d;have qn:=aKa d;generalize hn:d.2.1.length=n at*;refine(callsIn_wide (n:=0)).1 (callsIn_of_wp Tryz.func92 rfl trivial ?_);simp only[Tryz.ntmps92,aR8,aRj,aRs,Nat.reduceAdd,Nat.reduceSub,Array.replicate_succ,Array.replicate_zero,List.push_toArray,List.append_toArray,List.nil_append,List.cons_append];have c0:=r0 0 W h0;obtain⟨fn,tmps,assign,body,hy,hQ⟩:=hY 0 _ W q0 h0;dsimp only[JI] at hy
 gi_wp2
 refine⟨rfl,hQ.mono ?_⟩;clear hQ hy;rintro e W1 (⟨rfl,hJ1⟩ |⟨rfl,hJx⟩)
 ·have s1:=r1 _ W1 hJ1
  gi_wp2
  gi_loopw [13] (fun i wr=> ∃k:Nat,k<=n/\i= .int .i64 k/\J (k+1) wr) (fun i _=>n- (RowKit.intOf i).toNat)
  case atStart=>exact⟨0,aSg _,rfl,hJ1⟩
  case round=>
   obtain⟨k,hk,rfl,hJs⟩:=hrel;by_cases hlt:k<n
   ·obtain⟨b',o',rfl,hce⟩:=re k hlt;have hc':=hce _ _ hJs;have hq:=qm k hlt;clear re qm ql q0 hce;generalize d.2.1.getD k []=x at hc' hq;obtain⟨fn,tmps,assign,body,hy,hQ⟩:=hY _ _ wr hq hJs;dsimp only[JI] at hy
    gi_wp2
    refine⟨rfl,hQ.mono ?_⟩;clear hQ hy;rintro e W2 (⟨rfl,hJ2⟩ |⟨rfl,hJx⟩)
    ·gi_wp2
     go_roundw
     case rel=>exact⟨k+1,by omega,by simp,hJ2⟩
     case measure=>
      show n- (k+1)<n-k;omega
    ·gi_wp2
     refine bodyPost_ret (results_none rfl _ _ _) rfl ?_;exact⟨⟨_,rfl⟩,.inr hJx⟩
   ·obtain rfl:k=n:=by omega
    have s1:=r1 _ _ hJs;have s2:=r2 _ _ hJs;obtain⟨fn,tmps,assign,body,hy,hQ⟩:=hY _ _ wr ql hJs;dsimp only[JI] at hy
    gi_wp2
    refine⟨rfl,hQ.mono ?_⟩;clear hQ hy;rintro e W2 (⟨rfl,hJ2⟩ |⟨rfl,hJx⟩)
    ·gi_wp2
     go_end0
     exact⟨⟨_,rfl⟩,.inl (by rw[qn];exact hJ2)⟩
    ·gi_wp2
     go_end0
     exact⟨⟨_,rfl⟩,.inr hJx⟩
 ·gi_wp2
  refine bodyPost_ret (results_none rfl _ _ _) rfl ?_;exact⟨⟨_,rfl⟩,.inr hJx⟩
def sZ (s:List UInt8) (i:Nat):Nat:=if 0<=Lib.indexByte (s.drop i) 10 then i+(Lib.indexByte (s.drop i) 10).toNat+1 else s.length
def t6 (s:List UInt8):Nat->Nat->List (Int×List UInt8)
 |0,_=>[]
 |n+1,i=>if i<s.length then((i:Int),(s.drop i).take (sZ s i-i))::t6 s n (sZ s i) else[]
def uS (s:Ty.str.den):List (Int×List UInt8):=t6 s (List.length s) 0
theorem a0q: ∀(s:List UInt8) (c:UInt8),Lib.indexByte s c<s.length/\ -1<=Lib.indexByte s c
 |[],_=>by simp [Lib.indexByte]
 |b::l,c=>by
  have:=a0q l c;unfold Lib.indexByte;split
  ·simp
  ·split
   ·simp;omega
   ·simp only[aRj];omega
theorem a0r {s:List UInt8}{i:Nat}(h:i<s.length):i<sZ s i/\sZ s i<=s.length:=by
 have:=a0q (s.drop i) 10;rw[aRy] at this;unfold sZ;split<;>omega
theorem a0s (l:List UInt8) (m n:Nat):(⟨l.toArray⟩:ByteArray).extract m n=⟨((l.drop m).take (n-m)).toArray⟩:=by
 apply ByteArray.ext;apply aSv.1;simp
theorem aBb:a0l Tryz.prog 134 .str (fun s=>List.length s<=4611686018427387904) uS JI:=by
 refine⟨fun _ _=>rfl,?_⟩;intro l b o (d:List UInt8) cs g W0 J Jx hpre hR hrd hJd hJxd hY W h0;rw[show cs=[.string ⟨d.toArray⟩] from hR] at hrd;have r0: ∀i W,J i W->W.cell? ⟨b,o,none⟩=some (.string ⟨d.toArray⟩):=fun i W h=>by simpa using(hrd i W h).1 0 _ rfl
 have hlen:(uS d)=t6 d d.length 0:=rfl;refine(callsIn_wide (n:=0)).1 (callsIn_of_wp Tryz.func134 rfl trivial ?_);simp only[Tryz.ntmps134,aR8,aRj,aRs,Nat.reduceAdd,Nat.reduceSub,Array.replicate_succ,Array.replicate_zero,List.push_toArray,List.append_toArray,List.nil_append,List.cons_append]
 gi_wp2
 gi_loopw [3] (fun p wr=> ∃i k n:Nat,i<=d.length/\p= .int .i64 i/\d.length<=n+i/\(uS d).drop k=t6 d n i/\k<=(uS d).length/\J k wr) (fun p _=>d.length- (RowKit.intOf p).toNat)
 case atStart=>exact⟨0,0,d.length,aSg _,rfl,Nat.le_refl _,rfl,aSg _,h0⟩
 case round=>
  obtain⟨i,k,n,hi,rfl,hn,hdrop,hk,hJs⟩:=hrel;have s1:=r0 _ _ hJs;by_cases hlt:i<d.length
  ·obtain⟨n',rfl⟩: ∃n',n=n'+1:=⟨n-1,by omega⟩;have hu:t6 d (n'+1) i=((i:Int),(d.drop i).take (sZ d i-i))::t6 d n' (sZ d i):=by rw[t6,if_pos hlt]
   rw[hu] at hdrop;have hq:(uS d)[k]? =some ((i:Int),(d.drop i).take (sZ d i-i)):=by
    have:=aRN (·[0]?) hdrop;simpa using this
   have hd2:(uS d).drop (k+1)=t6 d n' (sZ d i):=by
    have:=aRN (List.drop 1) hdrop;simpa[aSF,Nat.add_comm] using this
   have hk2:k+1<=(uS d).length:=(aRu.1 hq).1;obtain⟨fn,tmps,assign,body,hy,hQ⟩:=hY _ _ wr hq hJs;dsimp only[JI] at hy;obtain⟨t1,t2⟩:=a0r hlt
   gi_wp2
   refine⟨trivial,rfl,(callsIn_wide.2 (Any.strings_IndexByte Tryz.lays137 _ 10 wr)).mono ?_⟩;rintro e w' ⟨rfl,rfl⟩;have hext:((⟨d.toArray⟩:ByteArray).extract i d.length).data.toList=d.drop i:=by
    rw[a0s];show (d.drop i).take (d.length-i)=d.drop i;exact List.take_of_length_le (by simp)
   rw[hext,show (10:Int).toNat.toUInt8=10 from rfl];have hib:=a0q (d.drop i) 10;rw[aRy] at hib;unfold sZ at hy t1 t2 hd2;generalize hkk:Lib.indexByte (d.drop i) 10=kk at hib hy t1 t2 hd2;clear hext hu hdrop;by_cases hkp:0<=kk
   ·rw[if_pos hkp] at hy t1 t2 hd2;obtain⟨m,rfl⟩: ∃m:Nat,kk=m:=⟨kk.toNat,by omega⟩;rw[aRY] at hy t1 t2 hd2;rw[<-a0s] at hy;have hz:((i:Int)+m+1).toNat=i+m+1:=by omega
    gi_wp2
    refine⟨rfl,hQ.mono ?_⟩;clear hQ hy;rintro e W2 (⟨rfl,hJ2⟩ |⟨rfl,hJx⟩)
    ·gi_wp2
     go_roundw
     case rel=>exact⟨i+m+1,k+1,n',by omega,by simp,by omega,hd2,hk2,hJ2⟩
     case measure=>
      show d.length- (i+m+1)<d.length-i;omega
    ·gi_wp2
     refine bodyPost_ret (results_none rfl _ _ _) rfl ?_;exact⟨⟨_,rfl⟩,.inr hJx⟩
   ·rw[if_neg hkp] at hy t1 t2 hd2;rw[<-a0s] at hy
    gi_wp2
    refine⟨rfl,hQ.mono ?_⟩;clear hQ hy;rintro e W2 (⟨rfl,hJ2⟩ |⟨rfl,hJx⟩)
    ·gi_wp2
     go_roundw
     case rel=>exact⟨d.length,k+1,n',by omega,by simp,by omega,hd2,hk2,hJ2⟩
     case measure=>
      show d.length-d.length<d.length-i;omega
    ·gi_wp2
     refine bodyPost_ret (results_none rfl _ _ _) rfl ?_;exact⟨⟨_,rfl⟩,.inr hJx⟩
  ·obtain rfl:i=d.length:=by omega
   have hkk:k=(uS d).length:=by
    have h1:=aRN List.length hdrop;have h2:t6 d n d.length=[]:=by
     cases n with
     |zero=>rfl
     |succ n=>rw[t6,if_neg (aTa _)]
    rw[h2,aRy,aRs] at h1;omega
   gi_wp2
   go_end0
   exact⟨⟨_,rfl⟩,.inl (hkk▸hJs)⟩
end
end Go.Proofs.YtbbpilohihldiaaGreatDoor
namespace Go.Proofs.YtbbpilohihldiaaGreatDoor
open Go.RowKit Go.Shelf Go.Lib
theorem aKf {w:World}(hc:w.cell? ⟨5,15,none⟩=some (.int .u8 4)):
  Calls Tryz.prog 299 #[.int .u64 16] w fun e w'=>e= .returned (.int .i64 4)/\w'=w:=by
 go_enter Tryz.func299,Tryz.ntmps299
 have k0:bits BinOp.and IntKind.u64 16 (IntKind.u64.wrap (-16))=16:=by decide+kernel
 have k1:IntKind.u64.wrap (16*285870213051353865) /288230376151711744=15:=by decide+kernel
 go_wp2
 go_ret
 exact⟨rfl,rfl⟩
theorem tzU {w:World}(hc:w.cell? ⟨5,15,none⟩=some (.int .u8 4)):
  Calls Tryz.prog 295 #[.int .u64 16] w fun e w'=>e= .returned (.int .i64 4)/\w'=w:=by
 go_enter Tryz.func295,Tryz.ntmps295
 go_wp2_with fail
 refine(aKf hc).mono ?_;rintro e w' ⟨rfl,rfl⟩
 go_wp2
 go_ret
 exact⟨rfl,rfl⟩
theorem aBd {w:World}:
  Calls Tryz.prog 294 #[.int .i64 16] w fun e w'=>e= .returned (.bool true)/\w'=w:=by
 have k0:bits BinOp.and IntKind.i64 16 15=0:=by decide+kernel
 go_enter Tryz.func294,Tryz.ntmps294
 go_wp2
 go_ret
 exact⟨rfl,rfl⟩
theorem aBe {w:World}{a:Addr}{v:Value}(h:w.cell? a=some v):a.block<w.heap.size:=by
 unfold World.cell? at h;split at h
 ·rename_i hb;exact(aRE.1 hb).1
 ·cases h
def JJ (n:Nat):UInt8:=if n<10 then(48+n).toUInt8 else(87+n).toUInt8
theorem aKg (w:World) (d:UInt8):(convert 42 9 (.slice (some ⟨w.heap.size,64,none⟩) 1 1)).run Tryz.prog (w.alloc (.cells (Tryz.zeroCells285.setIfInBounds 64 (.int .u8 (d.toNat:Int))) 285))= .ok (.string ⟨#[d]⟩) (w.alloc (.cells (Tryz.zeroCells285.setIfInBounds 64 (.int .u8 (d.toNat:Int))) 285)):=by
 refine run_convert_bytes_back _ _ _ 5 ⟨w.heap.size,64,none⟩ 1 [d] Tryz.underlying42 Tryz.underlying5 Tryz.underlying9 fun j hj=> ?_;have:j=0:=by simpa using hj
 subst this;simp [Addr.add,aSL]
theorem a0t: ∀u:Fin 16,(⟨#[48,49,50,51,52,53,54,55,56,57,97,98,99,100,101,102,103,104,105,106,107,108,109,110,111,112,113,114,115,116,117,118,119,120,121,122]⟩:ByteArray).data[u.val]? =some (JJ u.val):=by decide+kernel
theorem aKh {w:World}(hc:w.cell? ⟨5,15,none⟩=some (.int .u8 4)) (u:Nat) (hu:u<16):
  Calls Tryz.prog 285 #[.slice none 0 0,.int .u64 u,.int .i64 16,.bool false,.bool false] w fun e w'=>e= .returned (.tuple #[.slice none 0 0,.string ⟨#[JJ u]⟩])/\Below w.heap.size w w':=by
 have hc2:(w.alloc (.cells Tryz.zeroCells285 285)).cell? ⟨5,15,none⟩=some (.int .u8 4):=by
  rw[aRF (a:=⟨5,15,none⟩) (aRL _ _ _ (aBe hc))];exact hc
 go_enter Tryz.func285,Tryz.ntmps285
 go_wp2_with fail
 refine aBd.mono ?_;rintro e w' ⟨rfl,rfl⟩
 go_wp2_with fail
 refine(tzU hc2).mono ?_;rintro e w' ⟨rfl,rfl⟩
 go_wp2_with fail
 go_rounds 1
 rw[aKg];simp only[Result.andThen];rw[Oper.upon_value]
 go_wp2
 go_ret2
 refine⟨?_,(Below.refl _ _).alloc (Nat.le_refl _) _⟩;have h:=a0t ⟨u,hu⟩;obtain⟨h1,h2⟩:=aRE.1 h;rw[<-h2];rfl
theorem aKi (w:World) (d e:UInt8):(convert 42 9 (.slice (some ⟨w.heap.size,63,none⟩) 2 2)).run Tryz.prog (w.alloc (.cells ((Tryz.zeroCells285.setIfInBounds 64 (.int .u8 (e.toNat:Int))).setIfInBounds 63 (.int .u8 (d.toNat:Int))) 285))= .ok (.string ⟨#[d,e]⟩) (w.alloc (.cells ((Tryz.zeroCells285.setIfInBounds 64 (.int .u8 (e.toNat:Int))).setIfInBounds 63 (.int .u8 (d.toNat:Int))) 285)):=by
 refine run_convert_bytes_back _ _ _ 5 ⟨w.heap.size,63,none⟩ 2 [d,e] Tryz.underlying42 Tryz.underlying5 Tryz.underlying9 fun j hj=> ?_
 match j,hj with
 |0,_=>simp [Addr.add,aSL]
 |1,_=>simp [Addr.add,aSL]
theorem aKj: ∀u:Fin 256,bits BinOp.and IntKind.u64 (u.val:Int) 15=((u.val%16:Nat):Int):=by decide+kernel
theorem aKk {w:World}(hc:w.cell? ⟨5,15,none⟩=some (.int .u8 4)) (u:Nat) (hu:16<=u) (hu2:u<256):
  Calls Tryz.prog 285 #[.slice none 0 0,.int .u64 u,.int .i64 16,.bool false,.bool false] w fun e w'=>e= .returned (.tuple #[.slice none 0 0,.string ⟨#[JJ (u/16),JJ (u%16)]⟩])/\Below w.heap.size w w':=by
 have hc2:(w.alloc (.cells Tryz.zeroCells285 285)).cell? ⟨5,15,none⟩=some (.int .u8 4):=by
  rw[aRF (a:=⟨5,15,none⟩) (aRL _ _ _ (aBe hc))];exact hc
 have h15:=aKj ⟨u,hu2⟩;have hm:u%16<16:=Nat.mod_lt _ (by decide);have hq:u/16<16:=by omega
 have hq2:((u:Int)) /16=((u/16:Nat):Int):=rfl;dsimp only at h15;have H15:=Lib.hid h15;clear h15;obtain⟨m,hmm⟩: ∃m,u%16=m:=⟨_,rfl⟩;obtain⟨q,hqq⟩: ∃q,u/16=q:=⟨_,rfl⟩;rw[hmm] at hm;rw[hqq] at hq hq2;have h15:=H15.out;rw[hmm] at h15;have HM:=Lib.hid hmm;have HQ:=Lib.hid hqq;clear hmm hqq H15
 go_enter Tryz.func285,Tryz.ntmps285
 go_wp2_with fail
 refine aBd.mono ?_;rintro e w' ⟨rfl,rfl⟩
 go_wp2_with fail
 refine(tzU hc2).mono ?_;rintro e w' ⟨rfl,rfl⟩
 go_wp2_with fail
 go_rounds 2
 rw[aKi];simp only[Result.andThen];rw[Oper.upon_value]
 go_wp2
 go_ret2
 refine⟨?_,(Below.refl _ _).alloc (Nat.le_refl _) _⟩;have h:=a0t ⟨m,hm⟩;obtain⟨h1,h2⟩:=aRE.1 h;have k:=a0t ⟨q,hq⟩;obtain⟨k1,k2⟩:=aRE.1 k;rw[HM.out,HQ.out,<-h2,<-k2];rfl
def wK (c _b:Int):List UInt8:=if c<16 then[JJ c.toNat] else[JJ (c.toNat/16),JJ (c.toNat%16)]
theorem fb {w:World}(hc:w.cell? ⟨5,15,none⟩=some (.int .u8 4)) (u:Nat) (hu2:u<256):
  Calls Tryz.prog 285 #[.slice none 0 0,.int .u64 u,.int .i64 16,.bool false,.bool false] w fun e w'=>e= .returned (.tuple #[.slice none 0 0,.string ⟨(wK u 16).toArray⟩])/\Below w.heap.size w w':=by
 unfold wK;by_cases h:(u:Int)<16
 ·rw[if_pos h];exact aKh hc u (by omega)
 ·rw[if_neg h];exact aKk hc u (by omega) hu2
theorem aKl {w:World}(hc:w.cell? ⟨5,15,none⟩=some (.int .u8 4)) (u:Nat) (hu2:u<256):
  Calls Tryz.prog 272 #[.int .i64 u,.int .i64 16] w fun e w'=>e= .returned (.string ⟨(wK u 16).toArray⟩)/\Below w.heap.size w w':=by
 obtain⟨s,hs⟩: ∃s,wK u 16=s:=⟨_,rfl⟩;have hfb:=fb hc u hu2;rw[hs] at hfb⊢;clear hs;have hk:IntKind.u64.wrap (u:Int)=u:=by rw[IntKind.wrap_u64];omega
 have hn: ¬(u:Int)<0:=by omega
 go_enter Tryz.func272,Tryz.ntmps272
 go_wp2_with fail
 refine hfb.mono ?_;rintro e w' ⟨rfl,hb⟩
 go_wp2
 go_ret
 exact⟨rfl,hb⟩
theorem aBf {w:World}(hc:w.cell? ⟨5,15,none⟩=some (.int .u8 4)) (u:Nat) (hu2:u<256):
  Calls Tryz.prog 245 #[.int .i64 u,.int .i64 16] w fun e w'=>e= .returned (.string ⟨(wK u 16).toArray⟩)/\Below w.heap.size w w':=by
 obtain⟨s,hs⟩: ∃s,wK u 16=s:=⟨_,rfl⟩;have hfb:=aKl hc u hu2;rw[hs] at hfb⊢;clear hs
 go_enter Tryz.func245,Tryz.ntmps245
 go_wp2_with fail
 refine hfb.mono ?_;rintro e w' ⟨rfl,hb⟩
 go_wp2
 go_ret
 exact⟨rfl,hb⟩
#print axioms aBf
end Go.Proofs.YtbbpilohihldiaaGreatDoor
namespace Go.Proofs
open Go.RowKit Go.Lib
def Tryz.lays105_ren:Go.Shelf.Ren:=⟨fun|105=>246|212=>273|99=>136|165=>274|166=>53|170=>275|169=>54|263=>286|264=>287|206=>183|240=>93|241=>288|276=>133|277=>296|n=>n,fun|9=>9|3=>3|4=>4|20=>20|0=>0|46=>219|109=>266|5=>5|72=>84|76=>87|51=>241|146=>270|53=>243|148=>280|70=>82|37=>42|75=>86|127=>125|164=>168|80=>89|n=>n,fun|n=>n⟩
theorem Tryz.lays105:Go.Proofs.Lays.n105 Tryz.prog Tryz.lays105_ren:={
 mixed:=by kernel_rfl
 f99:=Tryz.func136.trans (aRN some (by kernel_rfl))
 f105:=Tryz.func246.trans (aRN some (by kernel_rfl))
 f165:=Tryz.func274.trans (aRN some (by kernel_rfl))
 f166:=Tryz.func53.trans (aRN some (by kernel_rfl))
 f169:=Tryz.func54.trans (aRN some (by kernel_rfl))
 f170:=Tryz.func275.trans (aRN some (by kernel_rfl))
 f206:=Tryz.func183.trans (aRN some (by kernel_rfl))
 f212:=Tryz.func273.trans (aRN some (by kernel_rfl))
 f240:=Tryz.func93.trans (aRN some (by kernel_rfl))
 f241:=Tryz.func288.trans (aRN some (by kernel_rfl))
 f263:=Tryz.func286.trans (aRN some (by kernel_rfl))
 f264:=Tryz.func287.trans (aRN some (by kernel_rfl))
 f276:=Tryz.func133.trans (aRN some (by kernel_rfl))
 f277:=Tryz.func296.trans (aRN some (by kernel_rfl))
 t0:=Tryz.underlying0
 a0:=Tryz.isAgg0
 z0:=Tryz.sizeOf0
 v0:=Tryz.zeroValue0
 t3:=Tryz.underlying3
 a3:=Tryz.isAgg3
 z3:=Tryz.sizeOf3
 v3:=Tryz.zeroValue3
 t4:=Tryz.underlying4
 a4:=Tryz.isAgg4
 z4:=Tryz.sizeOf4
 v4:=Tryz.zeroValue4
 t5:=Tryz.underlying5
 a5:=Tryz.isAgg5
 z5:=Tryz.sizeOf5
 v5:=Tryz.zeroValue5
 t9:=Tryz.underlying9
 a9:=Tryz.isAgg9
 z9:=Tryz.sizeOf9
 v9:=Tryz.zeroValue9
 t20:=Tryz.underlying20
 a20:=Tryz.isAgg20
 z20:=Tryz.sizeOf20
 v20:=Tryz.zeroValue20
 t37:=Tryz.underlying42
 a37:=Tryz.isAgg42
 z37:=Tryz.sizeOf42
 v37:=Tryz.zeroValue42
 t46:=Tryz.underlying219
 a46:=Tryz.isAgg219
 z46:=Tryz.sizeOf219
 v46:=Tryz.zeroValue219
 t51:=Tryz.underlying241
 a51:=Tryz.isAgg241
 z51:=Tryz.sizeOf241
 v51:=Tryz.zeroValue241
 t53:=Tryz.underlying243
 a53:=Tryz.isAgg243
 z53:=Tryz.sizeOf243
 v53:=Tryz.zeroValue243
 t70:=Tryz.underlying82
 a70:=Tryz.isAgg82
 z70:=Tryz.sizeOf82
 v70:=Tryz.zeroValue82
 t72:=Tryz.underlying84
 a72:=Tryz.isAgg84
 z72:=Tryz.sizeOf84
 v72:=Tryz.zeroValue84
 t75:=Tryz.underlying86
 a75:=Tryz.isAgg86
 z75:=Tryz.sizeOf86
 v75:=Tryz.zeroValue86
 t76:=Tryz.underlying87
 a76:=Tryz.isAgg87
 z76:=Tryz.sizeOf87
 v76:=Tryz.zeroValue87
 t109:=Tryz.underlying266
 a109:=Tryz.isAgg266
 z109:=Tryz.sizeOf266
 v109:=Tryz.zeroValue266
 t127:=Tryz.underlying125
 a127:=Tryz.isAgg125
 z127:=Tryz.sizeOf125
 v127:=Tryz.zeroValue125
 t146:=Tryz.underlying270
 a146:=Tryz.isAgg270
 z146:=Tryz.sizeOf270
 v146:=Tryz.zeroValue270
 t148:=Tryz.underlying280
 a148:=Tryz.isAgg280
 z148:=Tryz.sizeOf280
 v148:=Tryz.zeroValue280
 t164:=Tryz.underlying168
 a164:=Tryz.isAgg168
 z164:=Tryz.sizeOf168
 v164:=Tryz.zeroValue168}
theorem Tryz.Builder_Extra_105:Builder.Extra Tryz.prog Tryz.lays105_ren:={
 sizeBuilder:=by kernel_rfl
 liesBuilder:=by kernel_rfl
 t5:=Tryz.underlying5
 a5:=Tryz.isAgg5
 z5:=Tryz.sizeOf5
 v5:=Tryz.zeroValue5
 infoByte:=by kernel_rfl
 cellsByte:=by kernel_rfl
 sizeByte:=by kernel_rfl
 neB5:=by decide}
end Go.Proofs
namespace Go.Proofs.YtbbpilohihldiaaGreatDoor
open Vc Go.RowKit
def a0u (n:Int):Prop:=n=16
instance (n:Int):Decidable (a0u n):=inferInstanceAs (Decidable (n=16))
@[go_sem] def a0v:List pR->List pQ->Option pX
 |[(.val (.int .i64) O,none),(.val (.int .i64) Z,none)],[]=>some ⟨[0<=O/\O<256/\a0u Z],[(.val .str (wK O Z),none)],[]⟩
 |_,_=>none
theorem aKm:zE Tryz.prog 245 a0v:=by
 refine LW (fun _ _=>rfl) fun g w args vals L r hT ha hC hs=> ?_;unfold a0v at hC;split at hC
 ·rename_i c d;cases hC;obtain⟨h1,h2,h3⟩:=hs _ aRB;obtain⟨va,_,rfl,ra,vb,_,rfl,rb,hv⟩:=ha;obtain rfl:=vL ra.1;obtain rfl:=vL rb.1;cases hv;obtain⟨u,rfl⟩: ∃u:Nat,c=((u:Nat):Int):=⟨Int.toNat c,(Int.toNat_of_nonneg h1).symm⟩;have h2:(u:Int)<256:=h2;obtain rfl:d=(16:Int):=h3;have hcell:w.cell? ⟨5,15,none⟩=some (.int .u8 4):=(hT.2.2.2 _ aRB).2;exact⟨rfl,rfl,(aBf hcell u (by omega)).mono fun e w' ⟨he,hb⟩=>⟨_,he,hb,DT _ _ _,trivial⟩⟩
 ·cases hC
def JK (s:List UInt8) (c:Int):List UInt8:=Lib.repeatL s c.toNat
@[go_sem] def a0w:List pR->List pQ->Option pX
 |[(.val .str O,none),(.val (.int .i64) Z,none)],[]=>some ⟨[0<=Z/\Z<=140737488355328/\(List.length O:Int)*Z<=140737488355328],[(.val .str (JK O Z),none)],[]⟩
 |_,_=>none
theorem aKn:zE Tryz.prog 246 a0w:=by
 refine LW (fun _ _=>rfl) fun g w args vals L r hT ha hC hs=> ?_;unfold a0w at hC;split at hC
 ·rename_i s c;cases hC;obtain⟨h1,h2,h3⟩:=hs _ aRB;obtain⟨va,_,rfl,ra,vb,_,rfl,rb,hv⟩:=ha;obtain rfl:=y9 ra.1;obtain rfl:=vL rb.1;cases hv;obtain⟨u,rfl⟩: ∃u:Nat,c=((u:Nat):Int):=⟨Int.toNat c,(Int.toNat_of_nonneg h1).symm⟩;have h2:(u:Int)<=140737488355328:=h2;have h3:((List.length s:Nat):Int)*(u:Int)<=140737488355328:=h3;have h4:List.length s*u<=140737488355328:=by rw[<-Int.natCast_mul] at h3;exact Int.ofNat_le.1 h3
  have h:=Any.strings_Repeat Tryz.lays105 Tryz.Builder_Extra_105 ⟨List.toArray s⟩ u w (by omega) (by show (List.toArray s).size*u<=_;rw[aR8];exact h4);exact⟨rfl,rfl,h.mono fun e w' ⟨he,hb⟩=>⟨_,he,hb,DT _ _ _,trivial⟩⟩
 ·cases hC
def U2 (_c:Int):List UInt8:=[]
@[go_sem] def a0x:List pR->List pQ->Option pX
 |[(.val (.int .u8) O,none)],[]=>some ⟨[False],[(.val .str (U2 O),none)],[]⟩
 |_,_=>none
theorem aKo:zE Tryz.prog 165 a0x:=by
 refine LW (fun _ _=>rfl) fun g w args vals L r hT ha hC hs=> ?_;unfold a0x at hC;split at hC
 ·cases hC;exact(hs _ aRB).elim
 ·cases hC
end Go.Proofs.YtbbpilohihldiaaGreatDoor
namespace Go.Proofs.YtbbpilohihldiaaGreatDoor
open Vc
noncomputable section
@[go_sem] abbrev sK:Ty:=(.pair .str (.pair .str (.pair .str (.pair (.list .str) (.pair (.list .str) (.pair (.int .i64) (.pair (.list (.pair .str (.pair .str .unit))) .unit)))))))
@[go_sem] abbrev CZ:Ty:=(.pair .str (.pair (.list .str) (.pair (.list (.pair .str (.pair .str .unit))) (.pair (.list sK) .unit))))
@[go_sem] abbrev AK:Ty:=(.pair .str (.pair (.list .str) (.pair .str .unit)))
@[go_sem] abbrev tI:Ty:=(.pair .mref (.pair (.list (.int .u8)) .unit))
@[go_sem] abbrev yT8:Ty:=(.pair .str (.pair .str (.pair .str (.pair (.list .str) (.pair (.rl 9 .str) (.pair (.int .i64) (.pair (.list (.pair .str (.pair .str .unit))) .unit)))))))
@[go_sem] abbrev x4:Ty:=(.pair (.list .str) (.pair .mp (.pair .mp (.pair .mp (.pair yT8 (.pair (.int .i64) .unit))))))
@[go_sem] abbrev DZ:Ty:=(.pair (.int .i64) (.pair .str (.pair .str .unit)))
@[go_sem] abbrev yT:Ty:=(.pair CZ (.pair .ref (.pair .bool (.pair .mp (.pair (.list (.int .i64)) .unit)))))
abbrev qB:Type:=((List UInt8)×((List UInt8)×Unit))
abbrev qQ:Type:=((List UInt8)×((List UInt8)×((List UInt8)×((List (List UInt8))×((List (List UInt8))×(Int×((List qB)×Unit)))))))
abbrev HE:Type:=((List UInt8)×((List (List UInt8))×((List UInt8)×Unit)))
abbrev dT3:Type:=(Int×((List UInt8)×(Int×(Int×Unit))))
abbrev tY:Type:=((List UInt8)×((List (List UInt8))×((List qB)×((List qQ)×Unit))))
abbrev HF:Type:=((List UInt8)×(Int×(Int×(Int×(tY×((List Int)×Unit))))))
abbrev HG:Type:=(qQ×(Bool×(Bool×(Int×Unit))))
abbrev HH:Type:=(Int×((List UInt8)×((List UInt8)×(Bool×Unit))))
abbrev FH:Type:=(Int×((List UInt8)×((List UInt8)×Unit)))
@[go_sem] abbrev s9:Nat×TI:=(9,⟨.str,0,0,false,[]⟩)
theorem sC:sY Tryz.prog s9.1 s9.2:=⟨by kernel_rfl,(show Tryz.prog.underlying _=_ from by kernel_rfl)⟩
@[go_sem] abbrev wC:Nat×TI:=(23,⟨(.list .str),9,16,false,[]⟩)
theorem x5:sY Tryz.prog wC.1 wC.2:=⟨by kernel_rfl,(show _/\_/\_ from⟨by kernel_rfl,by kernel_rfl,by kernel_rfl⟩)⟩
@[go_sem] abbrev E2:Nat×TI:=(34,⟨AK,0,0,false,[(1,9,1)]⟩)
theorem HI:sY Tryz.prog E2.1 E2.2:=⟨by kernel_rfl,(show ((_/\∃_,_/\_)\/_)/\_ from⟨.inl ⟨rfl,_,Tryz.underlying34,(show _/\_/\_/\_ from⟨rfl,by kernel_rfl,by kernel_rfl,(show _/\_/\_/\_ from⟨rfl,by kernel_rfl,by kernel_rfl,(show _/\_/\_/\_ from⟨rfl,by kernel_rfl,by kernel_rfl,trivial⟩)⟩)⟩)⟩,(fun h=>absurd h (by decide))⟩)⟩
@[go_sem] abbrev E3:Nat×TI:=(25,⟨(.list sK),55,128,false,[]⟩)
theorem HJ:sY Tryz.prog E3.1 E3.2:=⟨by kernel_rfl,(show _/\_/\_ from⟨by kernel_rfl,by kernel_rfl,by kernel_rfl⟩)⟩
@[go_sem] abbrev zH:Nat×TI:=(27,⟨CZ,0,0,false,[(1,9,1),(2,149,2),(3,55,7)]⟩)
theorem AL:sY Tryz.prog zH.1 zH.2:=⟨by kernel_rfl,(show ((_/\∃_,_/\_)\/_)/\_ from⟨.inl ⟨rfl,_,Tryz.underlying27,(show _/\_/\_/\_ from⟨rfl,by kernel_rfl,by kernel_rfl,(show _/\_/\_/\_ from⟨rfl,by kernel_rfl,by kernel_rfl,(show _/\_/\_/\_ from⟨rfl,by kernel_rfl,by kernel_rfl,(show _/\_/\_/\_ from⟨rfl,by kernel_rfl,by kernel_rfl,trivial⟩)⟩)⟩)⟩)⟩,(fun h=>absurd h (by decide))⟩)⟩
@[go_sem] abbrev AM:Nat×TI:=(55,⟨sK,0,0,false,[(3,9,1),(4,9,1),(6,149,2)]⟩)
theorem C6:sY Tryz.prog AM.1 AM.2:=⟨by kernel_rfl,(show ((_/\∃_,_/\_)\/_)/\_ from⟨.inl ⟨rfl,_,Tryz.underlying55,(show _/\_/\_/\_ from⟨rfl,by kernel_rfl,by kernel_rfl,(show _/\_/\_/\_ from⟨rfl,by kernel_rfl,by kernel_rfl,(show _/\_/\_/\_ from⟨rfl,by kernel_rfl,by kernel_rfl,(show _/\_/\_/\_ from⟨rfl,by kernel_rfl,by kernel_rfl,(show _/\_/\_/\_ from⟨rfl,by kernel_rfl,by kernel_rfl,(show _/\_/\_/\_ from⟨rfl,by kernel_rfl,by kernel_rfl,(show _/\_/\_/\_ from⟨rfl,by kernel_rfl,by kernel_rfl,trivial⟩)⟩)⟩)⟩)⟩)⟩)⟩)⟩,(fun h=>absurd h (by decide))⟩)⟩
@[go_sem] abbrev E4:Nat×TI:=(42,⟨(.list (.int .u8)),5,1,false,[]⟩)
theorem HK:sY Tryz.prog E4.1 E4.2:=⟨by kernel_rfl,(show _/\_/\_ from⟨by kernel_rfl,by kernel_rfl,by kernel_rfl⟩)⟩
@[go_sem] abbrev FI:Nat×TI:=(84,⟨tI,0,0,false,[(1,5,1)]⟩)
theorem JL:sY Tryz.prog FI.1 FI.2:=⟨by kernel_rfl,(show ((_/\∃_,_/\_)\/_)/\_ from⟨.inl ⟨rfl,_,Tryz.underlying84,(show _/\_/\_/\_ from⟨rfl,by kernel_rfl,by kernel_rfl,(show _/\_/\_/\_ from⟨rfl,by kernel_rfl,by kernel_rfl,trivial⟩)⟩)⟩,(fun h=>absurd h (by decide))⟩)⟩
@[go_sem] abbrev y4:Nat×TI:=(24,⟨(.list (.pair .str (.pair .str .unit))),149,32,false,[]⟩)
theorem yU:sY Tryz.prog y4.1 y4.2:=⟨by kernel_rfl,(show _/\_/\_ from⟨by kernel_rfl,by kernel_rfl,by kernel_rfl⟩)⟩
@[go_sem] abbrev C7:Nat×TI:=(149,⟨(.pair .str (.pair .str .unit)),0,1,false,[]⟩)
theorem E5:sY Tryz.prog C7.1 C7.2:=⟨by kernel_rfl,(show ((_/\∃_,_/\_)\/_)/\_ from⟨.inl ⟨rfl,_,Tryz.underlying149,(show _/\_/\_/\_ from⟨rfl,by kernel_rfl,by kernel_rfl,(show _/\_/\_/\_ from⟨rfl,by kernel_rfl,by kernel_rfl,trivial⟩)⟩)⟩,(fun _=>⟨by kernel_rfl,1,by decide,(.struct rfl Tryz.underlying149 (by kernel_rfl) (.cons (by decide) rfl (by kernel_rfl) (by kernel_rfl) (.str Tryz.underlying9) (.cons (by decide) rfl (by kernel_rfl) (by kernel_rfl) (.str Tryz.underlying9) .nil)))⟩)⟩)⟩
@[go_sem] abbrev x6:Nat×TI:=(3,⟨(.int .i64),0,0,false,[]⟩)
theorem xN:sY Tryz.prog x6.1 x6.2:=⟨by kernel_rfl,(show Tryz.prog.underlying _=_ from by kernel_rfl)⟩
@[go_sem] abbrev D0:Nat×TI:=(4,⟨.bool,0,0,false,[]⟩)
theorem FJ:sY Tryz.prog D0.1 D0.2:=⟨by kernel_rfl,(show Tryz.prog.underlying _=_ from by kernel_rfl)⟩
@[go_sem] abbrev HL:Nat×TI:=(66,⟨.mp,9,4,false,[]⟩)
theorem LY:sY Tryz.prog HL.1 HL.2:=⟨by kernel_rfl,(show Tryz.prog.underlying _=_ from by kernel_rfl)⟩
@[go_sem] abbrev P8:Nat×TI:=(133,⟨.mp,3,4,false,[]⟩)
theorem a0y:sY Tryz.prog P8.1 P8.2:=⟨by kernel_rfl,(show Tryz.prog.underlying _=_ from by kernel_rfl)⟩
@[go_sem] abbrev HN:Nat×TI:=(135,⟨x4,0,0,false,[(0,9,1),(7,9,1),(10,149,2)]⟩)
theorem LZ:sY Tryz.prog HN.1 HN.2:=⟨by kernel_rfl,(show ((_/\∃_,_/\_)\/_)/\_ from⟨.inl ⟨rfl,_,Tryz.underlying135,(show _/\_/\_/\_ from⟨rfl,by kernel_rfl,by kernel_rfl,(show _/\_/\_/\_ from⟨rfl,by kernel_rfl,by kernel_rfl,(show _/\_/\_/\_ from⟨rfl,by kernel_rfl,by kernel_rfl,(show _/\_/\_/\_ from⟨rfl,by kernel_rfl,by kernel_rfl,(show _/\_/\_/\_ from⟨rfl,by kernel_rfl,by kernel_rfl,(show _/\_/\_/\_ from⟨rfl,by kernel_rfl,by kernel_rfl,trivial⟩)⟩)⟩)⟩)⟩)⟩)⟩,(fun h=>absurd h (by decide))⟩)⟩
@[go_sem] abbrev D1:Nat×TI:=(5,⟨(.int .u8),0,0,false,[]⟩)
theorem FK:sY Tryz.prog D1.1 D1.2:=⟨by kernel_rfl,(show Tryz.prog.underlying _=_ from by kernel_rfl)⟩
@[go_sem] abbrev P9:Nat×TI:=(21,⟨(.int .i32),0,0,false,[]⟩)
theorem a0z:sY Tryz.prog P9.1 P9.2:=⟨by kernel_rfl,(show Tryz.prog.underlying _=_ from by kernel_rfl)⟩
@[go_sem] abbrev M0:Nat×TI:=(28,⟨(.int .i64),0,0,false,[]⟩)
theorem U3:sY Tryz.prog M0.1 M0.2:=⟨by kernel_rfl,(show Tryz.prog.underlying _=_ from by kernel_rfl)⟩
@[go_sem] abbrev U4:Nat×TI:=(24,⟨(.list (.pair .str (.pair .str .unit))),149,32,true,[]⟩)
theorem aBi:sY Tryz.prog U4.1 U4.2:=⟨by kernel_rfl,(show _/\_/\_ from⟨by kernel_rfl,by kernel_rfl,by kernel_rfl⟩)⟩
@[go_sem] abbrev a0A:Nat×TI:=(2,⟨(.int .i64),0,0,false,[]⟩)
theorem aKp:sY Tryz.prog a0A.1 a0A.2:=⟨by kernel_rfl,(show Tryz.prog.underlying _=_ from by kernel_rfl)⟩
@[go_sem] abbrev U5:Nat×TI:=(241,⟨(.int .u32),0,0,false,[]⟩)
theorem aBj:sY Tryz.prog U5.1 U5.2:=⟨by kernel_rfl,(show Tryz.prog.underlying _=_ from by kernel_rfl)⟩
@[go_sem] abbrev U6:Nat×TI:=(23,⟨(.list .str),9,16,true,[]⟩)
theorem aBk:sY Tryz.prog U6.1 U6.2:=⟨by kernel_rfl,(show _/\_/\_ from⟨by kernel_rfl,by kernel_rfl,by kernel_rfl⟩)⟩
@[go_sem] abbrev FL:Nat×TI:=(67,⟨(.list (.int .i64)),3,8,false,[]⟩)
theorem JM:sY Tryz.prog FL.1 FL.2:=⟨by kernel_rfl,(show _/\_/\_ from⟨by kernel_rfl,by kernel_rfl,by kernel_rfl⟩)⟩
@[go_sem] abbrev M1:Nat×TI:=(55,⟨yT8,0,0,false,[(3,9,1),(6,149,2)]⟩)
theorem U7:sY Tryz.prog M1.1 M1.2:=⟨by kernel_rfl,(show ((_/\∃_,_/\_)\/_)/\_ from⟨.inl ⟨rfl,_,Tryz.underlying55,(show _/\_/\_/\_ from⟨rfl,by kernel_rfl,by kernel_rfl,(show _/\_/\_/\_ from⟨rfl,by kernel_rfl,by kernel_rfl,(show _/\_/\_/\_ from⟨rfl,by kernel_rfl,by kernel_rfl,(show _/\_/\_/\_ from⟨rfl,by kernel_rfl,by kernel_rfl,(show _/\_/\_/\_ from⟨rfl,by kernel_rfl,by kernel_rfl,(show _/\_/\_/\_ from⟨rfl,by kernel_rfl,by kernel_rfl,(show _/\_/\_/\_ from⟨rfl,by kernel_rfl,by kernel_rfl,trivial⟩)⟩)⟩)⟩)⟩)⟩)⟩)⟩,(fun h=>absurd h (by decide))⟩)⟩
@[go_sem] abbrev FM:Nat×TI:=(129,⟨DZ,0,1,false,[]⟩)
theorem JN:sY Tryz.prog FM.1 FM.2:=⟨by kernel_rfl,(show ((_/\∃_,_/\_)\/_)/\_ from⟨.inl ⟨rfl,_,Tryz.underlying129,(show _/\_/\_/\_ from⟨rfl,by kernel_rfl,by kernel_rfl,(show _/\_/\_/\_ from⟨rfl,by kernel_rfl,by kernel_rfl,(show _/\_/\_/\_ from⟨rfl,by kernel_rfl,by kernel_rfl,trivial⟩)⟩)⟩)⟩,(fun _=>⟨by kernel_rfl,1,by decide,(.struct rfl Tryz.underlying129 (by kernel_rfl) (.cons (by decide) rfl (by kernel_rfl) (by kernel_rfl) (.int Tryz.underlying3) (.cons (by decide) rfl (by kernel_rfl) (by kernel_rfl) (.str Tryz.underlying9) (.cons (by decide) rfl (by kernel_rfl) (by kernel_rfl) (.str Tryz.underlying9) .nil))))⟩)⟩)⟩
@[go_sem] abbrev D2:Nat×TI:=(95,⟨yT,0,0,false,[(1,9,1),(2,149,2),(3,55,7),(7,3,1)]⟩)
theorem FN:sY Tryz.prog D2.1 D2.2:=⟨by kernel_rfl,(show ((_/\∃_,_/\_)\/_)/\_ from⟨.inl ⟨rfl,_,Tryz.underlying95,(show _/\_/\_/\_ from⟨rfl,by kernel_rfl,by kernel_rfl,(show _/\_/\_/\_ from⟨rfl,by kernel_rfl,by kernel_rfl,(show _/\_/\_/\_ from⟨rfl,by kernel_rfl,by kernel_rfl,(show _/\_/\_/\_ from⟨rfl,by kernel_rfl,by kernel_rfl,(show _/\_/\_/\_ from⟨rfl,by kernel_rfl,by kernel_rfl,trivial⟩)⟩)⟩)⟩)⟩)⟩,(fun h=>absurd h (by decide))⟩)⟩
@[go_sem] abbrev M2:Nat×TI:=(93,⟨.ref,0,0,false,[]⟩)
theorem U8:sY Tryz.prog M2.1 M2.2:=⟨by kernel_rfl,(show∃_,_ from⟨_,Tryz.underlying93⟩)⟩
@[go_sem] abbrev M3:Nat×TI:=(106,⟨(.pair tI .unit),0,0,false,[(1,5,1)]⟩)
theorem U9:sY Tryz.prog M3.1 M3.2:=⟨by kernel_rfl,(show ((_/\∃_,_/\_)\/_)/\_ from⟨.inl ⟨rfl,_,Tryz.underlying106,(show _/\_/\_/\_ from⟨rfl,by kernel_rfl,by kernel_rfl,trivial⟩)⟩,(fun h=>absurd h (by decide))⟩)⟩
@[go_sem] abbrev M4:Nat×TI:=(90,⟨.ref,0,0,false,[]⟩)
theorem UA:sY Tryz.prog M4.1 M4.2:=⟨by kernel_rfl,(show∃_,_ from⟨_,Tryz.underlying90⟩)⟩
@[go_sem] abbrev UB:Nat×TI:=(25,⟨(.list sK),55,128,true,[]⟩)
theorem aBl:sY Tryz.prog UB.1 UB.2:=⟨by kernel_rfl,(show _/\_/\_ from⟨by kernel_rfl,by kernel_rfl,by kernel_rfl⟩)⟩
theorem rE:Tryz.prog.follows .mixedOrders=true:=by kernel_rfl
@[go_sem] abbrev PA:Nat×qS:=(135,⟨[.v,.v],a0c,[],[],none⟩)
theorem UC:rD Tryz.prog PA:=⟨aJG,fun _ h=>by cases h⟩
@[go_sem] abbrev PB:Nat×qS:=(97,⟨[.v,.v],a0d,[],[],none⟩)
theorem aBm:rD Tryz.prog PB:=⟨aJH,fun _ h=>by cases h⟩
@[go_sem] abbrev aBn:Nat×qS:=(243,⟨[.v],a0e,[],[],none⟩)
theorem aKq:rD Tryz.prog aBn:=⟨aJI,fun _ h=>by cases h⟩
@[go_sem] abbrev UD:Nat×qS:=(93,⟨[.p tI [1]],a0f,[],[],none⟩)
theorem a0B:rD Tryz.prog UD:=⟨aJN,fun _ h=>by cases h⟩
@[go_sem] abbrev JO:Nat×qS:=(54,⟨[.p tI [1]],a0h,[],[],none⟩)
theorem M5:rD Tryz.prog JO:=⟨aJV,fun _ h=>by cases h⟩
@[go_sem] abbrev aBo:Nat×qS:=(240,⟨[.r,.v,.v],a0j,[],[],none⟩)
theorem aKr:rD Tryz.prog aBo:=⟨aJ4,fun _ h=>by cases h⟩
@[go_sem] abbrev aBp:Nat×qS:=(245,⟨[.v,.v],a0v,[],[],none⟩)
theorem aKs:rD Tryz.prog aBp:=⟨aKm,fun _ h=>by cases h⟩
@[go_sem] abbrev aBq:Nat×qS:=(246,⟨[.v,.v],a0w,[],[],none⟩)
theorem aKt:rD Tryz.prog aBq:=⟨aKn,fun _ h=>by cases h⟩
@[go_sem] abbrev aBr:Nat×qS:=(165,⟨[.v],a0x,[],[],none⟩)
theorem aKu:rD Tryz.prog aBr:=⟨aKo,fun _ h=>by cases h⟩
@[go_sem] abbrev a0C:Nat×qS:=(147,⟨[.v],noC,[],[],some aAY⟩)
theorem aKv:rD Tryz.prog a0C:=aJK
end
theorem yV {σ ρ:Type}(f:σ->Option (σ⊕ρ)) (x:σ):qM f x=(f x).bind fun w=>match w with
  | .inl y=>qM f y
  | .inr r=>some r:=by
 cases h:f x with
 |none=>
  cases h2:qM f x with
  |none=>rfl
  |some r=>
   obtain⟨n,hn⟩:=TX h2;cases n with
   |zero=>cases hn
   |succ n=>unfold iter at hn;rw[h] at hn;cases hn
 |some w=>
  cases w with
  |inl y=>exact BF h
  |inr r=>exact uV h
theorem y5 {t:Ty}{l:List t.den}{i:Nat}(h:i<l.length):qD t l (i:Int)=l[i]:=by
 unfold qD;rw[aRY,aRD,aRn h];rfl
theorem zI {l:List UInt8}{i:Nat}(h:i<l.length):qC l (i:Int)=(l[i].toNat:Int):=by
 unfold qC;rw[aRY,aRD,aRn h];rfl
def vD {β:Type}(f:Nat->β) (b:β):Option Nat->β
 |some k=>f k
 |none=>b
theorem a0D {α ρ:Type}{f:Int->Option (Int⊕(Unit⊕ρ))}{l:List α}(p:α->Bool) (g:Nat->ρ)
  (hf: ∀(i:Nat) (h:i<l.length),f i=if p l[i]=true then some (.inr (.inr (g i))) else some (.inl (i+1)))
  (he:f l.length=some (.inr (.inl ()))): ∀(n j:Nat),j+n=l.length->qM f j=some (vD (fun k=> .inr (g (j+k))) (.inl ()) ((l.drop j).findIdx? p))
 |0,j,hj=>by
  have:j=l.length:=by omega
  subst this;rw[aSb,yV,he];rfl
 |n+1,j,hj=>by
  have hlt:j<l.length:=by omega
  rw[yV,hf j hlt,aRC hlt,aSB];by_cases hp:p l[j]=true
  ·rw[if_pos hp,if_pos hp];rfl
  ·rw[if_neg hp,if_neg hp];show qM f ((j:Int)+1)=_;have:=a0D p g hf he n (j+1) (by omega);rw[show ((j:Int)+1)=((j+1:Nat):Int) by omega,this];cases(l.drop (j+1)).findIdx? p with
   |none=>rfl
   |some k=>
    show some (Sum.inr (g (j+1+k)))=some (Sum.inr (g (j+(k+1))));rw[show j+1+k=j+(k+1) by omega]
theorem AN {α ρ:Type}{f:Int->Option (Int⊕(Unit⊕ρ))}{l:List α}(p:α->Bool) (g:Nat->ρ)
  (hf: ∀(i:Nat) (h:i<l.length),f i=if p l[i]=true then some (.inr (.inr (g i))) else some (.inl (i+1)))
  (he:f l.length=some (.inr (.inl ()))):qM f 0=some (vD (fun k=> .inr (g k)) (.inl ()) (l.findIdx? p)):=by
 have:=a0D p g hf he l.length 0 (by omega);simpa using this
theorem aBs {s:List UInt8}{i:Nat}(h:i<s.length) (ha:s[i].toNat<128):wW s i=(s[i].toNat:Int)/\zU s i=i+1:=by
 have h1:=Lib.decodeL_drop ⟨s.toArray⟩ i;have h2:(⟨s.toArray⟩:ByteArray).data.toList.drop i=s[i]::s.drop (i+1):=by
  show s.drop i=_;rw[aRC h]
 rw[h2,Lib.decodeL_ascii _ _ ha] at h1;unfold wW zU Y0;rw[<-h1,if_pos h];exact⟨rfl,rfl⟩
theorem aKw {n b0 b1 b2 b3:Nat}(h:128<=b0):128<=(Lib.decodeN n b0 b1 b2 b3).1:=by
 unfold Lib.decodeN
 repeat' split
 all_goals first|omega|(dsimp only;omega)
theorem aBt {s:List UInt8}{i:Nat}(h:i<s.length) (ha:128<=s[i].toNat):128<=wW s i:=by
 unfold wW;rw[Lib.decode_at];have:(⟨s.toArray⟩:ByteArray).get! i=s[i]:=by
  show s.toArray[i]! =_;simp [h]
 rw[this];exact Int.ofNat_le.2 (aKw ha)
theorem aBu {ρ:Type}{f:Nat->Option (Nat⊕(Unit⊕ρ))}{s:List UInt8}(p:Int->Bool) (g:Nat->ρ) (hb: ∀c,128<=c->p c=true)
  (hf: ∀(i:Nat) (h:i<s.length),f i=if p (wW s i)=true then some (.inr (.inr (g i))) else some (.inl (zU s i)))
  (he:f s.length=some (.inr (.inl ()))): ∀(n j:Nat),j+n=s.length->qM f j=some (vD (fun k=> .inr (g (j+k))) (.inl ()) ((s.drop j).findIdx? (fun b=>p b.toNat)))
 |0,j,hj=>by
  have:j=s.length:=by omega
  subst this;rw[aSb,yV,he];rfl
 |n+1,j,hj=>by
  have hlt:j<s.length:=by omega
  rw[yV,hf j hlt,aRC hlt,aSB];by_cases ha:s[j].toNat<128
  ·obtain⟨e1,e2⟩:=aBs hlt ha;rw[e1,e2];by_cases hp:p (s[j].toNat:Int)=true
   ·rw[if_pos hp,if_pos hp];rfl
   ·rw[if_neg hp,if_neg hp];show qM f (j+1)=_;rw[aBu p g hb hf he n (j+1) (by omega)];cases(s.drop (j+1)).findIdx? (fun b=>p b.toNat) with
    |none=>rfl
    |some k=>
     show some (Sum.inr (g (j+1+k)))=some (Sum.inr (g (j+(k+1))));rw[show j+1+k=j+(k+1) by omega]
  ·rw[if_pos (hb _ (aBt hlt (by omega))),if_pos (hb _ (by omega))];rfl
theorem aKx {ρ:Type}{f:Nat->Option (Nat⊕(Unit⊕ρ))}{s:List UInt8}(p:Int->Bool) (g:Nat->ρ) (hb: ∀c,128<=c->p c=true)
  (hf: ∀(i:Nat) (h:i<s.length),f i=if p (wW s i)=true then some (.inr (.inr (g i))) else some (.inl (zU s i)))
  (he:f s.length=some (.inr (.inl ()))):qM f 0=some (vD (fun k=> .inr (g k)) (.inl ()) (s.findIdx? (fun b=>p b.toNat))):=by
 have:=aBu p g hb hf he s.length 0 (by omega);simpa using this
def q8 {α:Type}(l:List α):Prop:=l.length<=4000000000
noncomputable section
def PC (O:tY) (Z:(List UInt8)):Int→Option (Int⊕(Unit⊕(Int×Bool))):=fun aA=>if (decide (aA<(O.2.2.2.1.length:Int)))=true then if 0≤aA∧aA<(O.2.2.2.1.length:Int) then if (decide ((qD sK O.2.2.2.1 aA).1=Z))=true then some (.inr (.inr ((aA,true)))) else if pP (aA+(1:Int)) then some (.inl (aA+(1:Int))) else none else none else some (.inr (.inl ()))
def E6 (O:tY) (Z:(List UInt8)):Option (Int×Bool):=sN (qM (PC O Z) (0:Int)) fun _=>some (((0:Int),false))
section
variable (O:tY) (Z:(List UInt8))
abbrev a0E:List pR:=[(.val CZ O,none),(.val .str Z,none)]
abbrev a0F:List pQ:=[]
@[go_sem] def a0G:pX:=⟨[((E6 O Z)).isSome=true],[(.val (.int .i64) ((val (E6 O Z)).1),none),(.val .bool ((val (E6 O Z)).2),none)],[]⟩
def aBv:List pR→List pQ→Option pX:=rJ (V:=(tY×(List UInt8))) (fun x=>a0E x.1 x.2) (fun x=>a0F) fun x=>a0G x.1 x.2
@[go_sem] theorem aPK:aBv (no_index (a0E O Z)) (no_index a0F)=some (a0G O Z):=rM (fun⟨a0,a1⟩ ⟨b0,b1⟩ h1 h2=>by cases h1;cases h2;rfl) (O,Z)
end
@[go_sem] abbrev a0H:Nat×qS:=(37,⟨[.v,.v],aBv,[],[],none⟩)
theorem HO:qZ Tryz.prog [s9,E3,zH,AM] (qY []):=⟨⟨sC,⟨HJ,⟨AL,⟨C6,trivial⟩⟩⟩⟩,rK,rE⟩
theorem aKy:rD Tryz.prog a0H:=by
 refine rN HO Tryz.func37 (c:=_) rfl (N:=23) (by kernel_rfl) (ts:=[(4,none),(5,none)]) rfl (fun _ _=>rfl) ?_;intro⟨O,Z⟩ hs hrow;dsimp only[a0E,a0F,a0G,rG,qE,qK,rC,rI,Nat.reduceAdd] at hs hrow⊢;have hz:=hs;obtain⟨z0,hC0⟩:=aRi.1 hz
 try rw[rU hC0]
 clear hz hs;unfold E6 at hC0;refine pO HO ?_;refine q9 ?_;refine pO HO ?_;refine rQ ?_;obtain⟨y1,hy1,hC0⟩:=vC hC0;refine uI 0 (fun s=> ∃v,y1= .inl v∧s=(fun _=>⟨[],[],0,23,0⟩) v) ?_ ?_
 ·refine uH hy1 (fun x=>⟨[(1,(.val .str Z,none)),(2,(.val .ref (some (0,0)),none)),(6,(.val (.int .i64) x,none))],[(0,.cells CZ O [])],1,23,0⟩) ⟨[1,2,6],[(0,0)]⟩ (by rfl) ?_;intro aA w1 n1 hC1 hN1;unfold PC at hC1;dsimp only at hC1⊢;refine q9 ?_;refine pO HO ?_;refine q6 hC1 (fun hC1 hc1=> ?_) (fun hC1 hc1=> ?_)
  ·refine qJ (pZ (q9 (rQ ?_)));obtain⟨hg1,hC1⟩:=pV hC1;refine pO HO ?_ (hp:=by exact hg1);refine q6 hC1 (fun hC1 hc2=> ?_) (fun hC1 hc2=> ?_)
   ·refine pO HO ?_;refine pW (qW (qI (wB (wA (qW (qI ?_))))));cases hC1;cases hN1;dsimp only at hC0;cases hC0;exact⟨[],by rfl,by rfl,by rfl⟩
   ·refine qJ (rT (pZ ?_));obtain⟨hg2,hC1⟩:=pV hC1;refine rR HO ?_ (hp:=by exact hg2);cases hC1;exact tE ⟨⟨[1,2,6],[(0,0)]⟩,_,by rfl,hN1⟩
  ·refine uG (uE (uK ?_));cases hC1;cases hN1;exact uJ ⟨⟨[],[]⟩,_,rfl,by rfl⟩
 ·rintro _ ⟨v,rfl,rfl⟩;dsimp only at hC0⊢;refine uF (pZ ?_);refine pO HO ?_;refine pW ?_;cases hC0;exact⟨[],by rfl,by rfl,by rfl⟩
attribute [irreducible] E6
def aBw (O:HE):Unit:=()
section
variable (O:HE)
abbrev a0I:List pR:=[(.val AK O,none)]
abbrev a0J:List pQ:=[]
@[go_sem] def a0K:pX:=⟨[],[(.val .clo (some (92,[(0,0)])),none)],[.cells AK O []]⟩
def aBx:List pR→List pQ→Option pX:=rJ (V:=HE) (fun x=>a0I x) (fun x=>a0J) fun x=>a0K x
@[go_sem] theorem aPL:aBx (no_index (a0I O)) (no_index a0J)=some (a0K O):=rM (fun a0 b0 h1 h2=>by cases h1;cases h2;rfl) O
end
@[go_sem] abbrev aBy:Nat×qS:=(50,⟨[.v],aBx,[],[],none⟩)
theorem a0L:qZ Tryz.prog [E2] (qY []):=⟨⟨HI,trivial⟩,rK,rE⟩
theorem aKz:rD Tryz.prog aBy:=by
 refine rN a0L Tryz.func50 (c:=_) rfl (N:=4) (by kernel_rfl) (ts:=[(2,none)]) rfl (fun _ _=>rfl) ?_;intro O hs hrow;dsimp only[a0I,a0J,a0K,rG,qE,qK,rC,rI,Nat.reduceAdd] at hs hrow⊢;obtain⟨z0,hC0⟩: ∃z,(aBw O)=z:=⟨_,rfl⟩
 try rw[hC0]
 unfold aBw at hC0;refine pO a0L ?_;refine pO a0L ?_;refine pW ?_;cases hC0;exact⟨[(0,0)],by rfl,by rfl,by rfl⟩
def yA (O:((List Int)×Unit)) (Z:(List UInt8)):Option Unit:=if List.length O.1+Z.length≤140737488355328 then some (()) else none
section
variable (O:(List UInt8)) (Z:((List Int)×Unit)) (aA:Nat)
abbrev a0M:List pR:=[(.val .ref (some (0,0)),none),(.val .str O,none)]
abbrev a0N:List pQ:=[.cells tI ((some (0,0)),Z) [(1,1)],.grow 5 1 aA]
@[go_sem] def a0O:pX:=⟨[aA=(Z.1.length),((yA Z O)).isSome=true],[(.val (.int .i64) (O.length:Int),none),(.any,none)],[.cells tI ((some (0,0)),((Z.1++s5 O),())) [(1,1)],.grow 5 1 ((Z.1++s5 O).length)]⟩
def aBz:List pR→List pQ→Option pX:=rJ (V:=((List UInt8)×((List Int)×Unit)×Nat)) (fun x=>a0M x.1) (fun x=>a0N x.2.1 x.2.2) fun x=>a0O x.1 x.2.1 x.2.2
@[go_sem] theorem aPM:aBz (no_index (a0M O)) (no_index (a0N Z aA))=some (a0O O Z aA):=rM (fun⟨a0,a1,a2⟩ ⟨b0,b1,b2⟩ h1 h2=>by cases h1;cases h2;rfl) (O,Z,aA)
end
@[go_sem] abbrev HP:Nat×qS:=(53,⟨[.p tI [1],.v],aBz,[],[],none⟩)
theorem PD:qZ Tryz.prog [s9,E4,FI] (qY [UD]):=⟨⟨sC,⟨HK,⟨JL,trivial⟩⟩⟩,qH a0B rK,rE⟩
theorem JP:rD Tryz.prog HP:=by
 refine rN PD Tryz.func53 (c:=_) rfl (N:=19) (by kernel_rfl) (ts:=[(4,none),(5,none)]) rfl (fun _ _=>rfl) ?_;intro⟨O,Z,aA⟩ hs hrow;dsimp only[a0M,a0N,a0O,rG,qE,qK,rC,rI,Nat.reduceAdd] at hs hrow⊢;obtain⟨rfl,hz⟩:=hs;obtain⟨z0,hC0⟩:=aRi.1 hz
 try rw[rU hC0]
 clear hz;unfold yA at hC0;refine pO PD ?_;refine pO PD ?_ (hp:=by first|rfl|trivial)
 obtain⟨hg1,hC0⟩:=pV hC0;refine pO PD ?_ (hp:=by exact⟨by first|rfl|trivial,hg1⟩)
 refine pO PD ?_;refine pW ?_;cases hC0;exact⟨[(0,0),(1,1)],by rfl,by rfl,by rfl⟩
attribute [irreducible] yA
def HR (O:(List (List UInt8))):(Int×Int)→Option ((Int×Int)⊕Int):=fun(Z,aA)=>if ((decide (aA<(O.length:Int)))&&(decide (Z<(1099511627776:Int))))=true then if 0≤aA∧aA<(O.length:Int) then if pP (Z+((qD .str O aA).length:Int)) then if pP (aA+(1:Int)) then some (.inl ((Z+((qD .str O aA).length:Int)),(aA+(1:Int)))) else none else none else none else some (.inr Z)
def HS (O:(List qB)):(Int×Int)→Option ((Int×Int)⊕Int):=fun(Z,aA)=>if ((decide (aA<(O.length:Int)))&&(decide (Z<(1099511627776:Int))))=true then if 0≤aA∧aA<(O.length:Int) then if pP (Z+(((qD (.pair .str (.pair .str .unit)) O aA).1).length:Int)) then if 0≤aA∧aA<(O.length:Int) then if pP ((Z+(((qD (.pair .str (.pair .str .unit)) O aA).1).length:Int))+(((qD (.pair .str (.pair .str .unit)) O aA).2.1).length:Int)) then if pP (aA+(1:Int)) then some (.inl (((Z+(((qD (.pair .str (.pair .str .unit)) O aA).1).length:Int))+(((qD (.pair .str (.pair .str .unit)) O aA).2.1).length:Int)),(aA+(1:Int)))) else none else none else none else none else none else some (.inr Z)
def yB (O:(List (List UInt8))) (Z:(List qB)):Option Int:=if pP ((O.length:Int)+(Z.length:Int)) then rL (qM (HR O) (((O.length:Int)+(Z.length:Int)),(0:Int))) fun aA=>rL (qM (HS Z) (aA,(0:Int))) fun aB=>some (aB) else none
section
variable (O:(List (List UInt8))) (Z:(List qB))
abbrev a0P:List pR:=[(.val (.list .str) O,none),(.val (.list (.pair .str (.pair .str .unit))) Z,none)]
abbrev a0Q:List pQ:=[]
@[go_sem] def a0R:pX:=⟨[((yB O Z)).isSome=true],[(.val (.int .i64) (val (yB O Z)),none)],[]⟩
def aBA:List pR→List pQ→Option pX:=rJ (V:=((List (List UInt8))×(List qB))) (fun x=>a0P x.1 x.2) (fun x=>a0Q) fun x=>a0R x.1 x.2
@[go_sem] theorem aPN:aBA (no_index (a0P O Z)) (no_index a0Q)=some (a0R O Z):=rM (fun⟨a0,a1⟩ ⟨b0,b1⟩ h1 h2=>by cases h1;cases h2;rfl) (O,Z)
end
@[go_sem] abbrev aBB:Nat×qS:=(57,⟨[.v,.v],aBA,[],[],none⟩)
theorem C8:qZ Tryz.prog [s9,wC,y4,C7] (qY []):=⟨⟨sC,⟨x5,⟨yU,⟨E5,trivial⟩⟩⟩⟩,rK,rE⟩
theorem aKA:rD Tryz.prog aBB:=by
 refine rN C8 Tryz.func57 (c:=_) rfl (N:=56) (by kernel_rfl) (ts:=[(4,none)]) rfl (fun _ _=>rfl) ?_;intro⟨O,Z⟩ hs hrow;dsimp only[a0P,a0Q,a0R,rG,qE,qK,rC,rI,Nat.reduceAdd] at hs hrow⊢;have hz:=hs;obtain⟨z0,hC0⟩:=aRi.1 hz
 try rw[rU hC0]
 clear hz hs;unfold yB at hC0;refine pO C8 ?_;obtain⟨hg1,hC0⟩:=pV hC0;refine pO C8 ?_ (hp:=by exact hg1);refine q9 ?_;refine pO C8 ?_;refine rQ ?_;obtain⟨aA,hy1,hC0⟩:=pS hC0;refine uI 0 (fun s=>s=(fun x=>⟨[(1,(.val (.list (.pair .str (.pair .str .unit))) Z,none)),(5,(.val (.int .i64) x,none))],[],0,56,0⟩) aA) ?_ ?_
 ·refine uH hy1 (fun x=>⟨[(0,(.val (.list .str) O,none)),(1,(.val (.list (.pair .str (.pair .str .unit))) Z,none)),(5,(.val (.int .i64) x.1,none)),(6,(.val (.int .i64) x.2,none))],[],0,56,0⟩) ⟨[0,1,5,6],[]⟩ (by rfl) ?_;intro x1 w1 n1 hC1 hN1;obtain⟨aB,aC⟩:=x1;unfold HR at hC1;dsimp only at hC1⊢;refine q9 ?_;refine pO C8 ?_ (hp:=by exact⟨fun hh=>hh,(fun hh=>s3 hh)⟩);refine q6 hC1 (fun hC1 hc1=> ?_) (fun hC1 hc1=> ?_)
  ·refine qJ (pZ (q9 (rQ ?_)));obtain⟨hg2,hC1⟩:=pV hC1;obtain⟨hg3,hC1⟩:=pV hC1;refine rR C8 ?_ (hp:=by exact⟨hg2,hg3⟩);refine rT (pZ ?_);obtain⟨hg4,hC1⟩:=pV hC1;refine rR C8 ?_ (hp:=by exact hg4);cases hC1;exact tE ⟨⟨[0,1,5,6],[]⟩,_,by rfl,hN1⟩
  ·refine uG (uE (uK ?_));cases hC1;cases hN1;exact uJ ⟨⟨[1,5],[]⟩,by rfl⟩
 ·rintro _ rfl;dsimp only at hC0⊢;refine uF (pZ (q9 ?_));refine pO C8 ?_;refine rQ ?_;obtain⟨aD,hy1,hC0⟩:=pS hC0;refine uI 2 (fun s=>s=(fun x=>⟨[(5,(.val (.int .i64) x,none))],[],0,56,0⟩) aD) ?_ ?_
  ·refine uH hy1 (fun x=>⟨[(1,(.val (.list (.pair .str (.pair .str .unit))) Z,none)),(5,(.val (.int .i64) x.1,none)),(7,(.val (.int .i64) x.2,none))],[],0,56,0⟩) ⟨[1,5,7],[]⟩ (by rfl) ?_;intro x1 w1 n1 hC1 hN1;obtain⟨aE,aF⟩:=x1;unfold HS at hC1;dsimp only at hC1⊢;refine q9 ?_;refine pO C8 ?_ (hp:=by exact⟨fun hh=>hh,(fun hh=>s3 hh)⟩);refine q6 hC1 (fun hC1 hc2=> ?_) (fun hC1 hc2=> ?_)
   ·refine qJ (pZ (q9 (rQ ?_)));obtain⟨hg5,hC1⟩:=pV hC1;obtain⟨hg6,hC1⟩:=pV hC1;obtain⟨hg7,hC1⟩:=pV hC1;obtain⟨hg8,hC1⟩:=pV hC1;refine C5 C8 ?_ (hp:=by exact⟨hg5,hg6,hg7,hg8⟩);refine rT (pZ ?_);obtain⟨hg9,hC1⟩:=pV hC1;refine rR C8 ?_ (hp:=by exact hg9);cases hC1;exact tE ⟨⟨[1,5,7],[]⟩,_,by rfl,hN1⟩
   ·refine uG (uE (uK ?_));cases hC1;cases hN1;exact uJ ⟨⟨[5],[]⟩,by rfl⟩
  ·rintro _ rfl;dsimp only at hC0⊢;refine uF (pZ ?_);refine pO C8 ?_;refine pW ?_;cases hC0;exact⟨[],by rfl,by rfl,by rfl⟩
attribute [irreducible] yB
def UE (O:(List (List UInt8))) (Z:(List (List UInt8))):Int→Option (Int⊕(Unit⊕Bool)):=fun aA=>if (decide (aA<(O.length:Int)))=true then if 0≤aA∧aA<(O.length:Int) then if 0≤aA∧aA<(Z.length:Int) then if (!decide ((qD .str O aA)=(qD .str Z aA)))=true then some (.inr (.inr (false))) else if pP (aA+(1:Int)) then some (.inl (aA+(1:Int))) else none else none else none else some (.inr (.inl ()))
def wL (O:(List (List UInt8))) (Z:(List (List UInt8))):Option Bool:=if (!decide ((O.length:Int)=(Z.length:Int)))=true then some (false) else sN (qM (UE O Z) (0:Int)) fun _=>some (true)
section
variable (O:(List (List UInt8))) (Z:(List (List UInt8)))
abbrev a0S:List pR:=[(.val (.list .str) O,none),(.val (.list .str) Z,none)]
abbrev a0T:List pQ:=[]
@[go_sem] def a0U:pX:=⟨[((wL O Z)).isSome=true],[(.val .bool (val (wL O Z)),none)],[]⟩
def aBC:List pR→List pQ→Option pX:=rJ (V:=((List (List UInt8))×(List (List UInt8)))) (fun x=>a0S x.1 x.2) (fun x=>a0T) fun x=>a0U x.1 x.2
@[go_sem] theorem aPO:aBC (no_index (a0S O Z)) (no_index a0T)=some (a0U O Z):=rM (fun⟨a0,a1⟩ ⟨b0,b1⟩ h1 h2=>by cases h1;cases h2;rfl) (O,Z)
end
@[go_sem] abbrev a0V:Nat×qS:=(87,⟨[.v,.v],aBC,[],[],none⟩)
theorem E7:qZ Tryz.prog [s9,wC] (qY []):=⟨⟨sC,⟨x5,trivial⟩⟩,rK,rE⟩
theorem aBD:rD Tryz.prog a0V:=by
 refine rN E7 Tryz.func87 (c:=_) rfl (N:=26) (by kernel_rfl) (ts:=[(4,none)]) rfl (fun _ _=>rfl) ?_;intro⟨O,Z⟩ hs hrow;dsimp only[a0S,a0T,a0U,rG,qE,qK,rC,rI,Nat.reduceAdd] at hs hrow⊢;have hz:=hs;obtain⟨z0,hC0⟩:=aRi.1 hz
 try rw[rU hC0]
 clear hz hs;unfold wL at hC0;refine pO E7 ?_;refine q9 ?_;refine pO E7 ?_;refine q6 hC0 (fun hC0 hc1=> ?_) (fun hC0 hc1=> ?_)
 ·refine pO E7 ?_;refine pW (qI ?_);cases hC0;exact⟨[],by rfl,by rfl,by rfl⟩
 ·refine qJ (pZ (q9 ?_));refine pO E7 ?_;refine rQ ?_;obtain⟨y1,hy1,hC0⟩:=vC hC0;refine uI 0 (fun s=> ∃v,y1= .inl v∧s=(fun _=>⟨[],[],0,26,0⟩) v) ?_ ?_
  ·refine uH hy1 (fun x=>⟨[(0,(.val (.list .str) O,none)),(1,(.val (.list .str) Z,none)),(5,(.val (.int .i64) x,none))],[],0,26,0⟩) ⟨[0,1,5],[]⟩ (by rfl) ?_;intro aA w1 n1 hC1 hN1;unfold UE at hC1;dsimp only at hC1⊢;refine q9 ?_;refine pO E7 ?_;refine q6 hC1 (fun hC1 hc2=> ?_) (fun hC1 hc2=> ?_)
   ·refine qJ (pZ (q9 (rQ ?_)));obtain⟨hg1,hC1⟩:=pV hC1;obtain⟨hg2,hC1⟩:=pV hC1;refine uW E7 ?_ (hp:=by exact⟨hg1,hg2⟩);refine q6 hC1 (fun hC1 hc3=> ?_) (fun hC1 hc3=> ?_)
    ·refine pO E7 ?_;refine pW (qW (qI (wB (wA (qW (qI ?_))))));cases hC1;cases hN1;dsimp only at hC0;cases hC0;exact⟨[],by rfl,by rfl,by rfl⟩
    ·refine qJ (rT (pZ ?_));obtain⟨hg3,hC1⟩:=pV hC1;refine rR E7 ?_ (hp:=by exact hg3);cases hC1;exact tE ⟨⟨[0,1,5],[]⟩,_,by rfl,hN1⟩
   ·refine uG (uE (uK ?_));cases hC1;cases hN1;exact uJ ⟨⟨[],[]⟩,_,rfl,by rfl⟩
  ·rintro _ ⟨v,rfl,rfl⟩;dsimp only at hC0⊢;refine uF (pZ ?_);refine pO E7 ?_;refine pW ?_;cases hC0;exact⟨[],by rfl,by rfl,by rfl⟩
attribute [irreducible] wL
end
noncomputable section
def UF (O:(List qB)) (Z:(List qB)):Int→Option (Int⊕(Unit⊕Bool)):=fun aA=>if (decide (aA<(O.length:Int)))=true then if 0≤aA∧aA<(O.length:Int) then if 0≤aA∧aA<(Z.length:Int) then if (!((decide ((qD (.pair .str (.pair .str .unit)) O aA).1=(qD (.pair .str (.pair .str .unit)) Z aA).1))&&(decide ((qD (.pair .str (.pair .str .unit)) O aA).2.1=(qD (.pair .str (.pair .str .unit)) Z aA).2.1))))=true then some (.inr (.inr (false))) else if pP (aA+(1:Int)) then some (.inl (aA+(1:Int))) else none else none else none else some (.inr (.inl ()))
def zJ (O:(List qB)) (Z:(List qB)):Option Bool:=if (!decide ((O.length:Int)=(Z.length:Int)))=true then some (false) else sN (qM (UF O Z) (0:Int)) fun _=>some (true)
section
variable (O:(List qB)) (Z:(List qB))
abbrev a0W:List pR:=[(.val (.list (.pair .str (.pair .str .unit))) O,none),(.val (.list (.pair .str (.pair .str .unit))) Z,none)]
abbrev a0X:List pQ:=[]
@[go_sem] def a0Y:pX:=⟨[((zJ O Z)).isSome=true],[(.val .bool (val (zJ O Z)),none)],[]⟩
def aBE:List pR→List pQ→Option pX:=rJ (V:=((List qB)×(List qB))) (fun x=>a0W x.1 x.2) (fun x=>a0X) fun x=>a0Y x.1 x.2
@[go_sem] theorem aPP:aBE (no_index (a0W O Z)) (no_index a0X)=some (a0Y O Z):=rM (fun⟨a0,a1⟩ ⟨b0,b1⟩ h1 h2=>by cases h1;cases h2;rfl) (O,Z)
end
@[go_sem] abbrev a0Z:Nat×qS:=(88,⟨[.v,.v],aBE,[],[],none⟩)
theorem E8:qZ Tryz.prog [y4,C7] (qY []):=⟨⟨yU,⟨E5,trivial⟩⟩,rK,rE⟩
theorem aBF:rD Tryz.prog a0Z:=by
 refine rN E8 Tryz.func88 (c:=_) rfl (N:=26) (by kernel_rfl) (ts:=[(4,none)]) rfl (fun _ _=>rfl) ?_;intro⟨O,Z⟩ hs hrow;dsimp only[a0W,a0X,a0Y,rG,qE,qK,rC,rI,Nat.reduceAdd] at hs hrow⊢;have hz:=hs;obtain⟨z0,hC0⟩:=aRi.1 hz
 try rw[rU hC0]
 clear hz hs;unfold zJ at hC0;refine pO E8 ?_;refine q9 ?_;refine pO E8 ?_;refine q6 hC0 (fun hC0 hc1=> ?_) (fun hC0 hc1=> ?_)
 ·refine pO E8 ?_;refine pW (qI ?_);cases hC0;exact⟨[],by rfl,by rfl,by rfl⟩
 ·refine qJ (pZ (q9 ?_));refine pO E8 ?_;refine rQ ?_;obtain⟨y1,hy1,hC0⟩:=vC hC0;refine uI 0 (fun s=> ∃v,y1= .inl v∧s=(fun _=>⟨[],[],0,26,0⟩) v) ?_ ?_
  ·refine uH hy1 (fun x=>⟨[(0,(.val (.list (.pair .str (.pair .str .unit))) O,none)),(1,(.val (.list (.pair .str (.pair .str .unit))) Z,none)),(5,(.val (.int .i64) x,none))],[],0,26,0⟩) ⟨[0,1,5],[]⟩ (by rfl) ?_;intro aA w1 n1 hC1 hN1;unfold UF at hC1;dsimp only at hC1⊢;refine q9 ?_;refine pO E8 ?_;refine q6 hC1 (fun hC1 hc2=> ?_) (fun hC1 hc2=> ?_)
   ·refine qJ (pZ (q9 (rQ ?_)));obtain⟨hg1,hC1⟩:=pV hC1;obtain⟨hg2,hC1⟩:=pV hC1;refine uW E8 ?_ (hp:=by exact⟨hg1,hg2⟩);refine q6 hC1 (fun hC1 hc3=> ?_) (fun hC1 hc3=> ?_)
    ·refine pO E8 ?_;refine pW (qW (qI (wB (wA (qW (qI ?_))))));cases hC1;cases hN1;dsimp only at hC0;cases hC0;exact⟨[],by rfl,by rfl,by rfl⟩
    ·refine qJ (rT (pZ ?_));obtain⟨hg3,hC1⟩:=pV hC1;refine rR E8 ?_ (hp:=by exact hg3);cases hC1;exact tE ⟨⟨[0,1,5],[]⟩,_,by rfl,hN1⟩
   ·refine uG (uE (uK ?_));cases hC1;cases hN1;exact uJ ⟨⟨[],[]⟩,_,rfl,by rfl⟩
  ·rintro _ ⟨v,rfl,rfl⟩;dsimp only at hC0⊢;refine uF (pZ ?_);refine pO E8 ?_;refine pW ?_;cases hC0;exact⟨[],by rfl,by rfl,by rfl⟩
attribute [irreducible] zJ
def M6 (O:qQ) (Z:qQ):Option Unit:=if ((((((decide (O.1=Z.1))&&(decide (O.2.1=Z.2.1)))&&(decide (O.2.2.1=Z.2.2.1)))&&(decide (O.2.2.2.2.2.1=Z.2.2.2.2.2.1)))==true)=true→((wL O.2.2.2.1 Z.2.2.2.1)).isSome=true) then if (((((((decide (O.1=Z.1))&&(decide (O.2.1=Z.2.1)))&&(decide (O.2.2.1=Z.2.2.1)))&&(decide (O.2.2.2.2.2.1=Z.2.2.2.2.2.1)))&&(val (wL O.2.2.2.1 Z.2.2.2.1)))==true)=true→((wL O.2.2.2.2.1 Z.2.2.2.2.1)).isSome=true) then if ((((((((decide (O.1=Z.1))&&(decide (O.2.1=Z.2.1)))&&(decide (O.2.2.1=Z.2.2.1)))&&(decide (O.2.2.2.2.2.1=Z.2.2.2.2.2.1)))&&(val (wL O.2.2.2.1 Z.2.2.2.1)))&&(val (wL O.2.2.2.2.1 Z.2.2.2.2.1)))==true)=true→((zJ O.2.2.2.2.2.2.1 Z.2.2.2.2.2.2.1)).isSome=true) then some (()) else none else none else none
section
variable (O:qQ) (Z:qQ)
abbrev a00:List pR:=[(.val sK O,none),(.val sK Z,none)]
abbrev a01:List pQ:=[]
@[go_sem] def a02:pX:=⟨[((M6 O Z)).isSome=true],[(.val .bool (((((((decide (O.1=Z.1))&&(decide (O.2.1=Z.2.1)))&&(decide (O.2.2.1=Z.2.2.1)))&&(decide (O.2.2.2.2.2.1=Z.2.2.2.2.2.1)))&&(val (wL O.2.2.2.1 Z.2.2.2.1)))&&(val (wL O.2.2.2.2.1 Z.2.2.2.2.1)))&&(val (zJ O.2.2.2.2.2.2.1 Z.2.2.2.2.2.2.1))),none)],[]⟩
def aBG:List pR→List pQ→Option pX:=rJ (V:=(qQ×qQ)) (fun x=>a00 x.1 x.2) (fun x=>a01) fun x=>a02 x.1 x.2
@[go_sem] theorem aPQ:aBG (no_index (a00 O Z)) (no_index a01)=some (a02 O Z):=rM (fun⟨a0,a1⟩ ⟨b0,b1⟩ h1 h2=>by cases h1;cases h2;rfl) (O,Z)
end
@[go_sem] abbrev aBH:Nat×qS:=(89,⟨[.v,.v],aBG,[],[],none⟩)
theorem a03:qZ Tryz.prog [x6,s9,wC,y4,AM] (qY [a0V,a0Z]):=⟨⟨xN,⟨sC,⟨x5,⟨yU,⟨C6,trivial⟩⟩⟩⟩⟩,qH aBD (qH aBF rK),rE⟩
theorem aKB:rD Tryz.prog aBH:=by
 refine rN a03 Tryz.func89 (c:=_) rfl (N:=52) (by kernel_rfl) (ts:=[(4,none)]) rfl (fun _ _=>rfl) ?_;intro⟨O,Z⟩ hs hrow;dsimp only[a00,a01,a02,rG,qE,qK,rC,rI,Nat.reduceAdd] at hs hrow⊢;have hz:=hs;obtain⟨z0,hC0⟩:=aRi.1 hz
 try rw[rU hC0]
 clear hz hs;unfold M6 at hC0;refine pO a03 ?_;obtain⟨hg1,hC0⟩:=pV hC0;obtain⟨hg2,hC0⟩:=pV hC0;obtain⟨hg3,hC0⟩:=pV hC0;refine pO a03 ?_ (hp:=by exact⟨fun hh=>hh,fun hh=>hh,fun hh=>hh,fun hh=>hh,fun hh=>s3 hh,fun hh=>hh,fun hh=>hh,fun hh=>hh,fun hh=>hh,fun hh=>s3 hh,fun hh=>hh,fun hh=>hh,fun hh=>hh,fun hh=>hh,fun hh=>s3 hh,fun hh=>hh,fun hh=>hh,fun hh=>hh,fun hh=>hh,hg1,fun hh=>s3 hh,fun hh=>hh,fun hh=>hh,fun hh=>hh,fun hh=>hh,hg2,fun hh=>s3 hh,fun hh=>hh,fun hh=>hh,fun hh=>hh,fun hh=>hh,hg3,(fun hh=>s3 hh)⟩);refine pW ?_;cases hC0;exact⟨[],by rfl,by rfl,by rfl⟩
attribute [irreducible] M6
def aBI:Unit:=()
section
abbrev a04:List pR:=[]
abbrev a05:List pQ:=[]
@[go_sem] def a06:pX:=⟨[],[(.val .ref (some (0,0)),none)],[.cells x4 (([]:List (List UInt8)),((some 1),((some 2),((some 3),((([]:List UInt8),(([]:List UInt8),(([]:List UInt8),(([]:List (List UInt8)),((some (4,0)),((0:Int),(([]:List qB),()))))))),((-1:Int),())))))) [(0,5),(7,6),(10,7)],.map (.int .i64) .bool ([]:List (Int×Bool)),.map .str .bool ([]:List ((List UInt8)×Bool)),.map .str .bool ([]:List ((List UInt8)×Bool)),.row 9 .str ([]:List (List UInt8)) 0,.grow 9 1 (([]:List (List UInt8)).length),.grow 9 1 (([]:List (List UInt8)).length),.grow 149 2 (([]:List qB).length)]⟩
def aBJ:List pR→List pQ→Option pX:=rJ (V:=Unit) (fun x=>a04) (fun x=>a05) fun x=>a06
@[go_sem] theorem aPR:aBJ (no_index a04) (no_index a05)=some a06:=rM (fun _ _ h1 h2=>by cases h1;cases h2;rfl) ()
end
@[go_sem] abbrev FO:Nat×qS:=(94,⟨[],aBJ,[],[],none⟩)
theorem a07:qZ Tryz.prog [] (qY []):=⟨trivial,rK,rE⟩
theorem aKC:qZ Tryz.prog [x6,D0,s9,HL,P8,HN] (qY []):=⟨⟨xN,⟨FJ,⟨sC,⟨LY,⟨a0y,⟨LZ,trivial⟩⟩⟩⟩⟩⟩,a07.Γ,rE⟩
theorem UG:rD Tryz.prog FO:=by
 refine rN a07 Tryz.func94 (c:=_) rfl (N:=6) (by kernel_rfl) (ts:=[(0,none)]) rfl (fun _ _=>rfl) ?_;intro⟨⟩ hs hrow;dsimp only[a04,a05,a06,rG,qE,qK,rC,rI,Nat.reduceAdd] at hs hrow⊢;obtain⟨z0,hC0⟩: ∃z,aBI=z:=⟨_,rfl⟩
 try rw[hC0]
 unfold aBI at hC0;refine pO a07 ?_;refine pO aKC ?_;refine pW ?_;cases hC0;exact⟨[(0,160),(1,32),(2,64),(3,96),(4,164),(5,161),(6,162),(7,163)],by rfl,by rfl,by rfl⟩
def aBK (O:(List UInt8)):Unit:=()
section
variable (O:(List UInt8))
abbrev a08:List pR:=[(.val .str O,none)]
abbrev a09:List pQ:=[]
@[go_sem] def a1a:pX:=⟨[],[(.val .clo (some (134,[(0,0)])),none)],[.cells .str O []]⟩
def aBL:List pR→List pQ→Option pX:=rJ (V:=(List UInt8)) (fun x=>a08 x) (fun x=>a09) fun x=>a1a x
@[go_sem] theorem aPS:aBL (no_index (a08 O)) (no_index a09)=some (a1a O):=rM (fun a0 b0 h1 h2=>by cases h1;cases h2;rfl) O
end
@[go_sem] abbrev PE:Nat×qS:=(95,⟨[.v],aBL,[],[],none⟩)
theorem a1b:qZ Tryz.prog [s9] (qY []):=⟨⟨sC,trivial⟩,rK,rE⟩
theorem aBM:rD Tryz.prog PE:=by
 refine rN a1b Tryz.func95 (c:=_) rfl (N:=4) (by kernel_rfl) (ts:=[(2,none)]) rfl (fun _ _=>rfl) ?_;intro O hs hrow;dsimp only[a08,a09,a1a,rG,qE,qK,rC,rI,Nat.reduceAdd] at hs hrow⊢;obtain⟨z0,hC0⟩: ∃z,(aBK O)=z:=⟨_,rfl⟩
 try rw[hC0]
 unfold aBK at hC0;refine pO a1b ?_;refine pO a1b ?_;refine pW ?_;cases hC0;exact⟨[(0,0)],by rfl,by rfl,by rfl⟩
def JQ (O:(List UInt8)):((List (List UInt8))×Int×Int)→Option (((List (List UInt8))×Int×Int)⊕((List (List UInt8))×Int)):=fun(Z,aA,aB)=>if (decide (aB<(O.length:Int)))=true then if 0≤aB∧aB<(O.length:Int) then if (decide ((qC O aB)=(10:Int)))=true then if pP (aB+(1:Int)) then if 0≤aA∧aA≤(aB+(1:Int))∧(aB+(1:Int))≤(O.length:Int) then if (Z.length+([(q7 O aA (aB+(1:Int)))]:List (List UInt8)).length)*16≤140737488355328 then if pP (aB+(1:Int)) then if pP (aB+(1:Int)) then some (.inl ((Z++([(q7 O aA (aB+(1:Int)))]:List (List UInt8))),(aB+(1:Int)),(aB+(1:Int)))) else none else none else none else none else none else if pP (aB+(1:Int)) then some (.inl (Z,aA,(aB+(1:Int)))) else none else none else some (.inr (Z,aA))
def UH (O:(List UInt8)):Option (List (List UInt8)):=rL (qM (JQ O) (([]:List (List UInt8)),(0:Int),(0:Int))) fun(Z,aA)=>if (decide (aA<(O.length:Int)))=true then if 0≤aA∧aA≤(O.length:Int)∧(O.length:Int)≤(O.length:Int) then if (Z.length+([(q7 O aA (O.length:Int))]:List (List UInt8)).length)*16≤140737488355328 then some ((Z++([(q7 O aA (O.length:Int))]:List (List UInt8)))) else none else none else some (Z)
attribute [irreducible] UH
def a1c (O:Int):Option Unit:=if 0≤O∧O<(([([110,101,119]:List UInt8),([102,117,122,122,121]:List UInt8),([116,114,97,110,115,108,97,116,101,100]:List UInt8),([114,101,118,105,101,119,101,100]:List UInt8),([111,98,115,111,108,101,116,101]:List UInt8)]:List (List UInt8)).length:Int) then some (()) else none
attribute [irreducible] a1c
end
noncomputable section
def E9 (O:tY) (Z:HG) (aA:HH):Option ((List qQ)×Int):=if ((aA.2.2.2.1||(decide (aA.2.1=([]:List UInt8))))||(decide ((200:Int)<(aA.2.1.length:Int))))=true then some ((O.2.2.2.1,(3:Int))) else (E6 O aA.2.1).bind fun aB=>if aB.2=true then some ((O.2.2.2.1,(9:Int))) else if (decide ((1000:Int)≤(O.2.2.2.1.length:Int)))=true then some ((O.2.2.2.1,(6:Int))) else if (([]:List qQ).length+O.2.2.2.1.length)*128≤140737488355328 then if ((([]:List qQ)++O.2.2.2.1).length+([(aA.2.1,(Z.1.2.1,(aA.2.2.1,Z.1.2.2.2)))]:List qQ).length)*128≤140737488355328 then some ((((([]:List qQ)++O.2.2.2.1)++([(aA.2.1,(Z.1.2.1,(aA.2.2.1,Z.1.2.2.2)))]:List qQ)),(0:Int))) else none else none
attribute [irreducible] E9
def PF (O:(List UInt8)):Nat→Option (Nat⊕(Unit⊕Bool)):=fun Z=>if (decide (Z<O.length))=true then if (decide (Z<O.length))=true then if (((((decide ((wW O Z)<(97:Int)))||(decide ((122:Int)<(wW O Z))))&&((decide ((wW O Z)<(65:Int)))||(decide ((90:Int)<(wW O Z)))))&&((decide ((wW O Z)<(48:Int)))||(decide ((57:Int)<(wW O Z)))))&&(!decide ((wW O Z)=(45:Int))))=true then some (.inr (.inr (false))) else some (.inl (zU O Z)) else none else some (.inr (.inl ()))
def FP (O:(List UInt8)):Option Bool:=sN (qM (PF O) 0) fun _=>some (((decide ((1:Int)≤(O.length:Int)))&&(decide ((O.length:Int)≤(40:Int)))))
section
variable (O:(List UInt8))
abbrev a1d:List pR:=[(.val .str O,none)]
abbrev a1e:List pQ:=[]
@[go_sem] def a1f:pX:=⟨[((FP O)).isSome=true],[(.val .bool (val (FP O)),none)],[]⟩
def aBN:List pR→List pQ→Option pX:=rJ (V:=(List UInt8)) (fun x=>a1d x) (fun x=>a1e) fun x=>a1f x
@[go_sem] theorem aPT:aBN (no_index (a1d O)) (no_index a1e)=some (a1f O):=rM (fun a0 b0 h1 h2=>by cases h1;cases h2;rfl) O
end
@[go_sem] abbrev a1g:Nat×qS:=(106,⟨[.v],aBN,[],[],none⟩)
theorem HT:qZ Tryz.prog [s9] (qY []):=⟨⟨sC,trivial⟩,rK,rE⟩
theorem aBO:rD Tryz.prog a1g:=by
 refine rN HT Tryz.func106 (c:=_) rfl (N:=44) (by kernel_rfl) (ts:=[(2,none)]) rfl (fun _ _=>rfl) ?_;intro O hs hrow;dsimp only[a1d,a1e,a1f,rG,qE,qK,rC,rI,Nat.reduceAdd] at hs hrow⊢;have hz:=hs;obtain⟨z0,hC0⟩:=aRi.1 hz
 try rw[rU hC0]
 clear hz hs;unfold FP at hC0;refine pO HT ?_;refine q9 ?_;refine pO HT ?_;refine rQ ?_;obtain⟨y1,hy1,hC0⟩:=vC hC0;refine uI 0 (fun s=> ∃v,y1= .inl v∧s=(fun _=>⟨[(0,(.val .str O,none))],[],0,44,0⟩) v) ?_ ?_
 ·refine uH hy1 (fun x=>⟨[(0,(.val .str O,none)),(6,(.val .ref (some (0,0)),none))],[(0,.iter O x)],1,44,0⟩) ⟨[0,6],[(0,64)]⟩ (by rfl) ?_;intro Z w1 n1 hC1 hN1;unfold PF at hC1;dsimp only at hC1⊢;refine pO HT ?_;refine q9 ?_;refine q6 hC1 (fun hC1 hc1=> ?_) (fun hC1 hc1=> ?_)
  ·refine qJ (pZ (rQ ?_));obtain⟨hg1,hC1⟩:=pV hC1;refine pO HT ?_ (hp:=by exact hg1);refine pO HT ?_ (hp:=by exact⟨fun hh=>hh,fun hh=>uB hh,fun hh=>hh,fun hh=>hh,fun hh=>hh,fun hh=>hh,fun hG hh=>HC hG hh,fun hh=>s3 hh,fun hh=>hh,fun hh=>hh,fun hh=>hh,fun hh=>hh,fun hG hh=>HC hG hh,fun hh=>s3 hh,fun hh=>hh,(fun hh=>s3 hh)⟩);refine q6 hC1 (fun hC1 hc2=> ?_) (fun hC1 hc2=> ?_)
   ·refine pO HT ?_;refine pW (qW (wB (wA (qW (qI ?_)))));cases hC1;cases hN1;dsimp only at hC0;cases hC0;exact⟨[],by rfl,by rfl,by rfl⟩
   ·refine qJ (rT ?_);cases hC1;exact tE ⟨⟨[0,6],[(0,0)]⟩,_,by rfl,hN1⟩
  ·refine uG (uE (uK ?_));cases hC1;cases hN1;exact uJ ⟨⟨[0],[]⟩,_,rfl,by rfl⟩
 ·rintro _ ⟨v,rfl,rfl⟩;dsimp only at hC0⊢;refine uF (pZ ?_);refine pO HT ?_ (hp:=by exact⟨fun hh=>hh,fun hh=>hh,(fun hh=>s3 hh)⟩);refine pW ?_;cases hC0;exact⟨[],by rfl,by rfl,by rfl⟩
attribute [irreducible] FP
def zK (O:HF) (Z:dT3) (aA:Int):(Int×Int):=if (decide (O.2.2.2.1=(0:Int)))=true then (Z.2.2.1,aA) else (O.2.2.1,O.2.2.2.1)
def aBP (O:Int):Unit:=()
section
variable (O:Int)
abbrev a1h:List pR:=[(.val (.int .i64) O,none)]
abbrev a1i:List pQ:=[]
@[go_sem] def a1j:pX:=⟨[],[(.val .bool ((decide ((1:Int)≤O))&&(decide (O≤(4:Int)))),none)],[]⟩
def aBQ:List pR→List pQ→Option pX:=rJ (V:=Int) (fun x=>a1h x) (fun x=>a1i) fun x=>a1j x
@[go_sem] theorem aPU:aBQ (no_index (a1h O)) (no_index a1i)=some (a1j O):=rM (fun a0 b0 h1 h2=>by cases h1;cases h2;rfl) O
end
@[go_sem] abbrev UI:Nat×qS:=(164,⟨[.v],aBQ,[],[],none⟩)
theorem a1k:qZ Tryz.prog [] (qY []):=⟨trivial,rK,rE⟩
theorem a1l:rD Tryz.prog UI:=by
 refine rN a1k Tryz.func164 (c:=_) rfl (N:=9) (by kernel_rfl) (ts:=[(2,none)]) rfl (fun _ _=>rfl) ?_;intro O hs hrow;dsimp only[a1h,a1i,a1j,rG,qE,qK,rC,rI,Nat.reduceAdd] at hs hrow⊢;obtain⟨z0,hC0⟩: ∃z,(aBP O)=z:=⟨_,rfl⟩
 try rw[hC0]
 unfold aBP at hC0;refine pO a1k ?_;refine pO a1k ?_ (hp:=by exact⟨fun hh=>hh,(fun hh=>s3 hh)⟩);refine pW ?_;cases hC0;exact⟨[],by rfl,by rfl,by rfl⟩
end
noncomputable section
def UJ (O:(List UInt8)) (Z:Int) (aA:(List UInt8)):Option Unit:=if pP ((O.length:Int)-Z) then if (((decide ((aA.length:Int)≤((O.length:Int)-Z)))==true)=true→pP (Z+(aA.length:Int))) then if (((decide ((aA.length:Int)≤((O.length:Int)-Z)))==true)=true→0≤Z∧Z≤(Z+(aA.length:Int))∧(Z+(aA.length:Int))≤(O.length:Int)) then some (()) else none else none else none
attribute [irreducible] UJ
def PG (O:(List UInt8)):Int→Option (Int⊕Int):=fun Z=>if (((decide (Z<(O.length:Int)))==true)=true→0≤Z∧Z<(O.length:Int)) then if ((((decide (Z<(O.length:Int)))==true)&&((decide ((qC O Z)=(32:Int)))==false))=true→0≤Z∧Z<(O.length:Int)) then if ((decide (Z<(O.length:Int)))&&((decide ((qC O Z)=(32:Int)))||(decide ((qC O Z)=(9:Int)))))=true then if pP (Z+(1:Int)) then some (.inl (Z+(1:Int))) else none else some (.inr Z) else none else none
def UK (O:(List UInt8)):Option (List UInt8):=if (((decide ((0:Int)<(O.length:Int)))==true)=true→pP ((O.length:Int)- (1:Int))) then if (((decide ((0:Int)<(O.length:Int)))==true)=true→0≤((O.length:Int)- (1:Int))∧((O.length:Int)- (1:Int))<(O.length:Int)) then rL (σ:=(List UInt8)) (if ((decide ((0:Int)<(O.length:Int)))&&(decide ((qC O ((O.length:Int)- (1:Int)))=(10:Int))))=true then if pP ((O.length:Int)- (1:Int)) then if 0≤(0:Int)∧(0:Int)≤((O.length:Int)- (1:Int))∧((O.length:Int)- (1:Int))≤(O.length:Int) then some ((q7 O (0:Int) ((O.length:Int)- (1:Int)))) else none else none else some (O) ) fun Z=>rL (qM (PG Z) (0:Int)) fun aA=>if 0≤aA∧aA≤(Z.length:Int)∧(Z.length:Int)≤(Z.length:Int) then some ((q7 Z aA (Z.length:Int))) else none else none else none
attribute [irreducible] UK
def EA (O:(List UInt8)) (Z:(List UInt8)):Option Unit:=if (((decide ((Z.length:Int)≤(O.length:Int)))==true)=true→0≤(0:Int)∧(0:Int)≤(Z.length:Int)∧(Z.length:Int)≤(O.length:Int)) then some (()) else none
attribute [irreducible] EA
def UL (O:(List UInt8)):Int→Option (Int⊕(Unit⊕Int)):=fun Z=>if (decide (Z≤(4:Int)))=true then (a1c Z).bind fun aA=>if (decide ((qD .str ([([110,101,119]:List UInt8),([102,117,122,122,121]:List UInt8),([116,114,97,110,115,108,97,116,101,100]:List UInt8),([114,101,118,105,101,119,101,100]:List UInt8),([111,98,115,111,108,101,116,101]:List UInt8)]:List (List UInt8)) Z)=O))=true then some (.inr (.inr (Z))) else if pP (Z+(1:Int)) then some (.inl (Z+(1:Int))) else none else some (.inr (.inl ()))
def FQ (O:(List UInt8)):Option Int:=sN (qM (UL O) (0:Int)) fun _=>some ((-1:Int))
attribute [irreducible] FQ
def UM (O:(List (List UInt8))) (Z:(List UInt8)):Int→Option (Int⊕(Unit⊕Bool)):=fun aA=>if (decide (aA<(O.length:Int)))=true then if 0≤aA∧aA<(O.length:Int) then if (decide ((qD .str O aA)=Z))=true then some (.inr (.inr (true))) else if pP (aA+(1:Int)) then some (.inl (aA+(1:Int))) else none else none else some (.inr (.inl ()))
def UN (O:(List (List UInt8))) (Z:(List UInt8)):Option Bool:=sN (qM (UM O Z) (0:Int)) fun _=>some (false)
attribute [irreducible] UN
def M7 (O:(List (List UInt8))) (Z:(List UInt8)):Int→Option (Int⊕Int):=fun aA=>if (((decide (aA<(O.length:Int)))==true)=true→0≤aA∧aA<(O.length:Int)) then if ((decide (aA<(O.length:Int)))&&(Op.bytesLess (qD .str O aA) Z))=true then if pP (aA+(1:Int)) then some (.inl (aA+(1:Int))) else none else some (.inr aA) else none
def UO (O:(List (List UInt8))) (Z:(List UInt8)):Option (List (List UInt8)):=rL (qM (M7 O Z) (0:Int)) fun aA=>if 0≤(0:Int)∧(0:Int)≤aA∧aA≤(O.length:Int) then if (([]:List (List UInt8)).length+(q7 O (0:Int) aA).length)*16≤140737488355328 then if ((([]:List (List UInt8))++(q7 O (0:Int) aA)).length+([Z]:List (List UInt8)).length)*16≤140737488355328 then if 0≤aA∧aA≤(O.length:Int)∧(O.length:Int)≤(O.length:Int) then if (((([]:List (List UInt8))++(q7 O (0:Int) aA))++([Z]:List (List UInt8))).length+(q7 O aA (O.length:Int)).length)*16≤140737488355328 then some ((((([]:List (List UInt8))++(q7 O (0:Int) aA))++([Z]:List (List UInt8)))++(q7 O aA (O.length:Int)))) else none else none else none else none else none
attribute [irreducible] UO
end
noncomputable section
def UP (O:(List qB)) (Z:(List UInt8)):Int→Option (Int⊕(Unit⊕((List UInt8)×Bool))):=fun aA=>if (decide (aA<(O.length:Int)))=true then if 0≤aA∧aA<(O.length:Int) then if (decide ((qD (.pair .str (.pair .str .unit)) O aA).1=Z))=true then if 0≤aA∧aA<(O.length:Int) then some (.inr (.inr (((qD (.pair .str (.pair .str .unit)) O aA).2.1,true)))) else none else if pP (aA+(1:Int)) then some (.inl (aA+(1:Int))) else none else none else some (.inr (.inl ()))
def PH (O:(List qB)) (Z:(List UInt8)):Option ((List UInt8)×Bool):=sN (qM (UP O Z) (0:Int)) fun _=>some ((([]:List UInt8),false))
attribute [irreducible] PH
def UQ (O:(List qB)) (Z:(List UInt8)) (aA:(List UInt8)):Int→Option (Int⊕(Unit⊕(List qB))):=fun aB=>if (decide (aB<((((([]:List qB)++O).length):Nat):Int)))=true then if 0≤aB∧aB<((((([]:List qB)++O).length):Nat):Int) then if (decide ((qD (.pair .str (.pair .str .unit)) (([]:List qB)++O) aB).1=Z))=true then if 0≤aB∧aB<((((([]:List qB)++O).length):Nat):Int) then some (.inr (.inr ((List.set (([]:List qB)++O) (Int.toNat aB) ((qD (.pair .str (.pair .str .unit)) (([]:List qB)++O) aB).1,(aA,(qD (.pair .str (.pair .str .unit)) (([]:List qB)++O) aB).2.2)))))) else none else if pP (aB+(1:Int)) then some (.inl (aB+(1:Int))) else none else none else some (.inr (.inl ()))
def M8 (O:(List qB)) (Z:(List UInt8)):Int→Option (Int⊕Int):=fun aA=>if (((decide (aA<(O.length:Int)))==true)=true→0≤aA∧aA<(O.length:Int)) then if ((decide (aA<(O.length:Int)))&&(Op.bytesLess (qD (.pair .str (.pair .str .unit)) O aA).1 Z||decide ((qD (.pair .str (.pair .str .unit)) O aA).1=Z)))=true then if pP (aA+(1:Int)) then some (.inl (aA+(1:Int))) else none else some (.inr aA) else none
def PI (O:(List qB)) (Z:(List UInt8)) (aA:(List UInt8)):Option (List qB):=if (0+O.length)*32≤140737488355328 then sN (qM (UQ O Z aA) (0:Int)) fun _=>rL (qM (M8 O Z) (0:Int)) fun aB=>if 0≤(0:Int)∧(0:Int)≤aB∧aB≤(O.length:Int) then if (0+(q7 O (0:Int) aB).length)*32≤140737488355328 then if (((([]:List qB)++(q7 O (0:Int) aB)).length)+([(Z,(aA,()))]:List qB).length)*32≤140737488355328 then if 0≤aB∧aB≤(O.length:Int)∧(O.length:Int)≤(O.length:Int) then if ((((([]:List qB)++(q7 O (0:Int) aB))++([(Z,(aA,()))]:List qB)).length)+(q7 O aB (O.length:Int)).length)*32≤140737488355328 then some ((((([]:List qB)++(q7 O (0:Int) aB))++([(Z,(aA,()))]:List qB))++(q7 O aB (O.length:Int)))) else none else none else none else none else none else none
attribute [irreducible] PI
def M9 (O:(List UInt8)):Nat→Option (Nat⊕(Unit⊕Bool)):=fun Z=>if (decide (Z<O.length))=true then if (decide (Z<O.length))=true then if (decide (Z<O.length))=true then if ((decide ((97:Int)≤(wW O Z)))&&(decide ((wW O Z)≤(122:Int))))=true then some (.inl (zU O Z)) else if ((decide ((0:Int)<((Z:Nat):Int)))&&(((((decide ((48:Int)≤(wW O Z)))&&(decide ((wW O Z)≤(57:Int))))||(decide ((wW O Z)=(45:Int))))||(decide ((wW O Z)=(95:Int))))||(decide ((wW O Z)=(46:Int)))))=true then some (.inl (zU O Z)) else some (.inr (.inr (false))) else none else none else some (.inr (.inl ()))
def C9 (O:(List UInt8)):Option Bool:=sN (qM (M9 O) 0) fun _=>some (((decide ((1:Int)≤(O.length:Int)))&&(decide ((O.length:Int)≤(40:Int)))))
section
variable (O:(List UInt8))
abbrev a1m:List pR:=[(.val .str O,none)]
abbrev a1n:List pQ:=[]
@[go_sem] def a1o:pX:=⟨[((C9 O)).isSome=true],[(.val .bool (val (C9 O)),none)],[]⟩
def aBR:List pR→List pQ→Option pX:=rJ (V:=(List UInt8)) (fun x=>a1m x) (fun x=>a1n) fun x=>a1o x
@[go_sem] theorem aPV:aBR (no_index (a1m O)) (no_index a1n)=some (a1o O):=rM (fun a0 b0 h1 h2=>by cases h1;cases h2;rfl) O
end
@[go_sem] abbrev UR:Nat×qS:=(162,⟨[.v],aBR,[],[],none⟩)
theorem EB:qZ Tryz.prog [s9] (qY []):=⟨⟨sC,trivial⟩,rK,rE⟩
theorem a1p:rD Tryz.prog UR:=by
 refine rN EB Tryz.func162 (c:=_) rfl (N:=51) (by kernel_rfl) (ts:=[(2,none)]) rfl (fun _ _=>rfl) ?_;intro O hs hrow;dsimp only[a1m,a1n,a1o,rG,qE,qK,rC,rI,Nat.reduceAdd] at hs hrow⊢;have hz:=hs;obtain⟨z0,hC0⟩:=aRi.1 hz
 try rw[rU hC0]
 clear hz hs;unfold C9 at hC0;refine pO EB ?_;refine q9 ?_;refine pO EB ?_;refine rQ ?_;obtain⟨y1,hy1,hC0⟩:=vC hC0;refine uI 0 (fun s=> ∃v,y1= .inl v∧s=(fun _=>⟨[(0,(.val .str O,none))],[],0,51,0⟩) v) ?_ ?_
 ·refine uH hy1 (fun x=>⟨[(0,(.val .str O,none)),(7,(.val .ref (some (0,0)),none))],[(0,.iter O x)],1,51,0⟩) ⟨[0,7],[(0,64)]⟩ (by rfl) ?_;intro Z w1 n1 hC1 hN1;unfold M9 at hC1;dsimp only at hC1⊢;refine pO EB ?_;refine q9 ?_;refine q6 hC1 (fun hC1 hc1=> ?_) (fun hC1 hc1=> ?_)
  ·refine qJ (pZ (rQ ?_));obtain⟨hg1,hC1⟩:=pV hC1;obtain⟨hg2,hC1⟩:=pV hC1;refine pO EB ?_ (hp:=by exact⟨hg1,hg2⟩);refine pO EB ?_ (hp:=by exact⟨fun hh=>hh,(fun hh=>s3 hh)⟩);refine rQ ?_;refine pO EB ?_;refine q6 hC1 (fun hC1 hc2=> ?_) (fun hC1 hc2=> ?_)
   ·refine qJ (rT (rT ?_));cases hC1;exact tE ⟨⟨[0,7],[(0,0)]⟩,_,by rfl,hN1⟩
   ·refine pO EB ?_ (hp:=by exact⟨fun hh=>hh,fun hh=>hh,fun hh=>hh,fun hh=>hh,fun hG hh=>LU hG hh,fun hh=>hh,fun hh=>hh,fun hh=>hh,fun hG hh=>HC hG hh,fun hh=>hh,fun hh=>hh,fun hh=>hh,fun hG hh=>HC hG hh,fun hh=>hh,fun hh=>hh,fun hh=>hh,fun hG hh=>HC hG hh,(fun hh=>s3 hh)⟩);refine q6 hC1 (fun hC1 hc3=> ?_) (fun hC1 hc3=> ?_)
    ·refine qJ (rT (rT ?_));cases hC1;exact tE ⟨⟨[0,7],[(0,0)]⟩,_,by rfl,hN1⟩
    ·refine pO EB ?_;refine pW (qW (qW (wB (wA (qW (qI ?_))))));cases hC1;cases hN1;dsimp only at hC0;cases hC0;exact⟨[],by rfl,by rfl,by rfl⟩
  ·refine uG (uE (uK ?_));cases hC1;cases hN1;exact uJ ⟨⟨[0],[]⟩,_,rfl,by rfl⟩
 ·rintro _ ⟨v,rfl,rfl⟩;dsimp only at hC0⊢;refine uF (pZ ?_);refine pO EB ?_ (hp:=by exact⟨fun hh=>hh,fun hh=>hh,(fun hh=>s3 hh)⟩);refine pW ?_;cases hC0;exact⟨[],by rfl,by rfl,by rfl⟩
attribute [irreducible] C9
def PJ (O:(List (List UInt8))):Int→Option (Int⊕(Unit⊕Bool)):=fun Z=>if (decide (Z<(O.length:Int)))=true then if 0≤Z∧Z<(O.length:Int) then (C9 (qD .str O Z)).bind fun aA=>if ((((!aA)==false)&&((decide ((0:Int)<Z))==true))=true→pP (Z- (1:Int))) then if ((((!aA)==false)&&((decide ((0:Int)<Z))==true))=true→0≤(Z- (1:Int))∧(Z- (1:Int))<(O.length:Int)) then if ((!aA)||((decide ((0:Int)<Z))&&(!Op.bytesLess (qD .str O (Z- (1:Int))) (qD .str O Z))))=true then some (.inr (.inr (false))) else if pP (Z+(1:Int)) then some (.inl (Z+(1:Int))) else none else none else none else none else some (.inr (.inl ()))
def FS (O:(List (List UInt8))):Option Bool:=sN (qM (PJ O) (0:Int)) fun _=>some ((decide ((O.length:Int)≤(20:Int))))
section
variable (O:(List (List UInt8)))
abbrev a1q:List pR:=[(.val (.list .str) O,none)]
abbrev a1r:List pQ:=[]
@[go_sem] def a1s:pX:=⟨[((FS O)).isSome=true],[(.val .bool (val (FS O)),none)],[]⟩
def aBS:List pR→List pQ→Option pX:=rJ (V:=(List (List UInt8))) (fun x=>a1q x) (fun x=>a1r) fun x=>a1s x
@[go_sem] theorem aPW:aBS (no_index (a1q O)) (no_index a1r)=some (a1s O):=rM (fun a0 b0 h1 h2=>by cases h1;cases h2;rfl) O
end
@[go_sem] abbrev aBT:Nat×qS:=(163,⟨[.v],aBS,[],[],none⟩)
theorem FT:qZ Tryz.prog [s9,wC] (qY [UR]):=⟨⟨sC,⟨x5,trivial⟩⟩,qH a1p rK,rE⟩
theorem aKD:rD Tryz.prog aBT:=by
 refine rN FT Tryz.func163 (c:=_) rfl (N:=32) (by kernel_rfl) (ts:=[(2,none)]) rfl (fun _ _=>rfl) ?_;intro O hs hrow;dsimp only[a1q,a1r,a1s,rG,qE,qK,rC,rI,Nat.reduceAdd] at hs hrow⊢;have hz:=hs;obtain⟨z0,hC0⟩:=aRi.1 hz
 try rw[rU hC0]
 clear hz hs;unfold FS at hC0;refine pO FT ?_;refine q9 ?_;refine pO FT ?_;refine rQ ?_;obtain⟨y1,hy1,hC0⟩:=vC hC0;refine uI 0 (fun s=> ∃v,y1= .inl v∧s=(fun _=>⟨[(0,(.val (.list .str) O,none))],[],0,32,0⟩) v) ?_ ?_
 ·refine uH hy1 (fun x=>⟨[(0,(.val (.list .str) O,none)),(5,(.val (.list .str) O,none)),(6,(.val (.int .i64) (O.length:Int),none)),(7,(.val (.int .i64) x,none))],[],0,32,0⟩) ⟨[0,5,6,7],[]⟩ (by rfl) ?_;intro Z w1 n1 hC1 hN1;unfold PJ at hC1;dsimp only at hC1⊢;refine pO FT ?_;refine q9 ?_;refine q6 hC1 (fun hC1 hc1=> ?_) (fun hC1 hc1=> ?_)
  ·refine qJ (pZ (q9 (rQ ?_)));obtain⟨hg1,hC1⟩:=pV hC1;refine pO FT ?_ (hp:=by exact hg1);obtain⟨aA,hv2,hw2,hC1⟩:=qU hC1
   try simp only[go_sem] at hw2
   obtain⟨hg3,hC1⟩:=pV hC1;obtain⟨hg4,hC1⟩:=pV hC1;refine pO FT ?_ (hp:=by exact⟨qT hv2,fun hh=>hh,fun hh=>hh,fun hh=>hh,hg3,fun hh=>hh,fun hh=>hh,hg4,fun hh=>hh,fun hh=>hh,fun hh=>hh,fun hh=>hh,fun hG hh=>LU hG hh,(fun hh=>uB hh)⟩) (h:=by simp only[go_sem,hw2];rfl);refine q6 hC1 (fun hC1 hc2=> ?_) (fun hC1 hc2=> ?_)
   ·refine pO FT ?_;refine pW (qW (qI (wB (wA (qW (qI ?_))))));cases hC1;cases hN1;dsimp only at hC0;cases hC0;exact⟨[],by rfl,by rfl,by rfl⟩
   ·refine qJ (rT (pZ ?_));obtain⟨hg5,hC1⟩:=pV hC1;refine rR FT ?_ (hp:=by exact hg5);cases hC1;exact tE ⟨⟨[0,5,6,7],[]⟩,_,by rfl,hN1⟩
  ·refine uG (uE (uK ?_));cases hC1;cases hN1;exact uJ ⟨⟨[0],[]⟩,_,rfl,by rfl⟩
 ·rintro _ ⟨v,rfl,rfl⟩;dsimp only at hC0⊢;refine uF (pZ ?_);refine pO FT ?_;refine pW ?_;cases hC0;exact⟨[],by rfl,by rfl,by rfl⟩
attribute [irreducible] FS
def aBU (O:Int):Unit:=()
section
variable (O:Int)
abbrev a1t:List pR:=[(.val (.int .u8) O,none)]
abbrev a1u:List pQ:=[]
@[go_sem] def a1v:pX:=⟨[],[(.val .bool ((decide ((97:Int)≤O))&&(decide (O≤(122:Int)))),none)],[]⟩
def aBV:List pR→List pQ→Option pX:=rJ (V:=Int) (fun x=>a1t x) (fun x=>a1u) fun x=>a1v x
@[go_sem] theorem aPX:aBV (no_index (a1t O)) (no_index a1u)=some (a1v O):=rM (fun a0 b0 h1 h2=>by cases h1;cases h2;rfl) O
end
@[go_sem] abbrev aBW:Nat×qS:=(169,⟨[.v],aBV,[],[],none⟩)
theorem a1w:qZ Tryz.prog [] (qY []):=⟨trivial,rK,rE⟩
theorem aKE:rD Tryz.prog aBW:=by
 refine rN a1w Tryz.func169 (c:=_) rfl (N:=9) (by kernel_rfl) (ts:=[(2,none)]) rfl (fun _ _=>rfl) ?_;intro O hs hrow;dsimp only[a1t,a1u,a1v,rG,qE,qK,rC,rI,Nat.reduceAdd] at hs hrow⊢;obtain⟨z0,hC0⟩: ∃z,(aBU O)=z:=⟨_,rfl⟩
 try rw[hC0]
 unfold aBU at hC0;refine pO a1w ?_;refine pO a1w ?_ (hp:=by exact⟨fun hh=>hh,(fun hh=>s3 hh)⟩);refine pW ?_;cases hC0;exact⟨[],by rfl,by rfl,by rfl⟩
end
noncomputable section
def aBX (O:Int):Unit:=()
section
variable (O:Int)
abbrev a1x:List pR:=[(.val (.int .u8) O,none)]
abbrev a1y:List pQ:=[]
@[go_sem] def a1z:pX:=⟨[],[(.val .bool ((decide ((48:Int)≤O))&&(decide (O≤(57:Int)))),none)],[]⟩
def aBY:List pR→List pQ→Option pX:=rJ (V:=Int) (fun x=>a1x x) (fun x=>a1y) fun x=>a1z x
@[go_sem] theorem aPY:aBY (no_index (a1x O)) (no_index a1y)=some (a1z O):=rM (fun a0 b0 h1 h2=>by cases h1;cases h2;rfl) O
end
@[go_sem] abbrev aBZ:Nat×qS:=(170,⟨[.v],aBY,[],[],none⟩)
theorem a1A:qZ Tryz.prog [] (qY []):=⟨trivial,rK,rE⟩
theorem aKF:rD Tryz.prog aBZ:=by
 refine rN a1A Tryz.func170 (c:=_) rfl (N:=9) (by kernel_rfl) (ts:=[(2,none)]) rfl (fun _ _=>rfl) ?_;intro O hs hrow;dsimp only[a1x,a1y,a1z,rG,qE,qK,rC,rI,Nat.reduceAdd] at hs hrow⊢;obtain⟨z0,hC0⟩: ∃z,(aBX O)=z:=⟨_,rfl⟩
 try rw[hC0]
 unfold aBX at hC0;refine pO a1A ?_;refine pO a1A ?_ (hp:=by exact⟨fun hh=>hh,(fun hh=>s3 hh)⟩);refine pW ?_;cases hC0;exact⟨[],by rfl,by rfl,by rfl⟩
def FU (O:(List UInt8)) (Z:(List UInt8)):Option Unit:=if (((decide ((Z.length:Int)≤(O.length:Int)))==true)=true→0≤(0:Int)∧(0:Int)≤(Z.length:Int)∧(Z.length:Int)≤(O.length:Int)) then some (()) else none
section
variable (O:(List UInt8)) (Z:(List UInt8))
abbrev a1B:List pR:=[(.val .str O,none),(.val .str Z,none)]
abbrev a1C:List pQ:=[]
@[go_sem] def a1D:pX:=⟨[((FU O Z)).isSome=true],[(.val .bool ((decide ((Z.length:Int)≤(O.length:Int)))&&(decide ((q7 O (0:Int) (Z.length:Int))=Z))),none)],[]⟩
def aB0:List pR→List pQ→Option pX:=rJ (V:=((List UInt8)×(List UInt8))) (fun x=>a1B x.1 x.2) (fun x=>a1C) fun x=>a1D x.1 x.2
@[go_sem] theorem aPZ:aB0 (no_index (a1B O Z)) (no_index a1C)=some (a1D O Z):=rM (fun⟨a0,a1⟩ ⟨b0,b1⟩ h1 h2=>by cases h1;cases h2;rfl) (O,Z)
end
@[go_sem] abbrev US:Nat×qS:=(183,⟨[.v,.v],aB0,[],[],none⟩)
theorem a1E:qZ Tryz.prog [s9] (qY []):=⟨⟨sC,trivial⟩,rK,rE⟩
theorem a1F:rD Tryz.prog US:=by
 refine rN a1E Tryz.func183 (c:=_) rfl (N:=18) (by kernel_rfl) (ts:=[(4,none)]) rfl (fun _ _=>rfl) ?_;intro⟨O,Z⟩ hs hrow;dsimp only[a1B,a1C,a1D,rG,qE,qK,rC,rI,Nat.reduceAdd] at hs hrow⊢;have hz:=hs;obtain⟨z0,hC0⟩:=aRi.1 hz
 try rw[rU hC0]
 clear hz hs;unfold FU at hC0;refine pO a1E ?_;obtain⟨hg1,hC0⟩:=pV hC0;refine pO a1E ?_ (hp:=by exact⟨fun hh=>hh,fun hh=>hh,fun hh=>hh,hg1,fun hh=>hh,fun hh=>hh,(fun hh=>s3 hh)⟩);refine pW ?_;cases hC0;exact⟨[],by rfl,by rfl,by rfl⟩
attribute [irreducible] FU
def JR (O:(List UInt8)) (Z:(List UInt8)):Option ((List UInt8)×Bool):=(FU O Z).bind fun aA=>if (!((decide ((Z.length:Int)≤(O.length:Int)))&&(decide ((q7 O (0:Int) (Z.length:Int))=Z))))=true then some ((O,false)) else if 0≤(Z.length:Int)∧(Z.length:Int)≤(O.length:Int)∧(O.length:Int)≤(O.length:Int) then some (((q7 O (Z.length:Int) (O.length:Int)),true)) else none
section
variable (O:(List UInt8)) (Z:(List UInt8))
abbrev a1G:List pR:=[(.val .str O,none),(.val .str Z,none)]
abbrev a1H:List pQ:=[]
@[go_sem] def a1I:pX:=⟨[((JR O Z)).isSome=true],[(.val .str ((val (JR O Z)).1),none),(.val .bool ((val (JR O Z)).2),none)],[]⟩
def aB1:List pR→List pQ→Option pX:=rJ (V:=((List UInt8)×(List UInt8))) (fun x=>a1G x.1 x.2) (fun x=>a1H) fun x=>a1I x.1 x.2
@[go_sem] theorem aP0:aB1 (no_index (a1G O Z)) (no_index a1H)=some (a1I O Z):=rM (fun⟨a0,a1⟩ ⟨b0,b1⟩ h1 h2=>by cases h1;cases h2;rfl) (O,Z)
end
@[go_sem] abbrev aB2:Nat×qS:=(184,⟨[.v,.v],aB1,[],[],none⟩)
theorem PL:qZ Tryz.prog [s9] (qY [US]):=⟨⟨sC,trivial⟩,qH a1F rK,rE⟩
theorem aKG:rD Tryz.prog aB2:=by
 refine rN PL Tryz.func184 (c:=_) rfl (N:=15) (by kernel_rfl) (ts:=[(4,none),(5,none)]) rfl (fun _ _=>rfl) ?_;intro⟨O,Z⟩ hs hrow;dsimp only[a1G,a1H,a1I,rG,qE,qK,rC,rI,Nat.reduceAdd] at hs hrow⊢;have hz:=hs;obtain⟨z0,hC0⟩:=aRi.1 hz
 try rw[rU hC0]
 clear hz hs;unfold JR at hC0;refine pO PL ?_;refine q9 ?_;obtain⟨aA,hv1,hw1,hC0⟩:=qU hC0
 try simp only[go_sem] at hw1
 refine pO PL ?_ (hp:=by exact(qT hv1)) (h:=by simp only[go_sem,hw1];rfl);refine q6 hC0 (fun hC0 hc1=> ?_) (fun hC0 hc1=> ?_)
 ·refine pO PL ?_;refine pW (qI ?_);cases hC0;exact⟨[],by rfl,by rfl,by rfl⟩
 ·refine qJ (pZ ?_);obtain⟨hg2,hC0⟩:=pV hC0;refine pO PL ?_ (hp:=by exact hg2);refine pW ?_;cases hC0;exact⟨[],by rfl,by rfl,by rfl⟩
attribute [irreducible] JR
def MA (O:(List UInt8)) (Z:(List UInt8)):Option (List UInt8):=(FU O Z).bind fun aA=>if ((decide ((Z.length:Int)≤(O.length:Int)))&&(decide ((q7 O (0:Int) (Z.length:Int))=Z)))=true then if 0≤(Z.length:Int)∧(Z.length:Int)≤(O.length:Int)∧(O.length:Int)≤(O.length:Int) then some ((q7 O (Z.length:Int) (O.length:Int))) else none else some (O)
section
variable (O:(List UInt8)) (Z:(List UInt8))
abbrev a1J:List pR:=[(.val .str O,none),(.val .str Z,none)]
abbrev a1K:List pQ:=[]
@[go_sem] def a1L:pX:=⟨[((MA O Z)).isSome=true],[(.val .str (val (MA O Z)),none)],[]⟩
def aB3:List pR→List pQ→Option pX:=rJ (V:=((List UInt8)×(List UInt8))) (fun x=>a1J x.1 x.2) (fun x=>a1K) fun x=>a1L x.1 x.2
@[go_sem] theorem aP1:aB3 (no_index (a1J O Z)) (no_index a1K)=some (a1L O Z):=rM (fun⟨a0,a1⟩ ⟨b0,b1⟩ h1 h2=>by cases h1;cases h2;rfl) (O,Z)
end
@[go_sem] abbrev aB4:Nat×qS:=(185,⟨[.v,.v],aB3,[],[],none⟩)
theorem PM:qZ Tryz.prog [s9] (qY [US]):=⟨⟨sC,trivial⟩,qH a1F rK,rE⟩
theorem aKH:rD Tryz.prog aB4:=by
 refine rN PM Tryz.func185 (c:=_) rfl (N:=13) (by kernel_rfl) (ts:=[(4,none)]) rfl (fun _ _=>rfl) ?_;intro⟨O,Z⟩ hs hrow;dsimp only[a1J,a1K,a1L,rG,qE,qK,rC,rI,Nat.reduceAdd] at hs hrow⊢;have hz:=hs;obtain⟨z0,hC0⟩:=aRi.1 hz
 try rw[rU hC0]
 clear hz hs;unfold MA at hC0;refine pO PM ?_;refine q9 ?_;obtain⟨aA,hv1,hw1,hC0⟩:=qU hC0
 try simp only[go_sem] at hw1
 refine pO PM ?_ (hp:=by exact(qT hv1)) (h:=by simp only[go_sem,hw1];rfl);refine q6 hC0 (fun hC0 hc1=> ?_) (fun hC0 hc1=> ?_)
 ·obtain⟨hg2,hC0⟩:=pV hC0;refine pO PM ?_ (hp:=by exact hg2);refine pW (qI ?_);cases hC0;exact⟨[],by rfl,by rfl,by rfl⟩
 ·refine qJ (pZ ?_);refine pO PM ?_;refine pW ?_;cases hC0;exact⟨[],by rfl,by rfl,by rfl⟩
attribute [irreducible] MA
end
noncomputable section
def PN (O:(List UInt8)) (Z:(List UInt8)):Option Unit:=if (((decide ((Z.length:Int)≤(O.length:Int)))==true)=true→pP ((O.length:Int)- (Z.length:Int))) then if (((decide ((Z.length:Int)≤(O.length:Int)))==true)=true→0≤((O.length:Int)- (Z.length:Int))∧((O.length:Int)- (Z.length:Int))≤(O.length:Int)∧(O.length:Int)≤(O.length:Int)) then some (()) else none else none
section
variable (O:(List UInt8)) (Z:(List UInt8))
abbrev a1M:List pR:=[(.val .str O,none),(.val .str Z,none)]
abbrev a1N:List pQ:=[]
@[go_sem] def a1O:pX:=⟨[((PN O Z)).isSome=true],[(.val .bool ((decide ((Z.length:Int)≤(O.length:Int)))&&(decide ((q7 O ((O.length:Int)- (Z.length:Int)) (O.length:Int))=Z))),none)],[]⟩
def aB5:List pR→List pQ→Option pX:=rJ (V:=((List UInt8)×(List UInt8))) (fun x=>a1M x.1 x.2) (fun x=>a1N) fun x=>a1O x.1 x.2
@[go_sem] theorem aP2:aB5 (no_index (a1M O Z)) (no_index a1N)=some (a1O O Z):=rM (fun⟨a0,a1⟩ ⟨b0,b1⟩ h1 h2=>by cases h1;cases h2;rfl) (O,Z)
end
@[go_sem] abbrev aB6:Nat×qS:=(190,⟨[.v,.v],aB5,[],[],none⟩)
theorem a1P:qZ Tryz.prog [s9] (qY []):=⟨⟨sC,trivial⟩,rK,rE⟩
theorem aKI:rD Tryz.prog aB6:=by
 refine rN a1P Tryz.func190 (c:=_) rfl (N:=21) (by kernel_rfl) (ts:=[(4,none)]) rfl (fun _ _=>rfl) ?_;intro⟨O,Z⟩ hs hrow;dsimp only[a1M,a1N,a1O,rG,qE,qK,rC,rI,Nat.reduceAdd] at hs hrow⊢;have hz:=hs;obtain⟨z0,hC0⟩:=aRi.1 hz
 try rw[rU hC0]
 clear hz hs;unfold PN at hC0;refine pO a1P ?_;obtain⟨hg1,hC0⟩:=pV hC0;obtain⟨hg2,hC0⟩:=pV hC0;refine pO a1P ?_ (hp:=by exact⟨fun hh=>hh,fun hh=>hh,fun hh=>hh,fun hh=>hh,hg1,fun hh=>hh,fun hh=>hh,hg2,fun hh=>hh,fun hh=>hh,(fun hh=>s3 hh)⟩);refine pW ?_;cases hC0;exact⟨[],by rfl,by rfl,by rfl⟩
attribute [irreducible] PN
def PO (O:(List (List UInt8))) (Z:(List UInt8)):Int→Option (Int⊕(Unit⊕Int)):=fun aA=>if (decide (aA<(O.length:Int)))=true then if 0≤aA∧aA<(O.length:Int) then if (decide (Z=(qD .str O aA)))=true then some (.inr (.inr (aA))) else if pP (aA+(1:Int)) then some (.inl (aA+(1:Int))) else none else none else some (.inr (.inl ()))
def CA (O:(List (List UInt8))) (Z:(List UInt8)):Option Int:=sN (qM (PO O Z) (0:Int)) fun _=>some ((-1:Int))
section
variable (O:(List (List UInt8))) (Z:(List UInt8))
abbrev a1Q:List pR:=[(.val (.list .str) O,none),(.val .str Z,none)]
abbrev a1R:List pQ:=[]
@[go_sem] def a1S:pX:=⟨[((CA O Z)).isSome=true],[(.val (.int .i64) (val (CA O Z)),none)],[]⟩
def aB7:List pR→List pQ→Option pX:=rJ (V:=((List (List UInt8))×(List UInt8))) (fun x=>a1Q x.1 x.2) (fun x=>a1R) fun x=>a1S x.1 x.2
@[go_sem] theorem aP3:aB7 (no_index (a1Q O Z)) (no_index a1R)=some (a1S O Z):=rM (fun⟨a0,a1⟩ ⟨b0,b1⟩ h1 h2=>by cases h1;cases h2;rfl) (O,Z)
end
@[go_sem] abbrev UT:Nat×qS:=(193,⟨[.v,.v],aB7,[],[],none⟩)
theorem FV:qZ Tryz.prog [s9,wC] (qY []):=⟨⟨sC,⟨x5,trivial⟩⟩,rK,rE⟩
theorem aB8:rD Tryz.prog UT:=by
 refine rN FV Tryz.func193 (c:=_) rfl (N:=19) (by kernel_rfl) (ts:=[(4,none)]) rfl (fun _ _=>rfl) ?_;intro⟨O,Z⟩ hs hrow;dsimp only[a1Q,a1R,a1S,rG,qE,qK,rC,rI,Nat.reduceAdd] at hs hrow⊢;have hz:=hs;obtain⟨z0,hC0⟩:=aRi.1 hz
 try rw[rU hC0]
 clear hz hs;unfold CA at hC0;refine pO FV ?_;refine q9 ?_;refine pO FV ?_;refine rQ ?_;obtain⟨y1,hy1,hC0⟩:=vC hC0;refine uI 0 (fun s=> ∃v,y1= .inl v∧s=(fun _=>⟨[],[],0,19,0⟩) v) ?_ ?_
 ·refine uH hy1 (fun x=>⟨[(0,(.val (.list .str) O,none)),(1,(.val .str Z,none)),(7,(.val (.int .i64) (O.length:Int),none)),(8,(.val (.int .i64) x,none))],[],0,19,0⟩) ⟨[0,1,7,8],[]⟩ (by rfl) ?_;intro aA w1 n1 hC1 hN1;unfold PO at hC1;dsimp only at hC1⊢;refine pO FV ?_;refine q9 ?_;refine q6 hC1 (fun hC1 hc1=> ?_) (fun hC1 hc1=> ?_)
  ·refine qJ (pZ (q9 (rQ ?_)));refine pO FV ?_;obtain⟨hg1,hC1⟩:=pV hC1;refine pO FV ?_ (hp:=by exact hg1);refine q6 hC1 (fun hC1 hc2=> ?_) (fun hC1 hc2=> ?_)
   ·refine pO FV ?_;refine pW (qW (qI (wB (wA (qW (qI ?_))))));cases hC1;cases hN1;dsimp only at hC0;cases hC0;exact⟨[],by rfl,by rfl,by rfl⟩
   ·refine qJ (rT (pZ ?_));obtain⟨hg2,hC1⟩:=pV hC1;refine rR FV ?_ (hp:=by exact hg2);cases hC1;exact tE ⟨⟨[0,1,7,8],[]⟩,_,by rfl,hN1⟩
  ·refine uG (uE (uK ?_));cases hC1;cases hN1;exact uJ ⟨⟨[],[]⟩,_,rfl,by rfl⟩
 ·rintro _ ⟨v,rfl,rfl⟩;dsimp only at hC0⊢;refine uF (pZ ?_);refine pO FV ?_;refine pW ?_;cases hC0;exact⟨[],by rfl,by rfl,by rfl⟩
attribute [irreducible] CA
def MB (O:Int) (Z:(List UInt8)) (aA:Int):Int→Option (Int⊕(Unit⊕Int)):=fun aB=>if (decide (aB<(Z.length:Int)))=true then if 0≤aB∧aB<(Z.length:Int) then if (decide ((qC Z aB)=aA))=true then some (.inr (.inr (aB))) else if (((!decide (O=(4:Int)))==true)=true→0≤aB∧aB<(Z.length:Int)) then if ((!decide (O=(4:Int)))&&(decide ((qC Z aB)=(92:Int))))=true then if pP (aB+(1:Int)) then if pP ((aB+(1:Int))+(1:Int)) then some (.inl ((aB+(1:Int))+(1:Int))) else none else none else if pP (aB+(1:Int)) then some (.inl (aB+(1:Int))) else none else none else none else some (.inr (.inl ()))
def HU (O:Int) (Z:(List UInt8)) (aA:Int):Option Int:=if (!((decide ((1:Int)≤O))&&(decide (O≤(4:Int)))))=true then some ((-1:Int)) else sN (qM (MB O Z aA) (0:Int)) fun _=>some ((-1:Int))
attribute [irreducible] HU
def PP (O:(List UInt8)):Option Unit:=if List.length O≤9223372036854775807 then some (()) else none
section
variable (O:(List UInt8))
abbrev a1T:List pR:=[(.val .str O,none)]
abbrev a1U:List pQ:=[]
@[go_sem] def a1V:pX:=⟨[((PP O)).isSome=true],[(.val .bool (Lib.validD O),none)],[]⟩
def aB9:List pR→List pQ→Option pX:=rJ (V:=(List UInt8)) (fun x=>a1T x) (fun x=>a1U) fun x=>a1V x
@[go_sem] theorem aP4:aB9 (no_index (a1T O)) (no_index a1U)=some (a1V O):=rM (fun a0 b0 h1 h2=>by cases h1;cases h2;rfl) O
end
@[go_sem] abbrev aCa:Nat×qS:=(198,⟨[.v],aB9,[],[],none⟩)
theorem a1W:qZ Tryz.prog [] (qY [aBn]):=⟨trivial,qH aKq rK,rE⟩
theorem aKJ:rD Tryz.prog aCa:=by
 refine rN a1W Tryz.func198 (c:=_) rfl (N:=5) (by kernel_rfl) (ts:=[(2,none)]) rfl (fun _ _=>rfl) ?_;intro O hs hrow;dsimp only[a1T,a1U,a1V,rG,qE,qK,rC,rI,Nat.reduceAdd] at hs hrow⊢;have hz:=hs;obtain⟨z0,hC0⟩:=aRi.1 hz
 try rw[rU hC0]
 clear hz hs;unfold PP at hC0;refine pO a1W ?_;obtain⟨hg1,hC0⟩:=pV hC0;refine pO a1W ?_ (hp:=by exact hg1);refine pW ?_;cases hC0;exact⟨[],by rfl,by rfl,by rfl⟩
attribute [irreducible] PP
def aCb (O:Int):Unit:=()
section
variable (O:Int)
abbrev a1X:List pR:=[(.val (.int .u8) O,none)]
abbrev a1Y:List pQ:=[]
@[go_sem] def a1Z:pX:=⟨[],[(.val .bool ((decide (O<(32:Int)))||(decide (O=(127:Int)))),none)],[]⟩
def aCc:List pR→List pQ→Option pX:=rJ (V:=Int) (fun x=>a1X x) (fun x=>a1Y) fun x=>a1Z x
@[go_sem] theorem aP5:aCc (no_index (a1X O)) (no_index a1Y)=some (a1Z O):=rM (fun a0 b0 h1 h2=>by cases h1;cases h2;rfl) O
end
@[go_sem] abbrev aCd:Nat×qS:=(199,⟨[.v],aCc,[],[],none⟩)
theorem a2a:qZ Tryz.prog [] (qY []):=⟨trivial,rK,rE⟩
theorem aKK:rD Tryz.prog aCd:=by
 refine rN a2a Tryz.func199 (c:=_) rfl (N:=9) (by kernel_rfl) (ts:=[(2,none)]) rfl (fun _ _=>rfl) ?_;intro O hs hrow;dsimp only[a1X,a1Y,a1Z,rG,qE,qK,rC,rI,Nat.reduceAdd] at hs hrow⊢;obtain⟨z0,hC0⟩: ∃z,(aCb O)=z:=⟨_,rfl⟩
 try rw[hC0]
 unfold aCb at hC0;refine pO a2a ?_;refine pO a2a ?_ (hp:=by exact⟨fun hh=>hh,(fun hh=>uB hh)⟩);refine pW ?_;cases hC0;exact⟨[],by rfl,by rfl,by rfl⟩
def PQ (O:Int) (Z:Int):Option Unit:=if 0≤(IntKind.wrap .i64 O)∧(IntKind.wrap .i64 O)<256∧a0u (16:Int) then if pP (Z- ((wK (IntKind.wrap .i64 O) (16:Int)).length:Int)) then if 0≤(Z- ((wK (IntKind.wrap .i64 O) (16:Int)).length:Int))∧(Z- ((wK (IntKind.wrap .i64 O) (16:Int)).length:Int))≤140737488355328∧(([48]:List UInt8).length:Int)*(Z- ((wK (IntKind.wrap .i64 O) (16:Int)).length:Int))≤140737488355328 then if (((JK ([48]:List UInt8) (Z- ((wK (IntKind.wrap .i64 O) (16:Int)).length:Int)))++(wK (IntKind.wrap .i64 O) (16:Int))).length:Int)≤9223372036854775807 then some (()) else none else none else none else none
section
variable (O:Int) (Z:Int)
abbrev a2b:List pR:=[(.val (.int .u8) O,none),(.val (.int .i64) Z,none)]
abbrev a2c:List pQ:=[]
@[go_sem] def a2d:pX:=⟨[((PQ O Z)).isSome=true],[(.val .str ((JK ([48]:List UInt8) (Z- ((wK (IntKind.wrap .i64 O) (16:Int)).length:Int)))++(wK (IntKind.wrap .i64 O) (16:Int))),none)],[]⟩
def aCe:List pR→List pQ→Option pX:=rJ (V:=(Int×Int)) (fun x=>a2b x.1 x.2) (fun x=>a2c) fun x=>a2d x.1 x.2
@[go_sem] theorem aP6:aCe (no_index (a2b O Z)) (no_index a2c)=some (a2d O Z):=rM (fun⟨a0,a1⟩ ⟨b0,b1⟩ h1 h2=>by cases h1;cases h2;rfl) (O,Z)
end
@[go_sem] abbrev aCf:Nat×qS:=(201,⟨[.v,.v],aCe,[],[],none⟩)
theorem UU:qZ Tryz.prog [a0A,D1,s9] (qY [aBp,aBq]):=⟨⟨aKp,⟨FK,⟨sC,trivial⟩⟩⟩,qH aKs (qH aKt rK),rE⟩
theorem aKL:rD Tryz.prog aCf:=by
 refine rN UU Tryz.func201 (c:=_) rfl (N:=16) (by kernel_rfl) (ts:=[(4,none)]) rfl (fun _ _=>rfl) ?_;intro⟨O,Z⟩ hs hrow;dsimp only[a2b,a2c,a2d,rG,qE,qK,rC,rI,Nat.reduceAdd] at hs hrow⊢;have hz:=hs;obtain⟨z0,hC0⟩:=aRi.1 hz
 try rw[rU hC0]
 clear hz hs;unfold PQ at hC0;refine pO UU ?_;obtain⟨hg1,hC0⟩:=pV hC0;refine pO UU ?_ (hp:=by exact hg1);obtain⟨hg2,hC0⟩:=pV hC0;obtain⟨hg3,hC0⟩:=pV hC0;obtain⟨hg4,hC0⟩:=pV hC0;refine pO UU ?_ (hp:=by exact⟨hg2,hg3,hg4⟩);refine pW ?_;cases hC0;exact⟨[],by rfl,by rfl,by rfl⟩
attribute [irreducible] PQ
def UV (O:Int) (Z:(List UInt8)):Int→Option (Int⊕(Unit⊕Bool)):=fun aA=>if (decide (aA<(Z.length:Int)))=true then if 0≤aA∧aA<(Z.length:Int) then if (decide ((qC Z aA)=O))=true then some (.inr (.inr (true))) else if pP (aA+(1:Int)) then some (.inl (aA+(1:Int))) else none else none else some (.inr (.inl ()))
def D3 (O:Int) (Z:(List UInt8)):Option Bool:=sN (qM (UV O Z) (0:Int)) fun _=>some (false)
attribute [irreducible] D3
def a2e (O:Int):Option Unit:=if 0≤(IntKind.wrap .i64 (Int.tdiv O (16:Int)))∧(IntKind.wrap .i64 (Int.tdiv O (16:Int)))<(([48,49,50,51,52,53,54,55,56,57,97,98,99,100,101,102]:List UInt8).length:Int) then if 0≤(Int.tmod O (16:Int))∧(Int.tmod O (16:Int))<(([48,49,50,51,52,53,54,55,56,57,97,98,99,100,101,102]:List UInt8).length:Int) then some (()) else none else none
attribute [irreducible] a2e
end
noncomputable section
def aCg (O:Int):Unit:=()
section
variable (O:Int)
abbrev a2f:List pR:=[(.val (.int .i64) O,none)]
abbrev a2g:List pQ:=[]
@[go_sem] def a2h:pX:=⟨[],[(.val .bool (((decide ((0:Int)≤O))&&(decide (O≤(1114111:Int))))&&((decide (O<(55296:Int)))||(decide ((57343:Int)<O)))),none)],[]⟩
def aCh:List pR→List pQ→Option pX:=rJ (V:=Int) (fun x=>a2f x) (fun x=>a2g) fun x=>a2h x
@[go_sem] theorem aP7:aCh (no_index (a2f O)) (no_index a2g)=some (a2h O):=rM (fun a0 b0 h1 h2=>by cases h1;cases h2;rfl) O
end
@[go_sem] abbrev a2i:Nat×qS:=(205,⟨[.v],aCh,[],[],none⟩)
theorem a2j:qZ Tryz.prog [] (qY []):=⟨trivial,rK,rE⟩
theorem aCi:rD Tryz.prog a2i:=by
 refine rN a2j Tryz.func205 (c:=_) rfl (N:=17) (by kernel_rfl) (ts:=[(2,none)]) rfl (fun _ _=>rfl) ?_;intro O hs hrow;dsimp only[a2f,a2g,a2h,rG,qE,qK,rC,rI,Nat.reduceAdd] at hs hrow⊢;obtain⟨z0,hC0⟩: ∃z,(aCg O)=z:=⟨_,rfl⟩
 try rw[hC0]
 unfold aCg at hC0;refine pO a2j ?_;refine pO a2j ?_ (hp:=by exact⟨fun hh=>hh,fun hh=>s3 hh,fun hh=>hh,fun hh=>hh,fun hh=>hh,fun hh=>hh,fun hG hh=>HC hG hh,(fun hh=>s3 hh)⟩);refine pW ?_;cases hC0;exact⟨[],by rfl,by rfl,by rfl⟩
def AO (O:Int):Option (List UInt8):=if (decide (O<(128:Int)))=true then some ((sI ([(IntKind.wrap .u8 O)]:List Int))) else if (decide (O<(2048:Int)))=true then if pP ((192:Int)+(IntKind.wrap .i64 (Int.tdiv O (64:Int)))) then if pP ((128:Int)+(Int.tmod O (64:Int))) then some ((sI ([(IntKind.wrap .u8 ((192:Int)+(IntKind.wrap .i64 (Int.tdiv O (64:Int))))),(IntKind.wrap .u8 ((128:Int)+(Int.tmod O (64:Int))))]:List Int))) else none else none else if (decide (O<(65536:Int)))=true then if pP ((224:Int)+(IntKind.wrap .i64 (Int.tdiv O (4096:Int)))) then if pP ((128:Int)+(Int.tmod (IntKind.wrap .i64 (Int.tdiv O (64:Int))) (64:Int))) then if pP ((128:Int)+(Int.tmod O (64:Int))) then some ((sI ([(IntKind.wrap .u8 ((224:Int)+(IntKind.wrap .i64 (Int.tdiv O (4096:Int))))),(IntKind.wrap .u8 ((128:Int)+(Int.tmod (IntKind.wrap .i64 (Int.tdiv O (64:Int))) (64:Int)))),(IntKind.wrap .u8 ((128:Int)+(Int.tmod O (64:Int))))]:List Int))) else none else none else none else if pP ((240:Int)+(IntKind.wrap .i64 (Int.tdiv O (262144:Int)))) then if pP ((128:Int)+(Int.tmod (IntKind.wrap .i64 (Int.tdiv O (4096:Int))) (64:Int))) then if pP ((128:Int)+(Int.tmod (IntKind.wrap .i64 (Int.tdiv O (64:Int))) (64:Int))) then if pP ((128:Int)+(Int.tmod O (64:Int))) then some ((sI ([(IntKind.wrap .u8 ((240:Int)+(IntKind.wrap .i64 (Int.tdiv O (262144:Int))))),(IntKind.wrap .u8 ((128:Int)+(Int.tmod (IntKind.wrap .i64 (Int.tdiv O (4096:Int))) (64:Int)))),(IntKind.wrap .u8 ((128:Int)+(Int.tmod (IntKind.wrap .i64 (Int.tdiv O (64:Int))) (64:Int)))),(IntKind.wrap .u8 ((128:Int)+(Int.tmod O (64:Int))))]:List Int))) else none else none else none else none
section
variable (O:Int)
abbrev a2k:List pR:=[(.val (.int .i64) O,none)]
abbrev a2l:List pQ:=[]
@[go_sem] def a2m:pX:=⟨[((AO O)).isSome=true],[(.val .str (val (AO O)),none)],[]⟩
def aCj:List pR→List pQ→Option pX:=rJ (V:=Int) (fun x=>a2k x) (fun x=>a2l) fun x=>a2m x
@[go_sem] theorem aP8:aCj (no_index (a2k O)) (no_index a2l)=some (a2m O):=rM (fun a0 b0 h1 h2=>by cases h1;cases h2;rfl) O
end
@[go_sem] abbrev a2n:Nat×qS:=(206,⟨[.v],aCj,[],[],none⟩)
theorem FW:qZ Tryz.prog [x6,D1,s9,E4] (qY []):=⟨⟨xN,⟨FK,⟨sC,⟨HK,trivial⟩⟩⟩⟩,rK,rE⟩
theorem aCk:rD Tryz.prog a2n:=by
 refine rN FW Tryz.func206 (c:=_) rfl (N:=61) (by kernel_rfl) (ts:=[(2,none)]) rfl (fun _ _=>rfl) ?_;intro O hs hrow;dsimp only[a2k,a2l,a2m,rG,qE,qK,rC,rI,Nat.reduceAdd] at hs hrow⊢;have hz:=hs;obtain⟨z0,hC0⟩:=aRi.1 hz
 try rw[rU hC0]
 clear hz hs;unfold AO at hC0;refine pO FW ?_;refine q9 (rQ ?_);refine pO FW ?_;refine q6 hC0 (fun hC0 hc1=> ?_) (fun hC0 hc1=> ?_)
 ·refine pO FW ?_;refine pW (qW (qI ?_));cases hC0;exact⟨[],by rfl,by rfl,by rfl⟩
 ·refine pO FW ?_;refine q6 hC0 (fun hC0 hc2=> ?_) (fun hC0 hc2=> ?_)
  ·obtain⟨hg1,hC0⟩:=pV hC0;obtain⟨hg2,hC0⟩:=pV hC0;refine pO FW ?_ (hp:=by exact⟨show (64:Int)≠0 from by decide,hg1,show (64:Int)≠0 from by decide,hg2⟩);refine pW (qW (qI ?_));cases hC0;exact⟨[],by rfl,by rfl,by rfl⟩
  ·refine pO FW ?_;refine q6 hC0 (fun hC0 hc3=> ?_) (fun hC0 hc3=> ?_)
   ·obtain⟨hg3,hC0⟩:=pV hC0;obtain⟨hg4,hC0⟩:=pV hC0;obtain⟨hg5,hC0⟩:=pV hC0;refine pO FW ?_ (hp:=by exact⟨show (4096:Int)≠0 from by decide,hg3,show (64:Int)≠0 from by decide,show (64:Int)≠0 from by decide,hg4,show (64:Int)≠0 from by decide,hg5⟩);refine pW (qW (qI ?_));cases hC0;exact⟨[],by rfl,by rfl,by rfl⟩
   ·refine qJ (rT (pZ ?_));obtain⟨hg6,hC0⟩:=pV hC0;obtain⟨hg7,hC0⟩:=pV hC0;obtain⟨hg8,hC0⟩:=pV hC0;obtain⟨hg9,hC0⟩:=pV hC0;refine pO FW ?_ (hp:=by exact⟨show (262144:Int)≠0 from by decide,hg6,show (4096:Int)≠0 from by decide,show (64:Int)≠0 from by decide,hg7,show (64:Int)≠0 from by decide,show (64:Int)≠0 from by decide,hg8,show (64:Int)≠0 from by decide,hg9⟩);refine pW ?_;cases hC0;exact⟨[],by rfl,by rfl,by rfl⟩
attribute [irreducible] AO
def D4 (O:(List UInt8)) (Z:Int):(Int×Int)→Option ((Int×Int)⊕(Int⊕(Int×Int))):=fun(aA,aB)=>if (decide (aB<Z))=true then if 0≤aB∧aB<(O.length:Int) then if (((decide ((qC O aB)<(128:Int)))==false)=true→0≤aB∧aB<(O.length:Int)) then if ((decide ((qC O aB)<(128:Int)))||(decide ((191:Int)<(qC O aB))))=true then some (.inr (.inr (((65533:Int),(1:Int))))) else if pP ((64:Int)*aA) then if 0≤aB∧aB<(O.length:Int) then if pP (((64:Int)*aA)+(IntKind.wrap .i64 (qC O aB))) then if pP ((((64:Int)*aA)+(IntKind.wrap .i64 (qC O aB)))- (128:Int)) then if pP (aB+(1:Int)) then some (.inl (((((64:Int)*aA)+(IntKind.wrap .i64 (qC O aB)))- (128:Int)),(aB+(1:Int)))) else none else none else none else none else none else none else none else some (.inr (.inl aA))
def HV (O:(List UInt8)):Option (Int×Int):=if 0≤(0:Int)∧(0:Int)<(O.length:Int) then sN (σ:=(Int×Int)) (if (decide ((IntKind.wrap .i64 (qC O (0:Int)))<(128:Int)))=true then some (.inr (((IntKind.wrap .i64 (qC O (0:Int))),(1:Int)))) else if ((decide ((192:Int)≤(IntKind.wrap .i64 (qC O (0:Int)))))&&(decide ((IntKind.wrap .i64 (qC O (0:Int)))<(224:Int))))=true then if pP ((IntKind.wrap .i64 (qC O (0:Int)))- (192:Int)) then some (.inl (((IntKind.wrap .i64 (qC O (0:Int)))- (192:Int)),(2:Int))) else none else if ((decide ((224:Int)≤(IntKind.wrap .i64 (qC O (0:Int)))))&&(decide ((IntKind.wrap .i64 (qC O (0:Int)))<(240:Int))))=true then if pP ((IntKind.wrap .i64 (qC O (0:Int)))- (224:Int)) then some (.inl (((IntKind.wrap .i64 (qC O (0:Int)))- (224:Int)),(3:Int))) else none else if ((decide ((240:Int)≤(IntKind.wrap .i64 (qC O (0:Int)))))&&(decide ((IntKind.wrap .i64 (qC O (0:Int)))<(248:Int))))=true then if pP ((IntKind.wrap .i64 (qC O (0:Int)))- (240:Int)) then some (.inl (((IntKind.wrap .i64 (qC O (0:Int)))- (240:Int)),(4:Int))) else none else some (.inr (((65533:Int),(1:Int)))) ) fun(Z,aA)=>if (decide ((O.length:Int)<aA))=true then some (((65533:Int),(1:Int))) else sN (qM (D4 O aA) (Z,(1:Int))) fun aB=>if (((!(((decide ((0:Int)≤aB))&&(decide (aB≤(1114111:Int))))&&((decide (aB<(55296:Int)))||(decide ((57343:Int)<aB)))))==false)=true→((AO aB)).isSome=true) then if (((!(((decide ((0:Int)≤aB))&&(decide (aB≤(1114111:Int))))&&((decide (aB<(55296:Int)))||(decide ((57343:Int)<aB)))))==false)=true→0≤(0:Int)∧(0:Int)≤aA∧aA≤(O.length:Int)) then if ((!(((decide ((0:Int)≤aB))&&(decide (aB≤(1114111:Int))))&&((decide (aB<(55296:Int)))||(decide ((57343:Int)<aB)))))||(!decide ((val (AO aB))=(q7 O (0:Int) aA))))=true then some (((65533:Int),(1:Int))) else some ((aB,aA)) else none else none else none
section
variable (O:(List UInt8))
abbrev a2o:List pR:=[(.val .str O,none)]
abbrev a2p:List pQ:=[]
@[go_sem] def a2q:pX:=⟨[((HV O)).isSome=true],[(.val (.int .i64) ((val (HV O)).1),none),(.val (.int .i64) ((val (HV O)).2),none)],[]⟩
def aCl:List pR→List pQ→Option pX:=rJ (V:=(List UInt8)) (fun x=>a2o x) (fun x=>a2p) fun x=>a2q x
@[go_sem] theorem aP9:aCl (no_index (a2o O)) (no_index a2p)=some (a2q O):=rM (fun a0 b0 h1 h2=>by cases h1;cases h2;rfl) O
end
@[go_sem] abbrev aCm:Nat×qS:=(207,⟨[.v],aCl,[],[],none⟩)
theorem wM:qZ Tryz.prog [x6,D1,s9] (qY [a2i,a2n]):=⟨⟨xN,⟨FK,⟨sC,trivial⟩⟩⟩,qH aCi (qH aCk rK),rE⟩
theorem aKM:rD Tryz.prog aCm:=by
 refine rN wM Tryz.func207 (c:=_) rfl (N:=81) (by kernel_rfl) (ts:=[(2,none),(3,none)]) rfl (fun _ _=>rfl) ?_;intro O hs hrow;dsimp only[a2o,a2p,a2q,rG,qE,qK,rC,rI,Nat.reduceAdd] at hs hrow⊢;have hz:=hs;obtain⟨z0,hC0⟩:=aRi.1 hz
 try rw[rU hC0]
 clear hz hs;unfold HV at hC0;refine pO wM ?_;obtain⟨hg1,hC0⟩:=pV hC0;refine pO wM ?_ (hp:=by exact hg1);refine q9 ?_;obtain⟨y1,hC1,hC0⟩:=vC hC0;refine zX (fun s=> ∃v,y1= .inl v∧s=(fun x=>⟨[(0,(.val .str O,none)),(4,(.val (.int .i64) x.1,none)),(5,(.val (.int .i64) x.2,none))],[],0,81,0⟩) v) ?_ ?_
 ·refine rQ ?_;refine pO wM ?_;refine q6 hC1 (fun hC1 hc1=> ?_) (fun hC1 hc1=> ?_)
  ·refine pO wM ?_;refine pW (qW (aAP (qI ?_)));cases hC1;dsimp only at hC0;cases hC0;exact⟨[],by rfl,by rfl,by rfl⟩
  ·refine pO wM ?_ (hp:=by exact⟨fun hh=>hh,(fun hh=>s3 hh)⟩);refine q6 hC1 (fun hC1 hc2=> ?_) (fun hC1 hc2=> ?_)
   ·obtain⟨hg2,hC1⟩:=pV hC1;refine rR wM ?_ (hp:=by exact hg2);refine rT ?_;cases hC1;exact tK ⟨⟨[0,4,5],[]⟩,_,rfl,by rfl⟩
   ·refine pO wM ?_ (hp:=by exact⟨fun hh=>hh,(fun hh=>s3 hh)⟩);refine q6 hC1 (fun hC1 hc3=> ?_) (fun hC1 hc3=> ?_)
    ·obtain⟨hg3,hC1⟩:=pV hC1;refine rR wM ?_ (hp:=by exact hg3);refine rT ?_;cases hC1;exact tK ⟨⟨[0,4,5],[]⟩,_,rfl,by rfl⟩
    ·refine pO wM ?_ (hp:=by exact⟨fun hh=>hh,(fun hh=>s3 hh)⟩);refine q6 hC1 (fun hC1 hc4=> ?_) (fun hC1 hc4=> ?_)
     ·obtain⟨hg4,hC1⟩:=pV hC1;refine rR wM ?_ (hp:=by exact hg4);refine rT ?_;cases hC1;exact tK ⟨⟨[0,4,5],[]⟩,_,rfl,by rfl⟩
     ·refine pO wM ?_;refine pW (qW (aAP (qI ?_)));cases hC1;dsimp only at hC0;cases hC0;exact⟨[],by rfl,by rfl,by rfl⟩
 ·rintro _ ⟨v,rfl,rfl⟩;obtain⟨Z,aA⟩:=v;dsimp only at hC0⊢;refine pZ (q9 ?_);refine pO wM ?_;refine q6 hC0 (fun hC0 hc5=> ?_) (fun hC0 hc5=> ?_)
  ·refine pO wM ?_;refine pW (qI ?_);cases hC0;exact⟨[],by rfl,by rfl,by rfl⟩
  ·refine qJ (pZ (q9 ?_));refine pO wM ?_;refine rQ ?_;obtain⟨y1,hy1,hC0⟩:=vC hC0;refine uI 1 (fun s=> ∃v,y1= .inl v∧s=(fun x=>⟨[(0,(.val .str O,none)),(4,(.val (.int .i64) x,none)),(5,(.val (.int .i64) aA,none))],[],0,81,0⟩) v) ?_ ?_
   ·refine uH hy1 (fun x=>⟨[(0,(.val .str O,none)),(4,(.val (.int .i64) x.1,none)),(5,(.val (.int .i64) aA,none)),(6,(.val (.int .i64) x.2,none))],[],0,81,0⟩) ⟨[0,4,5,6],[]⟩ (by rfl) ?_;intro x1 w1 n1 hC1 hN1;obtain⟨aB,aC⟩:=x1;unfold D4 at hC1;dsimp only at hC1⊢;refine q9 ?_;refine pO wM ?_;refine q6 hC1 (fun hC1 hc6=> ?_) (fun hC1 hc6=> ?_)
    ·refine qJ (pZ (q9 (rQ (q9 ?_))));obtain⟨hg5,hC1⟩:=pV hC1;obtain⟨hg6,hC1⟩:=pV hC1;refine pO wM ?_ (hp:=by exact⟨hg5,fun hh=>hh,fun hh=>hh,hg6,fun hh=>hh,(fun hh=>uB hh)⟩);refine q6 hC1 (fun hC1 hc7=> ?_) (fun hC1 hc7=> ?_)
     ·refine pO wM ?_;refine pW (qI (qW (qI (wB (wA (qW (qI ?_)))))));cases hC1;cases hN1;dsimp only at hC0;cases hC0;exact⟨[],by rfl,by rfl,by rfl⟩
     ·refine qJ (pZ ?_);obtain⟨hg7,hC1⟩:=pV hC1;obtain⟨hg8,hC1⟩:=pV hC1;obtain⟨hg9,hC1⟩:=pV hC1;obtain⟨hg10,hC1⟩:=pV hC1;refine rR wM ?_ (hp:=by exact⟨hg7,hg8,hg9,hg10⟩);refine rT (pZ ?_);obtain⟨hg11,hC1⟩:=pV hC1;refine rR wM ?_ (hp:=by exact hg11);cases hC1;exact tE ⟨⟨[0,4,5,6],[]⟩,_,by rfl,hN1⟩
    ·refine uG (uE (uK ?_));cases hC1;cases hN1;exact uJ ⟨⟨[0,4,5],[]⟩,_,rfl,by rfl⟩
   ·rintro _ ⟨aD,rfl,rfl⟩;dsimp only at hC0⊢;refine uF (pZ (q9 ?_));obtain⟨hg12,hC0⟩:=pV hC0;obtain⟨hg13,hC0⟩:=pV hC0;refine uW wM ?_ (hp:=by exact⟨fun hh=>hh,hg12,fun hh=>hh,fun hh=>hh,hg13,fun hh=>hh,fun hh=>hh,(fun hh=>uB hh)⟩);refine q6 hC0 (fun hC0 hc8=> ?_) (fun hC0 hc8=> ?_)
    ·refine pO wM ?_;refine pW (qI ?_);cases hC0;exact⟨[],by rfl,by rfl,by rfl⟩
    ·refine qJ (pZ ?_);refine pO wM ?_;refine pW ?_;cases hC0;exact⟨[],by rfl,by rfl,by rfl⟩
attribute [irreducible] HV
def JS (O:Int) (Z:Int):Bool:=if (decide (O=(1:Int)))=true then (decide (Z=(10:Int))) else y3 (σ:=Bool) (if (decide (O=(2:Int)))=true then (decide (O=(2:Int))) else (decide (O=(3:Int))) ) fun aA=>if aA=true then ((decide (Z=(10:Int)))||(decide (Z=(34:Int)))) else ((decide (Z=(60:Int)))||(decide (Z=(34:Int))))
section
variable (O:Int) (Z:Int)
abbrev a2r:List pR:=[(.val (.int .i64) O,none),(.val (.int .u8) Z,none)]
abbrev a2s:List pQ:=[]
@[go_sem] def a2t:pX:=⟨[],[(.val .bool (JS O Z),none)],[]⟩
def aCn:List pR→List pQ→Option pX:=rJ (V:=(Int×Int)) (fun x=>a2r x.1 x.2) (fun x=>a2s) fun x=>a2t x.1 x.2
@[go_sem] theorem aQa:aCn (no_index (a2r O Z)) (no_index a2s)=some (a2t O Z):=rM (fun⟨a0,a1⟩ ⟨b0,b1⟩ h1 h2=>by cases h1;cases h2;rfl) (O,Z)
end
@[go_sem] abbrev aCo:Nat×qS:=(211,⟨[.v,.v],aCn,[],[],none⟩)
theorem FX:qZ Tryz.prog [] (qY []):=⟨trivial,rK,rE⟩
theorem aKN:rD Tryz.prog aCo:=by
 refine rN FX Tryz.func211 (c:=_) rfl (N:=25) (by kernel_rfl) (ts:=[(4,none)]) rfl (fun _ _=>rfl) ?_;intro⟨O,Z⟩ hs hrow;dsimp only[a2r,a2s,a2t,rG,qE,qK,rC,rI,Nat.reduceAdd] at hs hrow⊢;obtain⟨z0,hC0⟩: ∃z,(JS O Z)=z:=⟨_,rfl⟩
 try rw[hC0]
 unfold JS at hC0;refine pO FX ?_;refine q9 ?_;refine pO FX ?_;refine rQ ?_;refine pO FX ?_;refine q6 hC0 (fun hC0 hc1=> ?_) (fun hC0 hc1=> ?_)
 ·refine pO FX ?_;refine pW (qW (qI ?_));cases hC0;exact⟨[],by rfl,by rfl,by rfl⟩
 ·refine q9 ?_;refine pO FX ?_;obtain⟨aA,hC1,hC0⟩:=aJz hC0;refine zX (fun s=>s=(fun x=>⟨[(1,(.val (.int .u8) Z,none)),(10,(.val .bool x,none))],[],0,25,0⟩) aA) ?_ ?_
  ·refine q6 hC1 (fun hC1 hc2=> ?_) (fun hC1 hc2=> ?_)
   ·refine qJ ?_;cases hC1;exact tK ⟨⟨[1,10],[]⟩,by rfl⟩
   ·refine rR FX ?_;cases hC1;exact tK ⟨⟨[1,10],[]⟩,by rfl⟩
  ·rintro _ rfl;dsimp only at hC0⊢;refine pZ ?_;refine q6 hC0 (fun hC0 hc3=> ?_) (fun hC0 hc3=> ?_)
   ·refine pO FX ?_ (hp:=by exact⟨fun hh=>hh,(fun hh=>uB hh)⟩);refine pW (qW (qI ?_));cases hC0;exact⟨[],by rfl,by rfl,by rfl⟩
   ·refine qJ (rT (pZ ?_));refine pO FX ?_ (hp:=by exact⟨fun hh=>hh,(fun hh=>uB hh)⟩);refine pW ?_;cases hC0;exact⟨[],by rfl,by rfl,by rfl⟩
def JT (O:((List Int)×Unit)) (Z:Int):Option Unit:=if (O.1.length+([Z]:List Int).length)*1≤140737488355328 then some (()) else none
section
variable (O:Int) (Z:((List Int)×Unit)) (aA:Nat)
abbrev a2u:List pR:=[(.val .ref (some (0,0)),none),(.val (.int .u8) O,none)]
abbrev a2v:List pQ:=[.cells tI ((some (0,0)),Z) [(1,1)],.grow 5 1 aA]
@[go_sem] def a2w:pX:=⟨[aA=(Z.1.length),((JT Z O)).isSome=true],[(.any,none)],[.cells tI ((some (0,0)),((Z.1++([O]:List Int)),())) [(1,1)],.grow 5 1 ((Z.1++([O]:List Int)).length)]⟩
def aCp:List pR→List pQ→Option pX:=rJ (V:=(Int×((List Int)×Unit)×Nat)) (fun x=>a2u x.1) (fun x=>a2v x.2.1 x.2.2) fun x=>a2w x.1 x.2.1 x.2.2
@[go_sem] theorem aQb:aCp (no_index (a2u O)) (no_index (a2v Z aA))=some (a2w O Z aA):=rM (fun⟨a0,a1,a2⟩ ⟨b0,b1,b2⟩ h1 h2=>by cases h1;cases h2;rfl) (O,Z,aA)
end
@[go_sem] abbrev aCq:Nat×qS:=(212,⟨[.p tI [1],.v],aCp,[],[],none⟩)
theorem PR:qZ Tryz.prog [E4,FI] (qY [UD]):=⟨⟨HK,⟨JL,trivial⟩⟩,qH a0B rK,rE⟩
theorem aKO:rD Tryz.prog aCq:=by
 refine rN PR Tryz.func212 (c:=_) rfl (N:=17) (by kernel_rfl) (ts:=[(4,none)]) rfl (fun _ _=>rfl) ?_;intro⟨O,Z,aA⟩ hs hrow;dsimp only[a2u,a2v,a2w,rG,qE,qK,rC,rI,Nat.reduceAdd] at hs hrow⊢;obtain⟨rfl,hz⟩:=hs;obtain⟨z0,hC0⟩:=aRi.1 hz
 try rw[rU hC0]
 clear hz;unfold JT at hC0;refine pO PR ?_;refine pO PR ?_ (hp:=by first|rfl|trivial)
 obtain⟨hg1,hC0⟩:=pV hC0;refine pO PR ?_ (hp:=by exact⟨by first|rfl|trivial,hg1⟩)
 refine pO PR ?_;refine pW ?_;cases hC0;exact⟨[(0,0),(1,1)],by rfl,by rfl,by rfl⟩
attribute [irreducible] JT
end
noncomputable section
def aCr (O:qB) (Z:(List UInt8)):Unit:=()
section
variable (O:qB) (Z:(List UInt8))
abbrev a2x:List pR:=[(.val (.pair .str (.pair .str .unit)) O,none),(.val .ref (some (0,0)),none)]
abbrev a2y:List pQ:=[.cells .str Z []]
@[go_sem] def a2z:pX:=⟨[],[(.val .bool (!(Op.bytesLess O.1 Z||decide (O.1=Z))),none)],[.cells .str Z []]⟩
def aCs:List pR→List pQ→Option pX:=rJ (V:=(qB×(List UInt8))) (fun x=>a2x x.1) (fun x=>a2y x.2) fun x=>a2z x.1 x.2
@[go_sem] theorem aQc:aCs (no_index (a2x O)) (no_index (a2y Z))=some (a2z O Z):=rM (fun⟨a0,a1⟩ ⟨b0,b1⟩ h1 h2=>by cases h1;cases h2;rfl) (O,Z)
end
@[go_sem] abbrev aCt:Nat×qS:=(239,⟨[.v,.p .str []],aCs,[],[0],none⟩)
theorem a2A:qZ Tryz.prog [s9,C7] (qY []):=⟨⟨sC,⟨E5,trivial⟩⟩,rK,rE⟩
theorem aKP:rD Tryz.prog aCt:=by
 refine rN a2A Tryz.func239 (c:=_) rfl (N:=8) (by kernel_rfl) (ts:=[(3,none)]) rfl (fun _ _=>rfl) ?_;intro⟨O,Z⟩ hs hrow;dsimp only[a2x,a2y,a2z,rG,qE,qK,rC,rI,Nat.reduceAdd] at hs hrow⊢;obtain⟨z0,hC0⟩: ∃z,(aCr O Z)=z:=⟨_,rfl⟩
 try rw[hC0]
 unfold aCr at hC0;refine pO a2A ?_;refine pO a2A ?_;refine pW ?_;cases hC0;exact⟨[(0,0)],by rfl,by rfl,by rfl⟩
def MC (O:(List UInt8)) (Z:Int):(Int×Int)→Option ((Int×Int)⊕(Int⊕(Int×Bool))):=fun(aA,aB)=>if (decide (aB<(O.length:Int)))=true then if 0≤aB∧aB<(O.length:Int) then if 0≤aB∧aB<(O.length:Int) then if (((decide ((65:Int)≤(qC O aB)))==true)=true→0≤aB∧aB<(O.length:Int)) then rL (σ:=Int) (if ((decide ((65:Int)≤(qC O aB)))&&(decide ((qC O aB)≤(70:Int))))=true then if 0≤aB∧aB<(O.length:Int) then if pP ((IntKind.wrap .i64 (IntKind.wrap .u8 ((qC O aB)- (65:Int))))+(10:Int)) then some (((IntKind.wrap .i64 (IntKind.wrap .u8 ((qC O aB)- (65:Int))))+(10:Int))) else none else none else some ((uX ([48,49,50,51,52,53,54,55,56,57,97,98,99,100,101,102]:List UInt8) (qC O aB))) ) fun aC=>if ((decide (aC<(0:Int)))||(decide (Z≤aC)))=true then some (.inr (.inr (((0:Int),false)))) else if pP (aA*Z) then if pP ((aA*Z)+aC) then if pP (aB+(1:Int)) then some (.inl (((aA*Z)+aC),(aB+(1:Int)))) else none else none else none else none else none else none else some (.inr (.inl aA))
def EC (O:(List UInt8)) (Z:Int):Option (Int×Bool):=sN (qM (MC O Z) ((0:Int),(0:Int))) fun aA=>some ((aA,(!decide (O=([]:List UInt8)))))
section
variable (O:(List UInt8)) (Z:Int)
abbrev a2B:List pR:=[(.val .str O,none),(.val (.int .i64) Z,none)]
abbrev a2C:List pQ:=[]
@[go_sem] def a2D:pX:=⟨[((EC O Z)).isSome=true],[(.val (.int .i64) ((val (EC O Z)).1),none),(.val .bool ((val (EC O Z)).2),none)],[]⟩
def aCu:List pR→List pQ→Option pX:=rJ (V:=((List UInt8)×Int)) (fun x=>a2B x.1 x.2) (fun x=>a2C) fun x=>a2D x.1 x.2
@[go_sem] theorem aQd:aCu (no_index (a2B O Z)) (no_index a2C)=some (a2D O Z):=rM (fun⟨a0,a1⟩ ⟨b0,b1⟩ h1 h2=>by cases h1;cases h2;rfl) (O,Z)
end
@[go_sem] abbrev a2E:Nat×qS:=(251,⟨[.v,.v],aCu,[],[],none⟩)
theorem AP:qZ Tryz.prog [x6,D1,s9] (qY [PA]):=⟨⟨xN,⟨FK,⟨sC,trivial⟩⟩⟩,qH UC rK,rE⟩
theorem aCv:rD Tryz.prog a2E:=by
 refine rN AP Tryz.func251 (c:=_) rfl (N:=50) (by kernel_rfl) (ts:=[(4,none),(5,none)]) rfl (fun _ _=>rfl) ?_;intro⟨O,Z⟩ hs hrow;dsimp only[a2B,a2C,a2D,rG,qE,qK,rC,rI,Nat.reduceAdd] at hs hrow⊢;have hz:=hs;obtain⟨z0,hC0⟩:=aRi.1 hz
 try rw[rU hC0]
 clear hz hs;unfold EC at hC0;refine pO AP ?_;refine pO AP ?_;refine q9 ?_;refine pO AP ?_;refine rQ ?_;obtain⟨y1,hy1,hC0⟩:=vC hC0;refine uI 0 (fun s=> ∃v,y1= .inl v∧s=(fun x=>⟨[(0,(.val .str O,none)),(6,(.val (.int .i64) x,none))],[],0,50,0⟩) v) ?_ ?_
 ·refine uH hy1 (fun x=>⟨[(0,(.val .str O,none)),(1,(.val (.int .i64) Z,none)),(6,(.val (.int .i64) x.1,none)),(10,(.val (.int .i64) (O.length:Int),none)),(11,(.val (.int .i64) x.2,none))],[],0,50,0⟩) ⟨[0,1,6,10,11],[]⟩ (by rfl) ?_;intro x1 w1 n1 hC1 hN1;obtain⟨aA,aB⟩:=x1;unfold MC at hC1;dsimp only at hC1⊢;refine pO AP ?_;refine q9 ?_;refine q6 hC1 (fun hC1 hc1=> ?_) (fun hC1 hc1=> ?_)
  ·refine qJ (pZ (q9 (rQ ?_)));refine pO AP ?_;obtain⟨hg1,hC1⟩:=pV hC1;refine pO AP ?_ (hp:=by exact hg1);refine q9 ?_;obtain⟨hg2,hC1⟩:=pV hC1;obtain⟨hg3,hC1⟩:=pV hC1;refine pO AP ?_ (hp:=by exact⟨hg2,fun hh=>hh,fun hh=>hh,hg3,fun hh=>hh,(fun hh=>s3 hh)⟩);obtain⟨aC,hC2,hC1⟩:=pS hC1;refine zX (fun s=>s=(fun x=>⟨[(0,(.val .str O,none)),(1,(.val (.int .i64) Z,none)),(6,(.val (.int .i64) aA,none)),(8,(.val (.int .i64) x,none)),(10,(.val (.int .i64) (O.length:Int),none)),(11,(.val (.int .i64) aB,none))],[],0,50,0⟩) aC) ?_ ?_
   ·refine q6 hC2 (fun hC2 hc2=> ?_) (fun hC2 hc2=> ?_)
    ·obtain⟨hg4,hC2⟩:=pV hC2;obtain⟨hg5,hC2⟩:=pV hC2;refine rR AP ?_ (hp:=by exact⟨hg4,hg5⟩);cases hC2;exact tK ⟨⟨[0,1,6,8,10,11],[]⟩,by rfl⟩
    ·refine qJ ?_;cases hC2;exact tK ⟨⟨[0,1,6,8,10,11],[]⟩,by rfl⟩
   ·rintro _ rfl;dsimp only at hC1⊢;refine pZ (q9 ?_);refine pO AP ?_ (hp:=by exact⟨fun hh=>hh,fun hh=>hh,(fun hh=>uB hh)⟩);refine q6 hC1 (fun hC1 hc3=> ?_) (fun hC1 hc3=> ?_)
    ·refine pO AP ?_;refine pW (qI (qW (qI (wB (wA (qW (qI ?_)))))));cases hC1;cases hN1;dsimp only at hC0;cases hC0;exact⟨[],by rfl,by rfl,by rfl⟩
    ·refine qJ (pZ ?_);obtain⟨hg6,hC1⟩:=pV hC1;obtain⟨hg7,hC1⟩:=pV hC1;refine rR AP ?_ (hp:=by exact⟨hg6,hg7⟩);refine rT (pZ ?_);obtain⟨hg8,hC1⟩:=pV hC1;refine rR AP ?_ (hp:=by exact hg8);cases hC1;exact tE ⟨⟨[0,1,6,10,11],[]⟩,_,by rfl,hN1⟩
  ·refine uG (uE (uK ?_));cases hC1;cases hN1;exact uJ ⟨⟨[0,6],[]⟩,_,rfl,by rfl⟩
 ·rintro _ ⟨aD,rfl,rfl⟩;dsimp only at hC0⊢;refine uF (pZ ?_);refine pO AP ?_;refine pW ?_;cases hC0;exact⟨[],by rfl,by rfl,by rfl⟩
attribute [irreducible] EC
def aKQ (O:(List (List UInt8))) (Z:(List UInt8)):Int→Option (Int⊕(Unit⊕Bool)):=fun aA=>if (decide (aA<(O.length:Int)))=true then if 0≤aA∧aA<(O.length:Int) then if (decide ((qD .str O aA)=Z))=true then some (.inr (.inr (true))) else if pP (aA+(1:Int)) then some (.inl (aA+(1:Int))) else none else none else some (.inr (.inl ()))
def aCw (O:(List (List UInt8))) (Z:(List UInt8)):Option Bool:=sN (qM (aKQ O Z) (0:Int)) fun _=>some (false)
attribute [irreducible] aCw
def aCx (O:qB) (Z:(List UInt8)):Unit:=()
section
variable (O:qB) (Z:(List UInt8))
abbrev a2F:List pR:=[(.val (.pair .str (.pair .str .unit)) O,none),(.val .ref (some (0,0)),none)]
abbrev a2G:List pQ:=[.cells .str Z []]
@[go_sem] def a2H:pX:=⟨[],[(.val .bool (decide (O.1=Z)),none)],[.cells .str Z []]⟩
def aCy:List pR→List pQ→Option pX:=rJ (V:=(qB×(List UInt8))) (fun x=>a2F x.1) (fun x=>a2G x.2) fun x=>a2H x.1 x.2
@[go_sem] theorem aQe:aCy (no_index (a2F O)) (no_index (a2G Z))=some (a2H O Z):=rM (fun⟨a0,a1⟩ ⟨b0,b1⟩ h1 h2=>by cases h1;cases h2;rfl) (O,Z)
end
@[go_sem] abbrev aCz:Nat×qS:=(267,⟨[.v,.p .str []],aCy,[],[0],none⟩)
theorem a2I:qZ Tryz.prog [s9,C7] (qY []):=⟨⟨sC,⟨E5,trivial⟩⟩,rK,rE⟩
theorem aKR:rD Tryz.prog aCz:=by
 refine rN a2I Tryz.func267 (c:=_) rfl (N:=8) (by kernel_rfl) (ts:=[(3,none)]) rfl (fun _ _=>rfl) ?_;intro⟨O,Z⟩ hs hrow;dsimp only[a2F,a2G,a2H,rG,qE,qK,rC,rI,Nat.reduceAdd] at hs hrow⊢;obtain⟨z0,hC0⟩: ∃z,(aCx O Z)=z:=⟨_,rfl⟩
 try rw[hC0]
 unfold aCx at hC0;refine pO a2I ?_;refine pO a2I ?_;refine pW ?_;cases hC0;exact⟨[(0,0)],by rfl,by rfl,by rfl⟩
def UW (O:Int) (Z:Int):Option Int:=rL (σ:=Int) (if ((decide ((48:Int)≤O))&&(decide (O≤(57:Int))))=true then some ((IntKind.wrap .i64 (IntKind.wrap .u8 (O- (48:Int))))) else if ((decide ((97:Int)≤O))&&(decide (O≤(102:Int))))=true then if pP ((IntKind.wrap .i64 (IntKind.wrap .u8 (O- (97:Int))))+(10:Int)) then some (((IntKind.wrap .i64 (IntKind.wrap .u8 (O- (97:Int))))+(10:Int))) else none else if ((decide ((65:Int)≤O))&&(decide (O≤(70:Int))))=true then if pP ((IntKind.wrap .i64 (IntKind.wrap .u8 (O- (65:Int))))+(10:Int)) then some (((IntKind.wrap .i64 (IntKind.wrap .u8 (O- (65:Int))))+(10:Int))) else none else some ((-1:Int)) ) fun aA=>if (decide (Z≤aA))=true then some ((-1:Int)) else some (aA)
attribute [irreducible] UW
def aCA (O:Int):Unit:=()
section
variable (O:Int)
abbrev a2J:List pR:=[(.val (.int .i64) O,none)]
abbrev a2K:List pQ:=[]
@[go_sem] def a2L:pX:=⟨[],[(.val .bool (((decide ((0:Int)≤O))&&(decide (O≤(1114111:Int))))&&((decide (O<(55296:Int)))||(decide ((57343:Int)<O)))),none)],[]⟩
def aCB:List pR→List pQ→Option pX:=rJ (V:=Int) (fun x=>a2J x) (fun x=>a2K) fun x=>a2L x
@[go_sem] theorem aQf:aCB (no_index (a2J O)) (no_index a2K)=some (a2L O):=rM (fun a0 b0 h1 h2=>by cases h1;cases h2;rfl) O
end
@[go_sem] abbrev aCC:Nat×qS:=(289,⟨[.v],aCB,[],[],none⟩)
theorem a2M:qZ Tryz.prog [] (qY []):=⟨trivial,rK,rE⟩
theorem aKS:rD Tryz.prog aCC:=by
 refine rN a2M Tryz.func289 (c:=_) rfl (N:=17) (by kernel_rfl) (ts:=[(2,none)]) rfl (fun _ _=>rfl) ?_;intro O hs hrow;dsimp only[a2J,a2K,a2L,rG,qE,qK,rC,rI,Nat.reduceAdd] at hs hrow⊢;obtain⟨z0,hC0⟩: ∃z,(aCA O)=z:=⟨_,rfl⟩
 try rw[hC0]
 unfold aCA at hC0;refine pO a2M ?_;refine pO a2M ?_ (hp:=by exact⟨fun hh=>hh,fun hh=>s3 hh,fun hh=>hh,fun hh=>hh,fun hh=>hh,fun hh=>hh,fun hG hh=>HC hG hh,(fun hh=>s3 hh)⟩);refine pW ?_;cases hC0;exact⟨[],by rfl,by rfl,by rfl⟩
def HW (O:(List qB)):Option (List qB):=if (0+O.length)*32≤140737488355328 then some ((([]:List qB)++O)) else none
section
variable (O:(List qB))
abbrev a2N:List pR:=[(.val (.list (.pair .str (.pair .str .unit))) O,none)]
abbrev a2O:List pQ:=[]
@[go_sem] def a2P:pX:=⟨[((HW O)).isSome=true],[(.own 0 ((val (HW O)).length),none)],[.row 149 (.pair .str (.pair .str .unit)) (val (HW O)) ((val (HW O)).length)]⟩
def aCD:List pR→List pQ→Option pX:=rJ (V:=(List qB)) (fun x=>a2N x) (fun x=>a2O) fun x=>a2P x
@[go_sem] theorem aQg:aCD (no_index (a2N O)) (no_index a2O)=some (a2P O):=rM (fun a0 b0 h1 h2=>by cases h1;cases h2;rfl) O
end
@[go_sem] abbrev aCE:Nat×qS:=(236,⟨[.v],aCD,[],[],none⟩)
theorem PT:qZ Tryz.prog [U4] (qY []):=⟨⟨aBi,trivial⟩,rK,rE⟩
theorem aKT:rD Tryz.prog aCE:=by
 refine rN PT Tryz.func236 (c:=_) rfl (N:=8) (by kernel_rfl) (ts:=[(2,none)]) rfl (fun _ _=>rfl) ?_;intro O hs hrow;dsimp only[a2N,a2O,a2P,rG,qE,qK,rC,rI,Nat.reduceAdd] at hs hrow⊢;have hz:=hs;obtain⟨z0,hC0⟩:=aRi.1 hz
 try rw[rU hC0]
 clear hz hs;unfold HW at hC0;refine pO PT ?_;refine q9 ?_;refine pO PT ?_;refine aJq (by simp only[go_sem];rfl) (fun hnil=> ?_) (fun hnil=> ?_)
 ·subst hnil;obtain⟨_,hC0⟩:=pV hC0;refine pO PT ?_;refine pW (qI ?_);cases hC0;exact⟨[(0,96)],by rfl,by rfl,by rfl⟩
 ·refine qJ (pZ ?_);obtain⟨hg1,hC0⟩:=pV hC0;refine pO PT ?_ (hp:=by exact⟨by first|rfl|trivial,hg1⟩)
  refine pW ?_;cases hC0;exact⟨[(0,96)],by rfl,by rfl,by rfl⟩
attribute [irreducible] HW
end
noncomputable section
def JU (O:(List Int)) (Z:Int):Option (List Int):=if (decide ((IntKind.wrap .u32 Z)≤(2047:Int)))=true then if (O.length+([(bits .or .u8 (192:Int) (IntKind.wrap .u8 (xI .i32 Z (6:Int)))),(bits .or .u8 (128:Int) (bits .and .u8 (IntKind.wrap .u8 Z) (63:Int)))]:List Int).length)*1≤140737488355328 then some ((O++([(bits .or .u8 (192:Int) (IntKind.wrap .u8 (xI .i32 Z (6:Int)))),(bits .or .u8 (128:Int) (bits .and .u8 (IntKind.wrap .u8 Z) (63:Int)))]:List Int))) else none else rL (σ:=Bool) (if (decide ((IntKind.wrap .u32 Z)<(55296:Int)))=true then some ((decide ((IntKind.wrap .u32 Z)<(55296:Int)))) else some (((decide ((57343:Int)<(IntKind.wrap .u32 Z)))&&(decide ((IntKind.wrap .u32 Z)≤(65535:Int))))) ) fun aA=>if aA=true then if (O.length+([(bits .or .u8 (224:Int) (IntKind.wrap .u8 (xI .i32 Z (12:Int)))),(bits .or .u8 (128:Int) (bits .and .u8 (IntKind.wrap .u8 (xI .i32 Z (6:Int))) (63:Int))),(bits .or .u8 (128:Int) (bits .and .u8 (IntKind.wrap .u8 Z) (63:Int)))]:List Int).length)*1≤140737488355328 then some ((O++([(bits .or .u8 (224:Int) (IntKind.wrap .u8 (xI .i32 Z (12:Int)))),(bits .or .u8 (128:Int) (bits .and .u8 (IntKind.wrap .u8 (xI .i32 Z (6:Int))) (63:Int))),(bits .or .u8 (128:Int) (bits .and .u8 (IntKind.wrap .u8 Z) (63:Int)))]:List Int))) else none else if ((decide ((65535:Int)<(IntKind.wrap .u32 Z)))&&(decide ((IntKind.wrap .u32 Z)≤(1114111:Int))))=true then if (O.length+([(bits .or .u8 (240:Int) (IntKind.wrap .u8 (xI .i32 Z (18:Int)))),(bits .or .u8 (128:Int) (bits .and .u8 (IntKind.wrap .u8 (xI .i32 Z (12:Int))) (63:Int))),(bits .or .u8 (128:Int) (bits .and .u8 (IntKind.wrap .u8 (xI .i32 Z (6:Int))) (63:Int))),(bits .or .u8 (128:Int) (bits .and .u8 (IntKind.wrap .u8 Z) (63:Int)))]:List Int).length)*1≤140737488355328 then some ((O++([(bits .or .u8 (240:Int) (IntKind.wrap .u8 (xI .i32 Z (18:Int)))),(bits .or .u8 (128:Int) (bits .and .u8 (IntKind.wrap .u8 (xI .i32 Z (12:Int))) (63:Int))),(bits .or .u8 (128:Int) (bits .and .u8 (IntKind.wrap .u8 (xI .i32 Z (6:Int))) (63:Int))),(bits .or .u8 (128:Int) (bits .and .u8 (IntKind.wrap .u8 Z) (63:Int)))]:List Int))) else none else if (O.length+([(239:Int),(191:Int),(189:Int)]:List Int).length)*1≤140737488355328 then some ((O++([(239:Int),(191:Int),(189:Int)]:List Int))) else none
section
variable (O:(List Int)) (Z:Int) (aA:Nat)
abbrev a2Q:List pR:=[(.val (.list (.int .u8)) O,some 0),(.val (.int .i32) Z,none)]
abbrev a2R:List pQ:=[.grow 5 1 aA]
@[go_sem] def a2S:pX:=⟨[aA=(O.length),((JU O Z)).isSome=true],[(.val (.list (.int .u8)) (val (JU O Z)),some 0)],[.grow 5 1 ((val (JU O Z)).length)]⟩
def aCF:List pR→List pQ→Option pX:=rJ (V:=((List Int)×Int×Nat)) (fun x=>a2Q x.1 x.2.1) (fun x=>a2R x.2.2) fun x=>a2S x.1 x.2.1 x.2.2
@[go_sem] theorem aQh:aCF (no_index (a2Q O Z)) (no_index (a2R aA))=some (a2S O Z aA):=rM (fun⟨a0,a1,a2⟩ ⟨b0,b1,b2⟩ h1 h2=>by cases h1;cases h2;rfl) (O,Z,aA)
end
@[go_sem] abbrev aCG:Nat×qS:=(300,⟨[.own,.v],aCF,[],[],none⟩)
theorem D5:qZ Tryz.prog [D1,P9,E4,U5] (qY []):=⟨⟨FK,⟨a0z,⟨HK,⟨aBj,trivial⟩⟩⟩⟩,rK,rE⟩
theorem aKU:rD Tryz.prog aCG:=by
 refine rN D5 Tryz.func300 (c:=_) rfl (N:=78) (by kernel_rfl) (ts:=[(4,none)]) rfl (fun _ _=>rfl) ?_;intro⟨O,Z,aA⟩ hs hrow;dsimp only[a2Q,a2R,a2S,rG,qE,qK,rC,rI,Nat.reduceAdd] at hs hrow⊢;obtain⟨rfl,hz⟩:=hs;obtain⟨z0,hC0⟩:=aRi.1 hz
 try rw[rU hC0]
 clear hz;unfold JU at hC0;refine pO D5 ?_;refine pO D5 ?_;refine rQ ?_;refine pO D5 ?_;refine q6 hC0 (fun hC0 hc1=> ?_) (fun hC0 hc1=> ?_)
 ·obtain⟨hg1,hC0⟩:=pV hC0;refine pO D5 ?_ (hp:=by exact⟨show (0:Int)≤(6:Int) from by decide,by first|rfl|trivial,hg1⟩)
  refine pW (qW ?_);cases hC0;exact⟨[(0,0)],by rfl,by rfl,by rfl⟩
 ·refine q9 ?_;refine pO D5 ?_;obtain⟨aB,hC1,hC0⟩:=pS hC0;refine zX (fun s=>s=(fun x=>⟨[(0,(.val (.list (.int .u8)) O,some 0)),(1,(.val (.int .i32) Z,none)),(5,(.val (.int .u32) (IntKind.wrap .u32 Z),none)),(25,(.val .bool x,none))],[(0,.grow 5 1 (O.length))],1,78,1⟩) aB) ?_ ?_
  ·refine q6 hC1 (fun hC1 hc2=> ?_) (fun hC1 hc2=> ?_)
   ·refine qJ ?_;cases hC1;exact tK ⟨⟨[0,1,5,25],[(0,0)]⟩,by rfl⟩
   ·refine rR D5 ?_ (hp:=by exact⟨fun hh=>hh,(fun hh=>s3 hh)⟩);cases hC1;exact tK ⟨⟨[0,1,5,25],[(0,0)]⟩,by rfl⟩
  ·rintro _ rfl;dsimp only at hC0⊢;refine pZ ?_;refine q6 hC0 (fun hC0 hc3=> ?_) (fun hC0 hc3=> ?_)
   ·obtain⟨hg2,hC0⟩:=pV hC0;refine pO D5 ?_ (hp:=by exact⟨show (0:Int)≤(12:Int) from by decide,show (0:Int)≤(6:Int) from by decide,by first|rfl|trivial,hg2⟩)
    refine pW (qW ?_);cases hC0;exact⟨[(0,0)],by rfl,by rfl,by rfl⟩
   ·refine pO D5 ?_ (hp:=by exact⟨fun hh=>hh,(fun hh=>s3 hh)⟩);refine q6 hC0 (fun hC0 hc4=> ?_) (fun hC0 hc4=> ?_)
    ·obtain⟨hg3,hC0⟩:=pV hC0;refine pO D5 ?_ (hp:=by exact⟨show (0:Int)≤(18:Int) from by decide,show (0:Int)≤(12:Int) from by decide,show (0:Int)≤(6:Int) from by decide,by first|rfl|trivial,hg3⟩)
     refine pW (qW ?_);cases hC0;exact⟨[(0,0)],by rfl,by rfl,by rfl⟩
    ·obtain⟨hg4,hC0⟩:=pV hC0;refine pO D5 ?_ (hp:=by exact⟨by first|rfl|trivial,hg4⟩)
     refine pW (qW ?_);cases hC0;exact⟨[(0,0)],by rfl,by rfl,by rfl⟩
attribute [irreducible] JU
def PU (O:(List qB)) (Z:(List UInt8)):Int→Option (Int⊕(Unit⊕Int)):=fun aA=>if (decide (aA<(O.length:Int)))=true then if 0≤aA∧aA<(O.length:Int) then if (decide (((qD (.pair .str (.pair .str .unit)) O aA).1)=Z))=true then some (.inr (.inr (aA))) else if pP (aA+(1:Int)) then some (.inl (aA+(1:Int))) else none else none else some (.inr (.inl ()))
def MD (O:(List qB)) (Z:(List UInt8)):Option Int:=sN (qM (PU O Z) (0:Int)) fun _=>some ((-1:Int))
section
variable (O:(List qB)) (Z:(List UInt8))
abbrev a2T:List pR:=[(.val (.list (.pair .str (.pair .str .unit))) O,none),(.val .clo (some (267,[(0,0)])),none)]
abbrev a2U:List pQ:=[.cells .str Z []]
@[go_sem] def a2V:pX:=⟨[((MD O Z)).isSome=true],[(.val (.int .i64) (val (MD O Z)),none)],[.cells .str Z []]⟩
def aCH:List pR→List pQ→Option pX:=rJ (V:=((List qB)×(List UInt8))) (fun x=>a2T x.1) (fun x=>a2U x.2) fun x=>a2V x.1 x.2
@[go_sem] theorem aQi:aCH (no_index (a2T O)) (no_index (a2U Z))=some (a2V O Z):=rM (fun⟨a0,a1⟩ ⟨b0,b1⟩ h1 h2=>by cases h1;cases h2;rfl) (O,Z)
end
@[go_sem] abbrev aCI:Nat×qS:=(238,⟨[.v,.f [(.str,[])]],aCH,[],[0],none⟩)
theorem FY:qZ Tryz.prog [y4,C7] (qY [aCz]):=⟨⟨yU,⟨E5,trivial⟩⟩,qH aKR rK,rE⟩
theorem aKV:rD Tryz.prog aCI:=by
 refine rN FY Tryz.func238 (c:=_) rfl (N:=19) (by kernel_rfl) (ts:=[(4,none)]) rfl (fun _ _=>rfl) ?_;intro⟨O,Z⟩ hs hrow;dsimp only[a2T,a2U,a2V,rG,qE,qK,rC,rI,Nat.reduceAdd] at hs hrow⊢;have hz:=hs;obtain⟨z0,hC0⟩:=aRi.1 hz
 try rw[rU hC0]
 clear hz hs;unfold MD at hC0;refine pO FY ?_;refine q9 ?_;refine pO FY ?_;refine rQ ?_;obtain⟨y1,hy1,hC0⟩:=vC hC0;refine uI 0 (fun s=> ∃v,y1= .inl v∧s=(fun _=>⟨[],[(0,.cells .str Z [])],1,19,1⟩) v) ?_ ?_
 ·refine uH hy1 (fun x=>⟨[(0,(.val (.list (.pair .str (.pair .str .unit))) O,none)),(1,(.val .clo (some (267,[(0,0)])),none)),(7,(.val (.int .i64) (O.length:Int),none)),(8,(.val (.int .i64) x,none))],[(0,.cells .str Z [])],1,19,1⟩) ⟨[0,1,7,8],[(0,0)]⟩ (by rfl) ?_;intro aA w1 n1 hC1 hN1;unfold PU at hC1;dsimp only at hC1⊢;refine pO FY ?_;refine q9 ?_;refine q6 hC1 (fun hC1 hc1=> ?_) (fun hC1 hc1=> ?_)
  ·refine qJ (pZ (q9 (rQ ?_)));refine pO FY ?_;obtain⟨hg1,hC1⟩:=pV hC1;refine pO FY ?_ (hp:=by exact⟨hg1,(by first|rfl|trivial)⟩)
   refine q6 hC1 (fun hC1 hc2=> ?_) (fun hC1 hc2=> ?_)
   ·refine pO FY ?_;refine pW (qW (qI (wB (wA (qW (qI ?_))))));cases hC1;cases hN1;dsimp only at hC0;cases hC0;exact⟨[(0,0)],by rfl,by rfl,by rfl⟩
   ·refine qJ (rT (pZ ?_));obtain⟨hg2,hC1⟩:=pV hC1;refine rR FY ?_ (hp:=by exact hg2);cases hC1;exact tE ⟨⟨[0,1,7,8],[(0,0)]⟩,_,by rfl,hN1⟩
  ·refine uG (uE (uK ?_));cases hC1;cases hN1;exact uJ ⟨⟨[],[(0,0)]⟩,_,rfl,by rfl⟩
 ·rintro _ ⟨v,rfl,rfl⟩;dsimp only at hC0⊢;refine uF (pZ ?_);refine pO FY ?_;refine pW ?_;cases hC0;exact⟨[(0,0)],by rfl,by rfl,by rfl⟩
attribute [irreducible] MD
def PV (O:(List qB)) (Z:(List UInt8)):Int→Option (Int⊕(Unit⊕Int)):=fun aA=>if (decide (aA<(O.length:Int)))=true then if 0≤aA∧aA<(O.length:Int) then if (!(Op.bytesLess ((qD (.pair .str (.pair .str .unit)) O aA).1) Z||decide (((qD (.pair .str (.pair .str .unit)) O aA).1)=Z)))=true then some (.inr (.inr (aA))) else if pP (aA+(1:Int)) then some (.inl (aA+(1:Int))) else none else none else some (.inr (.inl ()))
def ME (O:(List qB)) (Z:(List UInt8)):Option Int:=sN (qM (PV O Z) (0:Int)) fun _=>some ((-1:Int))
section
variable (O:(List qB)) (Z:(List UInt8))
abbrev a2W:List pR:=[(.val (.list (.pair .str (.pair .str .unit))) O,none),(.val .clo (some (239,[(0,0)])),none)]
abbrev a2X:List pQ:=[.cells .str Z []]
@[go_sem] def a2Y:pX:=⟨[((ME O Z)).isSome=true],[(.val (.int .i64) (val (ME O Z)),none)],[.cells .str Z []]⟩
def aCJ:List pR→List pQ→Option pX:=rJ (V:=((List qB)×(List UInt8))) (fun x=>a2W x.1) (fun x=>a2X x.2) fun x=>a2Y x.1 x.2
@[go_sem] theorem aQj:aCJ (no_index (a2W O)) (no_index (a2X Z))=some (a2Y O Z):=rM (fun⟨a0,a1⟩ ⟨b0,b1⟩ h1 h2=>by cases h1;cases h2;rfl) (O,Z)
end
@[go_sem] abbrev aCK:Nat×qS:=(238,⟨[.v,.f [(.str,[])]],aCJ,[],[0],none⟩)
theorem FZ:qZ Tryz.prog [y4,C7] (qY [aCt]):=⟨⟨yU,⟨E5,trivial⟩⟩,qH aKP rK,rE⟩
theorem aKW:rD Tryz.prog aCK:=by
 refine rN FZ Tryz.func238 (c:=_) rfl (N:=19) (by kernel_rfl) (ts:=[(4,none)]) rfl (fun _ _=>rfl) ?_;intro⟨O,Z⟩ hs hrow;dsimp only[a2W,a2X,a2Y,rG,qE,qK,rC,rI,Nat.reduceAdd] at hs hrow⊢;have hz:=hs;obtain⟨z0,hC0⟩:=aRi.1 hz
 try rw[rU hC0]
 clear hz hs;unfold ME at hC0;refine pO FZ ?_;refine q9 ?_;refine pO FZ ?_;refine rQ ?_;obtain⟨y1,hy1,hC0⟩:=vC hC0;refine uI 0 (fun s=> ∃v,y1= .inl v∧s=(fun _=>⟨[],[(0,.cells .str Z [])],1,19,1⟩) v) ?_ ?_
 ·refine uH hy1 (fun x=>⟨[(0,(.val (.list (.pair .str (.pair .str .unit))) O,none)),(1,(.val .clo (some (239,[(0,0)])),none)),(7,(.val (.int .i64) (O.length:Int),none)),(8,(.val (.int .i64) x,none))],[(0,.cells .str Z [])],1,19,1⟩) ⟨[0,1,7,8],[(0,0)]⟩ (by rfl) ?_;intro aA w1 n1 hC1 hN1;unfold PV at hC1;dsimp only at hC1⊢;refine pO FZ ?_;refine q9 ?_;refine q6 hC1 (fun hC1 hc1=> ?_) (fun hC1 hc1=> ?_)
  ·refine qJ (pZ (q9 (rQ ?_)));refine pO FZ ?_;obtain⟨hg1,hC1⟩:=pV hC1;refine pO FZ ?_ (hp:=by exact⟨hg1,(by first|rfl|trivial)⟩)
   refine q6 hC1 (fun hC1 hc2=> ?_) (fun hC1 hc2=> ?_)
   ·refine pO FZ ?_;refine pW (qW (qI (wB (wA (qW (qI ?_))))));cases hC1;cases hN1;dsimp only at hC0;cases hC0;exact⟨[(0,0)],by rfl,by rfl,by rfl⟩
   ·refine qJ (rT (pZ ?_));obtain⟨hg2,hC1⟩:=pV hC1;refine rR FZ ?_ (hp:=by exact hg2);cases hC1;exact tE ⟨⟨[0,1,7,8],[(0,0)]⟩,_,by rfl,hN1⟩
  ·refine uG (uE (uK ?_));cases hC1;cases hN1;exact uJ ⟨⟨[],[(0,0)]⟩,_,rfl,by rfl⟩
 ·rintro _ ⟨v,rfl,rfl⟩;dsimp only at hC0⊢;refine uF (pZ ?_);refine pO FZ ?_;refine pW ?_;cases hC0;exact⟨[(0,0)],by rfl,by rfl,by rfl⟩
attribute [irreducible] ME
end
noncomputable section
def aCL:Unit:=()
section
abbrev a2Z:List pR:=[]
abbrev a27:List pQ:=[]
@[go_sem] def a28:pX:=⟨[],[(.val (.list .str) ([([110,101,119]:List UInt8),([102,117,122,122,121]:List UInt8),([116,114,97,110,115,108,97,116,101,100]:List UInt8),([114,101,118,105,101,119,101,100]:List UInt8),([111,98,115,111,108,101,116,101]:List UInt8)]:List (List UInt8)),none)],[]⟩
def aCM:List pR→List pQ→Option pX:=rJ (V:=Unit) (fun x=>a2Z) (fun x=>a27) fun x=>a28
@[go_sem] theorem aQk:aCM (no_index a2Z) (no_index a27)=some a28:=rM (fun _ _ h1 h2=>by cases h1;cases h2;rfl) ()
end
@[go_sem] abbrev PW:Nat×qS:=(117,⟨[],aCM,[],[],none⟩)
theorem a29:qZ Tryz.prog [wC] (qY []):=⟨⟨x5,trivial⟩,rK,rE⟩
theorem a3a:rD Tryz.prog PW:=by
 refine rN a29 Tryz.func117 (c:=_) rfl (N:=2) (by kernel_rfl) (ts:=[(0,none)]) rfl (fun _ _=>rfl) ?_;intro⟨⟩ hs hrow;dsimp only[a2Z,a27,a28,rG,qE,qK,rC,rI,Nat.reduceAdd] at hs hrow⊢;obtain⟨z0,hC0⟩: ∃z,aCL=z:=⟨_,rfl⟩
 try rw[hC0]
 unfold aCL at hC0;refine pO a29 ?_;refine pO a29 ?_;refine pW ?_;cases hC0;exact⟨[],by rfl,by rfl,by rfl⟩
def UX:(Int×List UInt8)→(List Int)→Option ((List Int)⊕(List UInt8)):=fun O Z=>(yA (Z,()) O.2).bind fun aA=>some (.inl (Z++s5 O.2))
def HX (O:HE):Option (List UInt8):=if List.length O.2.1≤4611686018427387904 then sN (vX (UX) (BH O) ([]:List Int)) fun Z=>some ((sI Z)) else none
section
variable (O:HE)
abbrev a3b:List pR:=[(.val AK O,none)]
abbrev a3c:List pQ:=[]
@[go_sem] def a3d:pX:=⟨[((HX O)).isSome=true],[(.val .str (val (HX O)),none)],[]⟩
def aCN:List pR→List pQ→Option pX:=rJ (V:=HE) (fun x=>a3b x) (fun x=>a3c) fun x=>a3d x
@[go_sem] theorem aQl:aCN (no_index (a3b O)) (no_index a3c)=some (a3d O):=rM (fun a0 b0 h1 h2=>by cases h1;cases h2;rfl) O
end
@[go_sem] abbrev a3e:Nat×qS:=(25,⟨[.v],aCN,[],[],none⟩)
theorem JV:qZ Tryz.prog [E2,FI] (qY [aBy,HP,JO]):=⟨⟨HI,⟨JL,trivial⟩⟩,qH aKz (qH JP (qH M5 rK)),rE⟩
theorem aKX:rD Tryz.prog a3e:=by
 refine rN JV Tryz.func25 (c:=_) rfl (N:=13) (by kernel_rfl) (ts:=[(2,none)]) rfl (fun _ _=>rfl) ?_;intro O hs hrow;dsimp only[a3b,a3c,a3d,rG,qE,qK,rC,rI,Nat.reduceAdd] at hs hrow⊢;have hz:=hs;obtain⟨z0,hC0⟩:=aRi.1 hz
 try rw[rU hC0]
 clear hz hs;unfold HX at hC0;refine pO JV ?_;refine pO JV ?_;refine q9 ?_;refine pO JV ?_;refine rQ ?_;obtain⟨hgF2,hC0⟩:=pV hC0;obtain⟨y1,hy1,hC0⟩:=vC hC0;refine a0m aKe a0p (by rfl) (by rfl) hgF2 hy1 [(3,(.val .ref (some (0,0)),none))] (fun Z=>[(3,(.val .ref (some (0,0)),none)),(5,(.val .str Z.2,none))]) (fun x=>[.cells tI ((some (0,0)),(x,())) [(1,1)],.grow 5 1 (x.length)]) 1 ⟨[3],[(0,64),(1,65)]⟩ (by rfl) (by rfl) (by rfl) (by rfl) (aSx (by rfl)) (fun _=>aSx rfl) (fun _=>by rfl) (fun _=>rfl) (by rfl) ?_ ?_
 ·intro Z aA w1 hC1 hN1;refine⟨?_,?_⟩
  ·dsimp only[JH,U1,sX,qE,qK,Nat.reduceAdd,List.toList_toArray];refine rR JV ?_;exact a0n ⟨[3,5],[(0,0),(1,1)]⟩ (by rfl)
  ·unfold UX at hC1;dsimp only[qE,qK,Nat.reduceAdd] at hC1⊢;refine rQ ?_;obtain⟨aB,hv1,hw1,hC1⟩:=qU hC1
   try simp only[go_sem] at hw1
   refine rR JV ?_ (hp:=by exact⟨by first|rfl|trivial,(qT hv1)⟩) (h:=by simp only[go_sem,hw1];rfl)
   refine rT ?_;cases hC1;exact a0o ⟨[],[(0,0),(1,1)]⟩ _ rfl (by rfl)
 ·rintro aA rfl;dsimp only[qE,qK,Nat.reduceAdd] at hC0⊢;refine rT (pZ ?_);refine pO JV ?_ (hp:=by first|rfl|trivial)
  refine pW ?_;cases hC0;exact⟨[],by rfl,by rfl,by rfl⟩
attribute [irreducible] HX
def D6 (O:(List UInt8)):Option Unit:=if (((decide ((O.length:Int)≤(4000:Int)))==true)=true→((PP O)).isSome=true) then some (()) else none
section
variable (O:(List UInt8))
abbrev a3f:List pR:=[(.val .str O,none)]
abbrev a3g:List pQ:=[]
@[go_sem] def a3h:pX:=⟨[((D6 O)).isSome=true],[(.val .bool ((decide ((O.length:Int)≤(4000:Int)))&&(Lib.validD O)),none)],[]⟩
def aCO:List pR→List pQ→Option pX:=rJ (V:=(List UInt8)) (fun x=>a3f x) (fun x=>a3g) fun x=>a3h x
@[go_sem] theorem aQm:aCO (no_index (a3f O)) (no_index a3g)=some (a3h O):=rM (fun a0 b0 h1 h2=>by cases h1;cases h2;rfl) O
end
@[go_sem] abbrev PX:Nat×qS:=(161,⟨[.v],aCO,[],[],none⟩)
theorem a3i:qZ Tryz.prog [s9] (qY [aCa]):=⟨⟨sC,trivial⟩,qH aKJ rK,rE⟩
theorem UY:rD Tryz.prog PX:=by
 refine rN a3i Tryz.func161 (c:=_) rfl (N:=10) (by kernel_rfl) (ts:=[(2,none)]) rfl (fun _ _=>rfl) ?_;intro O hs hrow;dsimp only[a3f,a3g,a3h,rG,qE,qK,rC,rI,Nat.reduceAdd] at hs hrow⊢;have hz:=hs;obtain⟨z0,hC0⟩:=aRi.1 hz
 try rw[rU hC0]
 clear hz hs;unfold D6 at hC0;refine pO a3i ?_;obtain⟨hg1,hC0⟩:=pV hC0;refine pO a3i ?_ (hp:=by exact⟨fun hh=>hh,hg1,(fun hh=>s3 hh)⟩);refine pW ?_;cases hC0;exact⟨[],by rfl,by rfl,by rfl⟩
attribute [irreducible] D6
end
noncomputable section
def MF (O:qQ):Option Unit:=if pP ((O.1.length:Int)+(O.2.1.length:Int)) then if pP (((O.1.length:Int)+(O.2.1.length:Int))+(O.2.2.1.length:Int)) then if (((decide ((((O.1.length:Int)+(O.2.1.length:Int))+(O.2.2.1.length:Int))≤(6000:Int)))==true)=true→((yB O.2.2.2.1 O.2.2.2.2.2.2.1)).isSome=true) then if (((decide ((((O.1.length:Int)+(O.2.1.length:Int))+(O.2.2.1.length:Int))≤(6000:Int)))==true)=true→((yB O.2.2.2.2.1 ([]:List qB))).isSome=true) then if (((decide ((((O.1.length:Int)+(O.2.1.length:Int))+(O.2.2.1.length:Int))≤(6000:Int)))==true)=true→pP ((val (yB O.2.2.2.1 O.2.2.2.2.2.2.1))+(val (yB O.2.2.2.2.1 ([]:List qB))))) then some (()) else none else none else none else none else none
section
variable (O:qQ)
abbrev a3j:List pR:=[(.val sK O,none)]
abbrev a3k:List pQ:=[]
@[go_sem] def a3l:pX:=⟨[((MF O)).isSome=true],[(.val .bool ((decide ((((O.1.length:Int)+(O.2.1.length:Int))+(O.2.2.1.length:Int))≤(6000:Int)))&&(decide (((val (yB O.2.2.2.1 O.2.2.2.2.2.2.1))+(val (yB O.2.2.2.2.1 ([]:List qB))))≤(6000:Int)))),none)],[]⟩
def aCP:List pR→List pQ→Option pX:=rJ (V:=qQ) (fun x=>a3j x) (fun x=>a3k) fun x=>a3l x
@[go_sem] theorem aQn:aCP (no_index (a3j O)) (no_index a3k)=some (a3l O):=rM (fun a0 b0 h1 h2=>by cases h1;cases h2;rfl) O
end
@[go_sem] abbrev a3m:Nat×qS:=(35,⟨[.v],aCP,[],[],none⟩)
theorem a3n:qZ Tryz.prog [s9,wC,y4,AM] (qY [aBB]):=⟨⟨sC,⟨x5,⟨yU,⟨C6,trivial⟩⟩⟩⟩,qH aKA rK,rE⟩
theorem aKY:rD Tryz.prog a3m:=by
 refine rN a3n Tryz.func35 (c:=_) rfl (N:=27) (by kernel_rfl) (ts:=[(2,none)]) rfl (fun _ _=>rfl) ?_;intro O hs hrow;dsimp only[a3j,a3k,a3l,rG,qE,qK,rC,rI,Nat.reduceAdd] at hs hrow⊢;have hz:=hs;obtain⟨z0,hC0⟩:=aRi.1 hz
 try rw[rU hC0]
 clear hz hs;unfold MF at hC0;refine pO a3n ?_;obtain⟨hg1,hC0⟩:=pV hC0;obtain⟨hg2,hC0⟩:=pV hC0;obtain⟨hg3,hC0⟩:=pV hC0;obtain⟨hg4,hC0⟩:=pV hC0;obtain⟨hg5,hC0⟩:=pV hC0;refine uW a3n ?_ (hp:=by exact⟨hg1,hg2,fun hh=>hh,fun hh=>hh,fun hh=>hh,fun hh=>hh,hg3,fun hh=>hh,fun hh=>hh,hg4,fun hh=>hh,fun hh=>hh,hg5,fun hh=>hh,(fun hh=>s3 hh)⟩);refine pW ?_;cases hC0;exact⟨[],by rfl,by rfl,by rfl⟩
attribute [irreducible] MF
def PY (O:tY) (Z:tY):Option Unit:=if (((decide (O.1=Z.1))==true)=true→((wL O.2.1 Z.2.1)).isSome=true) then if ((((decide (O.1=Z.1))&&(val (wL O.2.1 Z.2.1)))==true)=true→((zJ O.2.2.1 Z.2.2.1)).isSome=true) then some (()) else none else none
section
variable (O:tY) (Z:tY)
abbrev a3o:List pR:=[(.val CZ O,none),(.val CZ Z,none)]
abbrev a3p:List pQ:=[]
@[go_sem] def a3q:pX:=⟨[((PY O Z)).isSome=true],[(.val .bool (((decide (O.1=Z.1))&&(val (wL O.2.1 Z.2.1)))&&(val (zJ O.2.2.1 Z.2.2.1))),none)],[]⟩
def aCQ:List pR→List pQ→Option pX:=rJ (V:=(tY×tY)) (fun x=>a3o x.1 x.2) (fun x=>a3p) fun x=>a3q x.1 x.2
@[go_sem] theorem aQo:aCQ (no_index (a3o O Z)) (no_index a3p)=some (a3q O Z):=rM (fun⟨a0,a1⟩ ⟨b0,b1⟩ h1 h2=>by cases h1;cases h2;rfl) (O,Z)
end
@[go_sem] abbrev aCR:Nat×qS:=(46,⟨[.v,.v],aCQ,[],[],none⟩)
theorem a3r:qZ Tryz.prog [s9,wC,y4,zH] (qY [a0V,a0Z]):=⟨⟨sC,⟨x5,⟨yU,⟨AL,trivial⟩⟩⟩⟩,qH aBD (qH aBF rK),rE⟩
theorem aKZ:rD Tryz.prog aCR:=by
 refine rN a3r Tryz.func46 (c:=_) rfl (N:=24) (by kernel_rfl) (ts:=[(4,none)]) rfl (fun _ _=>rfl) ?_;intro⟨O,Z⟩ hs hrow;dsimp only[a3o,a3p,a3q,rG,qE,qK,rC,rI,Nat.reduceAdd] at hs hrow⊢;have hz:=hs;obtain⟨z0,hC0⟩:=aRi.1 hz
 try rw[rU hC0]
 clear hz hs;unfold PY at hC0;refine pO a3r ?_;obtain⟨hg1,hC0⟩:=pV hC0;obtain⟨hg2,hC0⟩:=pV hC0;refine pO a3r ?_ (hp:=by exact⟨fun hh=>hh,fun hh=>hh,fun hh=>hh,fun hh=>hh,hg1,fun hh=>s3 hh,fun hh=>hh,fun hh=>hh,fun hh=>hh,fun hh=>hh,hg2,(fun hh=>s3 hh)⟩);refine pW ?_;cases hC0;exact⟨[],by rfl,by rfl,by rfl⟩
attribute [irreducible] PY
def UZ (O:(List qQ)) (Z:(List qQ)):Int→Option (Int⊕(Unit⊕Bool)):=fun aA=>if (decide (aA<(O.length:Int)))=true then if 0≤aA∧aA<(O.length:Int) then if 0≤aA∧aA<(Z.length:Int) then (M6 (qD sK O aA) (qD sK Z aA)).bind fun aB=>if (!(((((((decide (((qD sK O aA).1)=((qD sK Z aA).1)))&&(decide (((qD sK O aA).2.1)=((qD sK Z aA).2.1))))&&(decide (((qD sK O aA).2.2.1)=((qD sK Z aA).2.2.1))))&&(decide (((qD sK O aA).2.2.2.2.2.1)=((qD sK Z aA).2.2.2.2.2.1))))&&(val (wL ((qD sK O aA).2.2.2.1) ((qD sK Z aA).2.2.2.1))))&&(val (wL ((qD sK O aA).2.2.2.2.1) ((qD sK Z aA).2.2.2.2.1))))&&(val (zJ ((qD sK O aA).2.2.2.2.2.2.1) ((qD sK Z aA).2.2.2.2.2.2.1)))))=true then some (.inr (.inr (false))) else if pP (aA+(1:Int)) then some (.inl (aA+(1:Int))) else none else none else none else some (.inr (.inl ()))
def D7 (O:(List qQ)) (Z:(List qQ)):Option Bool:=if (!decide ((O.length:Int)=(Z.length:Int)))=true then some (false) else sN (qM (UZ O Z) (0:Int)) fun _=>some (true)
section
variable (O:(List qQ)) (Z:(List qQ))
abbrev a3s:List pR:=[(.val (.list sK) O,none),(.val (.list sK) Z,none)]
abbrev a3t:List pQ:=[]
@[go_sem] def a3u:pX:=⟨[((D7 O Z)).isSome=true],[(.val .bool (val (D7 O Z)),none)],[]⟩
def aCS:List pR→List pQ→Option pX:=rJ (V:=((List qQ)×(List qQ))) (fun x=>a3s x.1 x.2) (fun x=>a3t) fun x=>a3u x.1 x.2
@[go_sem] theorem aQp:aCS (no_index (a3s O Z)) (no_index a3t)=some (a3u O Z):=rM (fun⟨a0,a1⟩ ⟨b0,b1⟩ h1 h2=>by cases h1;cases h2;rfl) (O,Z)
end
@[go_sem] abbrev aCT:Nat×qS:=(47,⟨[.v,.v],aCS,[],[],none⟩)
theorem ED:qZ Tryz.prog [E3,AM] (qY [aBH]):=⟨⟨HJ,⟨C6,trivial⟩⟩,qH aKB rK,rE⟩
theorem aK0:rD Tryz.prog aCT:=by
 refine rN ED Tryz.func47 (c:=_) rfl (N:=27) (by kernel_rfl) (ts:=[(4,none)]) rfl (fun _ _=>rfl) ?_;intro⟨O,Z⟩ hs hrow;dsimp only[a3s,a3t,a3u,rG,qE,qK,rC,rI,Nat.reduceAdd] at hs hrow⊢;have hz:=hs;obtain⟨z0,hC0⟩:=aRi.1 hz
 try rw[rU hC0]
 clear hz hs;unfold D7 at hC0;refine pO ED ?_;refine q9 ?_;refine pO ED ?_;refine q6 hC0 (fun hC0 hc1=> ?_) (fun hC0 hc1=> ?_)
 ·refine pO ED ?_;refine pW (qI ?_);cases hC0;exact⟨[],by rfl,by rfl,by rfl⟩
 ·refine qJ (pZ (q9 ?_));refine pO ED ?_;refine rQ ?_;obtain⟨y1,hy1,hC0⟩:=vC hC0;refine uI 0 (fun s=> ∃v,y1= .inl v∧s=(fun _=>⟨[],[],0,27,0⟩) v) ?_ ?_
  ·refine uH hy1 (fun x=>⟨[(0,(.val (.list sK) O,none)),(1,(.val (.list sK) Z,none)),(5,(.val (.int .i64) x,none))],[],0,27,0⟩) ⟨[0,1,5],[]⟩ (by rfl) ?_;intro aA w1 n1 hC1 hN1;unfold UZ at hC1;dsimp only at hC1⊢;refine q9 ?_;refine pO ED ?_;refine q6 hC1 (fun hC1 hc2=> ?_) (fun hC1 hc2=> ?_)
   ·refine qJ (pZ (q9 (rQ ?_)));obtain⟨hg1,hC1⟩:=pV hC1;obtain⟨hg2,hC1⟩:=pV hC1;obtain⟨aB,hv3,hw3,hC1⟩:=qU hC1
    try simp only[go_sem] at hw3
    refine uW ED ?_ (hp:=by exact⟨hg1,hg2,(qT hv3)⟩) (h:=by simp only[go_sem,hw3];rfl);refine q6 hC1 (fun hC1 hc3=> ?_) (fun hC1 hc3=> ?_)
    ·refine pO ED ?_;refine pW (qW (qI (wB (wA (qW (qI ?_))))));cases hC1;cases hN1;dsimp only at hC0;cases hC0;exact⟨[],by rfl,by rfl,by rfl⟩
    ·refine qJ (rT (pZ ?_));obtain⟨hg4,hC1⟩:=pV hC1;refine rR ED ?_ (hp:=by exact hg4);cases hC1;exact tE ⟨⟨[0,1,5],[]⟩,_,by rfl,hN1⟩
   ·refine uG (uE (uK ?_));cases hC1;cases hN1;exact uJ ⟨⟨[],[]⟩,_,rfl,by rfl⟩
  ·rintro _ ⟨v,rfl,rfl⟩;dsimp only at hC0⊢;refine uF (pZ ?_);refine pO ED ?_;refine pW ?_;cases hC0;exact⟨[],by rfl,by rfl,by rfl⟩
attribute [irreducible] D7
end
noncomputable section
def aK1 (O:(List UInt8)):Int→Option (Int⊕Int):=fun Z=>if (((decide (Z<(O.length:Int)))==true)=true→0≤Z∧Z<(O.length:Int)) then if ((decide (Z<(O.length:Int)))&&(!decide ((qC O Z)=(10:Int))))=true then if pP (Z+(1:Int)) then some (.inl (Z+(1:Int))) else none else some (.inr Z) else none
def aK2 (O:(List UInt8)):Int→Option (Int⊕Int):=fun Z=>if (((decide (Z<(O.length:Int)))==true)=true→((UJ O Z ([42,47]:List UInt8))).isSome=true) then if ((decide (Z<(O.length:Int)))&&(!((decide ((([42,47]:List UInt8).length:Int)≤((O.length:Int)-Z)))&&(decide ((q7 O Z (Z+(([42,47]:List UInt8).length:Int)))=([42,47]:List UInt8))))))=true then if pP (Z+(1:Int)) then some (.inl (Z+(1:Int))) else none else some (.inr Z) else none
def aK3 (O:(List UInt8)):Int→Option (Int⊕(Int⊕Int)):=fun Z=>if (decide (Z<(O.length:Int)))=true then if 0≤Z∧Z<(O.length:Int) then if (((decide ((qC O Z)=(32:Int)))==false)=true→0≤Z∧Z<(O.length:Int)) then if ((((decide ((qC O Z)=(32:Int)))||(decide ((qC O Z)=(9:Int))))==false)=true→0≤Z∧Z<(O.length:Int)) then if (((((decide ((qC O Z)=(32:Int)))||(decide ((qC O Z)=(9:Int))))||(decide ((qC O Z)=(10:Int))))==false)=true→0≤Z∧Z<(O.length:Int)) then if ((((decide ((qC O Z)=(32:Int)))||(decide ((qC O Z)=(9:Int))))||(decide ((qC O Z)=(10:Int))))||(decide ((qC O Z)=(13:Int))))=true then if pP (Z+(1:Int)) then some (.inl (Z+(1:Int))) else none else (UJ O Z ([47,47]:List UInt8)).bind fun aA=>if ((decide ((([47,47]:List UInt8).length:Int)≤((O.length:Int)-Z)))&&(decide ((q7 O Z (Z+(([47,47]:List UInt8).length:Int)))=([47,47]:List UInt8))))=true then rL (qM (aK1 O) Z) fun aB=>some (.inl aB) else (UJ O Z ([47,42]:List UInt8)).bind fun aC=>if ((decide ((([47,42]:List UInt8).length:Int)≤((O.length:Int)-Z)))&&(decide ((q7 O Z (Z+(([47,42]:List UInt8).length:Int)))=([47,42]:List UInt8))))=true then if pP (Z+(2:Int)) then rL (qM (aK2 O) (Z+(2:Int))) fun aD=>if (decide ((O.length:Int)≤aD))=true then some (.inr (.inr (Z))) else if pP (aD+(2:Int)) then some (.inl (aD+(2:Int))) else none else none else some (.inr (.inr (Z))) else none else none else none else none else some (.inr (.inl Z))
def aCU (O:(List UInt8)) (Z:Int):Option Int:=sN (qM (aK3 O) Z) fun aA=>some (aA)
attribute [irreducible] aCU
def V0 (O:(List UInt8)):Int→Option (Int⊕(Unit⊕Bool)):=fun Z=>if (decide (Z<(O.length:Int)))=true then if 0≤Z∧Z<(O.length:Int) then if ((((!((decide ((97:Int)≤(qC O Z)))&&(decide ((qC O Z)≤(122:Int)))))&&(!((decide ((48:Int)≤(qC O Z)))&&(decide ((qC O Z)≤(57:Int))))))&&(!decide ((qC O Z)=(45:Int))))&&((decide ((qC O Z)<(65:Int)))||(decide ((90:Int)<(qC O Z)))))=true then some (.inr (.inr (false))) else if pP (Z+(1:Int)) then some (.inl (Z+(1:Int))) else none else none else some (.inr (.inl ()))
def MG (O:(List UInt8)):Option Bool:=sN (qM (V0 O) (0:Int)) fun _=>some (((decide ((1:Int)≤(O.length:Int)))&&(decide ((O.length:Int)≤(40:Int)))))
attribute [irreducible] MG
def PZ (O:(List UInt8)):Int→Option (Int⊕(Unit⊕Bool)):=fun Z=>if (decide (Z<(O.length:Int)))=true then if 0≤Z∧Z<(O.length:Int) then if (((((!((decide ((97:Int)≤(qC O Z)))&&(decide ((qC O Z)≤(122:Int)))))&&(!((decide ((48:Int)≤(qC O Z)))&&(decide ((qC O Z)≤(57:Int))))))&&(!decide ((qC O Z)=(45:Int))))&&(!decide ((qC O Z)=(95:Int))))&&(!decide ((qC O Z)=(46:Int))))=true then some (.inr (.inr (false))) else if pP (Z+(1:Int)) then some (.inl (Z+(1:Int))) else none else none else some (.inr (.inl ()))
def yC (O:(List UInt8)):Option Bool:=if ((((decide ((O.length:Int)<(1:Int)))||(decide ((40:Int)<(O.length:Int))))==false)=true→0≤(0:Int)∧(0:Int)<(O.length:Int)) then if (((decide ((O.length:Int)<(1:Int)))||(decide ((40:Int)<(O.length:Int))))||(!((decide ((97:Int)≤(qC O (0:Int))))&&(decide ((qC O (0:Int))≤(122:Int))))))=true then some (false) else sN (qM (PZ O) (1:Int)) fun _=>some (true) else none
section
variable (O:(List UInt8))
abbrev a3v:List pR:=[(.val .str O,none)]
abbrev a3w:List pQ:=[]
@[go_sem] def a3x:pX:=⟨[((yC O)).isSome=true],[(.val .bool (val (yC O)),none)],[]⟩
def aCV:List pR→List pQ→Option pX:=rJ (V:=(List UInt8)) (fun x=>a3v x) (fun x=>a3w) fun x=>a3x x
@[go_sem] theorem aQq:aCV (no_index (a3v O)) (no_index a3w)=some (a3x O):=rM (fun a0 b0 h1 h2=>by cases h1;cases h2;rfl) O
end
@[go_sem] abbrev a3y:Nat×qS:=(116,⟨[.v],aCV,[],[],none⟩)
theorem D8:qZ Tryz.prog [s9] (qY [aBW,aBZ]):=⟨⟨sC,trivial⟩,qH aKE (qH aKF rK),rE⟩
theorem aCW:rD Tryz.prog a3y:=by
 refine rN D8 Tryz.func116 (c:=_) rfl (N:=48) (by kernel_rfl) (ts:=[(2,none)]) rfl (fun _ _=>rfl) ?_;intro O hs hrow;dsimp only[a3v,a3w,a3x,rG,qE,qK,rC,rI,Nat.reduceAdd] at hs hrow⊢;have hz:=hs;obtain⟨z0,hC0⟩:=aRi.1 hz
 try rw[rU hC0]
 clear hz hs;unfold yC at hC0;refine pO D8 ?_;refine q9 ?_;obtain⟨hg1,hC0⟩:=pV hC0;refine pO D8 ?_ (hp:=by exact⟨fun hh=>hh,fun hh=>hh,fun hh=>uB hh,fun hh=>hh,hg1,fun hh=>hh,fun hh=>hh,(fun hh=>uB hh)⟩);refine q6 hC0 (fun hC0 hc1=> ?_) (fun hC0 hc1=> ?_)
 ·refine pO D8 ?_;refine pW (qI ?_);cases hC0;exact⟨[],by rfl,by rfl,by rfl⟩
 ·refine qJ (pZ (q9 ?_));refine pO D8 ?_;refine rQ ?_;obtain⟨y1,hy1,hC0⟩:=vC hC0;refine uI 0 (fun s=> ∃v,y1= .inl v∧s=(fun _=>⟨[],[],0,48,0⟩) v) ?_ ?_
  ·refine uH hy1 (fun x=>⟨[(0,(.val .str O,none)),(3,(.val (.int .i64) x,none))],[],0,48,0⟩) ⟨[0,3],[]⟩ (by rfl) ?_;intro Z w1 n1 hC1 hN1;unfold PZ at hC1;dsimp only at hC1⊢;refine q9 ?_;refine pO D8 ?_;refine q6 hC1 (fun hC1 hc2=> ?_) (fun hC1 hc2=> ?_)
   ·refine qJ (pZ (q9 (rQ ?_)));obtain⟨hg2,hC1⟩:=pV hC1;refine pO D8 ?_ (hp:=by exact hg2);refine pO D8 ?_ (hp:=by exact⟨fun hh=>hh,fun hh=>hh,fun hh=>s3 hh,fun hh=>hh,fun hh=>s3 hh,fun hh=>hh,fun hh=>s3 hh,fun hh=>hh,(fun hh=>s3 hh)⟩);refine q6 hC1 (fun hC1 hc3=> ?_) (fun hC1 hc3=> ?_)
    ·refine pO D8 ?_;refine pW (qW (qI (wB (wA (qW (qI ?_))))));cases hC1;cases hN1;dsimp only at hC0;cases hC0;exact⟨[],by rfl,by rfl,by rfl⟩
    ·refine qJ (rT (pZ ?_));obtain⟨hg3,hC1⟩:=pV hC1;refine rR D8 ?_ (hp:=by exact hg3);cases hC1;exact tE ⟨⟨[0,3],[]⟩,_,by rfl,hN1⟩
   ·refine uG (uE (uK ?_));cases hC1;cases hN1;exact uJ ⟨⟨[],[]⟩,_,rfl,by rfl⟩
  ·rintro _ ⟨v,rfl,rfl⟩;dsimp only at hC0⊢;refine uF (pZ ?_);refine pO D8 ?_;refine pW ?_;cases hC0;exact⟨[],by rfl,by rfl,by rfl⟩
attribute [irreducible] yC
end
noncomputable section
def JW (O:(List UInt8)) (Z:(List UInt8)):Option Unit:=(FU O Z).bind fun aA=>some (())
section
variable (O:(List UInt8)) (Z:(List UInt8))
abbrev a3z:List pR:=[(.val .str O,none),(.val .str Z,none)]
abbrev a3A:List pQ:=[]
@[go_sem] def a3B:pX:=⟨[((JW O Z)).isSome=true],[(.val .bool ((decide ((Z.length:Int)≤(O.length:Int)))&&(decide ((q7 O (0:Int) (Z.length:Int))=Z))),none)],[]⟩
def aCX:List pR→List pQ→Option pX:=rJ (V:=((List UInt8)×(List UInt8))) (fun x=>a3z x.1 x.2) (fun x=>a3A) fun x=>a3B x.1 x.2
@[go_sem] theorem aQr:aCX (no_index (a3z O Z)) (no_index a3A)=some (a3B O Z):=rM (fun⟨a0,a1⟩ ⟨b0,b1⟩ h1 h2=>by cases h1;cases h2;rfl) (O,Z)
end
@[go_sem] abbrev a3C:Nat×qS:=(136,⟨[.v,.v],aCX,[],[],none⟩)
theorem a3D:qZ Tryz.prog [] (qY [US]):=⟨trivial,qH a1F rK,rE⟩
theorem aCY:rD Tryz.prog a3C:=by
 refine rN a3D Tryz.func136 (c:=_) rfl (N:=8) (by kernel_rfl) (ts:=[(4,none)]) rfl (fun _ _=>rfl) ?_;intro⟨O,Z⟩ hs hrow;dsimp only[a3z,a3A,a3B,rG,qE,qK,rC,rI,Nat.reduceAdd] at hs hrow⊢;have hz:=hs;obtain⟨z0,hC0⟩:=aRi.1 hz
 try rw[rU hC0]
 clear hz hs;unfold JW at hC0;refine pO a3D ?_;obtain⟨aA,hv1,hw1,hC0⟩:=qU hC0
 try simp only[go_sem] at hw1
 refine pO a3D ?_ (hp:=by exact(qT hv1)) (h:=by simp only[go_sem,hw1];rfl);refine pW ?_;cases hC0;exact⟨[],by rfl,by rfl,by rfl⟩
attribute [irreducible] JW
def EE (O:(List UInt8)) (Z:(List UInt8)):Option ((List UInt8)×Bool):=(JR O Z).bind fun aA=>some ((aA.1,aA.2))
section
variable (O:(List UInt8)) (Z:(List UInt8))
abbrev a3E:List pR:=[(.val .str O,none),(.val .str Z,none)]
abbrev a3F:List pQ:=[]
@[go_sem] def a3G:pX:=⟨[((EE O Z)).isSome=true],[(.val .str ((val (EE O Z)).1),none),(.val .bool ((val (EE O Z)).2),none)],[]⟩
def aCZ:List pR→List pQ→Option pX:=rJ (V:=((List UInt8)×(List UInt8))) (fun x=>a3E x.1 x.2) (fun x=>a3F) fun x=>a3G x.1 x.2
@[go_sem] theorem aQs:aCZ (no_index (a3E O Z)) (no_index a3F)=some (a3G O Z):=rM (fun⟨a0,a1⟩ ⟨b0,b1⟩ h1 h2=>by cases h1;cases h2;rfl) (O,Z)
end
@[go_sem] abbrev a3H:Nat×qS:=(137,⟨[.v,.v],aCZ,[],[],none⟩)
theorem a3I:qZ Tryz.prog [] (qY [aB2]):=⟨trivial,qH aKG rK,rE⟩
theorem aC0:rD Tryz.prog a3H:=by
 refine rN a3I Tryz.func137 (c:=_) rfl (N:=11) (by kernel_rfl) (ts:=[(4,none),(5,none)]) rfl (fun _ _=>rfl) ?_;intro⟨O,Z⟩ hs hrow;dsimp only[a3E,a3F,a3G,rG,qE,qK,rC,rI,Nat.reduceAdd] at hs hrow⊢;have hz:=hs;obtain⟨z0,hC0⟩:=aRi.1 hz
 try rw[rU hC0]
 clear hz hs;unfold EE at hC0;refine pO a3I ?_;obtain⟨aA,hv1,hw1,hC0⟩:=qU hC0
 try simp only[go_sem] at hw1
 refine pO a3I ?_ (hp:=by exact(qT hv1)) (h:=by simp only[go_sem,hw1];rfl);refine pW ?_;cases hC0;exact⟨[],by rfl,by rfl,by rfl⟩
attribute [irreducible] EE
def aC1 (O:Int) (Z:(List UInt8)) (aA:Int):Int→Option (Int⊕(Unit⊕Int)):=fun aB=>if (decide (aB<(Z.length:Int)))=true then if 0≤aB∧aB<(Z.length:Int) then if (decide ((qC Z aB)=aA))=true then some (.inr (.inr (aB))) else if (((!decide (O=(4:Int)))==true)=true→0≤aB∧aB<(Z.length:Int)) then if ((!decide (O=(4:Int)))&&(decide ((qC Z aB)=(92:Int))))=true then if pP (aB+(1:Int)) then if pP ((aB+(1:Int))+(1:Int)) then some (.inl ((aB+(1:Int))+(1:Int))) else none else none else if pP (aB+(1:Int)) then some (.inl (aB+(1:Int))) else none else none else none else some (.inr (.inl ()))
def HY (O:Int) (Z:(List UInt8)) (aA:Int):Option Int:=if (!((decide ((1:Int)≤O))&&(decide (O≤(4:Int)))))=true then some ((-1:Int)) else sN (qM (aC1 O Z aA) (0:Int)) fun _=>some ((-1:Int))
section
variable (O:Int) (Z:(List UInt8)) (aA:Int)
abbrev a3J:List pR:=[(.val (.int .i64) O,none),(.val .str Z,none),(.val (.int .u8) aA,none)]
abbrev a3K:List pQ:=[]
@[go_sem] def a3L:pX:=⟨[((HY O Z aA)).isSome=true],[(.val (.int .i64) (val (HY O Z aA)),none)],[]⟩
def aC2:List pR→List pQ→Option pX:=rJ (V:=(Int×(List UInt8)×Int)) (fun x=>a3J x.1 x.2.1 x.2.2) (fun x=>a3K) fun x=>a3L x.1 x.2.1 x.2.2
@[go_sem] theorem aQt:aC2 (no_index (a3J O Z aA)) (no_index a3K)=some (a3L O Z aA):=rM (fun⟨a0,a1,a2⟩ ⟨b0,b1,b2⟩ h1 h2=>by cases h1;cases h2;rfl) (O,Z,aA)
end
@[go_sem] abbrev aC3:Nat×qS:=(139,⟨[.v,.v,.v],aC2,[],[],none⟩)
theorem BJ:qZ Tryz.prog [s9] (qY [UI]):=⟨⟨sC,trivial⟩,qH a1l rK,rE⟩
theorem aK4:rD Tryz.prog aC3:=by
 refine rN BJ Tryz.func139 (c:=_) rfl (N:=33) (by kernel_rfl) (ts:=[(6,none)]) rfl (fun _ _=>rfl) ?_;intro⟨O,Z,aA⟩ hs hrow;dsimp only[a3J,a3K,a3L,rG,qE,qK,rC,rI,Nat.reduceAdd] at hs hrow⊢;have hz:=hs;obtain⟨z0,hC0⟩:=aRi.1 hz
 try rw[rU hC0]
 clear hz hs;unfold HY at hC0;refine pO BJ ?_;refine q9 ?_;refine pO BJ ?_;refine q6 hC0 (fun hC0 hc1=> ?_) (fun hC0 hc1=> ?_)
 ·refine pO BJ ?_;refine pW (qI ?_);cases hC0;exact⟨[],by rfl,by rfl,by rfl⟩
 ·refine qJ (pZ (q9 ?_));refine pO BJ ?_;refine rQ ?_;obtain⟨y1,hy1,hC0⟩:=vC hC0;refine uI 0 (fun s=> ∃v,y1= .inl v∧s=(fun _=>⟨[],[],0,33,0⟩) v) ?_ ?_
  ·refine uH hy1 (fun x=>⟨[(0,(.val (.int .i64) O,none)),(1,(.val .str Z,none)),(2,(.val (.int .u8) aA,none)),(7,(.val (.int .i64) x,none))],[],0,33,0⟩) ⟨[0,1,2,7],[]⟩ (by rfl) ?_;intro aB w1 n1 hC1 hN1;unfold aC1 at hC1;dsimp only at hC1⊢;refine q9 ?_;refine pO BJ ?_;refine q6 hC1 (fun hC1 hc2=> ?_) (fun hC1 hc2=> ?_)
   ·refine qJ (pZ (q9 (rQ (q9 ?_))));obtain⟨hg1,hC1⟩:=pV hC1;refine pO BJ ?_ (hp:=by exact hg1);refine q6 hC1 (fun hC1 hc3=> ?_) (fun hC1 hc3=> ?_)
    ·refine pO BJ ?_;refine pW (qI (qW (qI (wB (wA (qW (qI ?_)))))));cases hC1;cases hN1;dsimp only at hC0;cases hC0;exact⟨[],by rfl,by rfl,by rfl⟩
    ·refine qJ (pZ ?_);obtain⟨hg2,hC1⟩:=pV hC1;refine pO BJ ?_ (hp:=by exact⟨fun hh=>hh,fun hh=>hh,hg2,fun hh=>hh,(fun hh=>s3 hh)⟩);refine q6 hC1 (fun hC1 hc4=> ?_) (fun hC1 hc4=> ?_)
     ·obtain⟨hg3,hC1⟩:=pV hC1;refine rR BJ ?_ (hp:=by exact hg3);refine rT (pZ ?_);obtain⟨hg4,hC1⟩:=pV hC1;refine rR BJ ?_ (hp:=by exact hg4);cases hC1;exact tE ⟨⟨[0,1,2,7],[]⟩,_,by rfl,hN1⟩
     ·refine qJ (rT (pZ ?_));obtain⟨hg5,hC1⟩:=pV hC1;refine rR BJ ?_ (hp:=by exact hg5);cases hC1;exact tE ⟨⟨[0,1,2,7],[]⟩,_,by rfl,hN1⟩
   ·refine uG (uE (uK ?_));cases hC1;cases hN1;exact uJ ⟨⟨[],[]⟩,_,rfl,by rfl⟩
  ·rintro _ ⟨v,rfl,rfl⟩;dsimp only at hC0⊢;refine uF (pZ ?_);refine pO BJ ?_;refine pW ?_;cases hC0;exact⟨[],by rfl,by rfl,by rfl⟩
attribute [irreducible] HY
def JX (O:(List UInt8)) (Z:(List UInt8)):Option (List UInt8):=(MA O Z).bind fun aA=>some (aA)
section
variable (O:(List UInt8)) (Z:(List UInt8))
abbrev a3M:List pR:=[(.val .str O,none),(.val .str Z,none)]
abbrev a3N:List pQ:=[]
@[go_sem] def a3O:pX:=⟨[((JX O Z)).isSome=true],[(.val .str (val (JX O Z)),none)],[]⟩
def aC4:List pR→List pQ→Option pX:=rJ (V:=((List UInt8)×(List UInt8))) (fun x=>a3M x.1 x.2) (fun x=>a3N) fun x=>a3O x.1 x.2
@[go_sem] theorem aQu:aC4 (no_index (a3M O Z)) (no_index a3N)=some (a3O O Z):=rM (fun⟨a0,a1⟩ ⟨b0,b1⟩ h1 h2=>by cases h1;cases h2;rfl) (O,Z)
end
@[go_sem] abbrev aC5:Nat×qS:=(140,⟨[.v,.v],aC4,[],[],none⟩)
theorem a3P:qZ Tryz.prog [] (qY [aB4]):=⟨trivial,qH aKH rK,rE⟩
theorem aK5:rD Tryz.prog aC5:=by
 refine rN a3P Tryz.func140 (c:=_) rfl (N:=8) (by kernel_rfl) (ts:=[(4,none)]) rfl (fun _ _=>rfl) ?_;intro⟨O,Z⟩ hs hrow;dsimp only[a3M,a3N,a3O,rG,qE,qK,rC,rI,Nat.reduceAdd] at hs hrow⊢;have hz:=hs;obtain⟨z0,hC0⟩:=aRi.1 hz
 try rw[rU hC0]
 clear hz hs;unfold JX at hC0;refine pO a3P ?_;obtain⟨aA,hv1,hw1,hC0⟩:=qU hC0
 try simp only[go_sem] at hw1
 refine pO a3P ?_ (hp:=by exact(qT hv1)) (h:=by simp only[go_sem,hw1];rfl);refine pW ?_;cases hC0;exact⟨[],by rfl,by rfl,by rfl⟩
attribute [irreducible] JX
def MH (O:(List UInt8)) (Z:(List UInt8)):Option (List UInt8):=(PN O Z).bind fun aA=>if ((decide ((Z.length:Int)≤(O.length:Int)))&&(decide ((q7 O ((O.length:Int)- (Z.length:Int)) (O.length:Int))=Z)))=true then if pP ((O.length:Int)- (Z.length:Int)) then if 0≤(0:Int)∧(0:Int)≤((O.length:Int)- (Z.length:Int))∧((O.length:Int)- (Z.length:Int))≤(O.length:Int) then some ((q7 O (0:Int) ((O.length:Int)- (Z.length:Int)))) else none else none else some (O)
section
variable (O:(List UInt8)) (Z:(List UInt8))
abbrev a3Q:List pR:=[(.val .str O,none),(.val .str Z,none)]
abbrev a3R:List pQ:=[]
@[go_sem] def a3S:pX:=⟨[((MH O Z)).isSome=true],[(.val .str (val (MH O Z)),none)],[]⟩
def aC6:List pR→List pQ→Option pX:=rJ (V:=((List UInt8)×(List UInt8))) (fun x=>a3Q x.1 x.2) (fun x=>a3R) fun x=>a3S x.1 x.2
@[go_sem] theorem aQv:aC6 (no_index (a3Q O Z)) (no_index a3R)=some (a3S O Z):=rM (fun⟨a0,a1⟩ ⟨b0,b1⟩ h1 h2=>by cases h1;cases h2;rfl) (O,Z)
end
@[go_sem] abbrev aC7:Nat×qS:=(146,⟨[.v,.v],aC6,[],[],none⟩)
theorem Q0:qZ Tryz.prog [s9] (qY [aB6]):=⟨⟨sC,trivial⟩,qH aKI rK,rE⟩
theorem aK6:rD Tryz.prog aC7:=by
 refine rN Q0 Tryz.func146 (c:=_) rfl (N:=16) (by kernel_rfl) (ts:=[(4,none)]) rfl (fun _ _=>rfl) ?_;intro⟨O,Z⟩ hs hrow;dsimp only[a3Q,a3R,a3S,rG,qE,qK,rC,rI,Nat.reduceAdd] at hs hrow⊢;have hz:=hs;obtain⟨z0,hC0⟩:=aRi.1 hz
 try rw[rU hC0]
 clear hz hs;unfold MH at hC0;refine pO Q0 ?_;refine q9 ?_;obtain⟨aA,hv1,hw1,hC0⟩:=qU hC0
 try simp only[go_sem] at hw1
 refine pO Q0 ?_ (hp:=by exact(qT hv1)) (h:=by simp only[go_sem,hw1];rfl);refine q6 hC0 (fun hC0 hc1=> ?_) (fun hC0 hc1=> ?_)
 ·obtain⟨hg2,hC0⟩:=pV hC0;obtain⟨hg3,hC0⟩:=pV hC0;refine pO Q0 ?_ (hp:=by exact⟨hg2,hg3⟩);refine pW (qI ?_);cases hC0;exact⟨[],by rfl,by rfl,by rfl⟩
 ·refine qJ (pZ ?_);refine pO Q0 ?_;refine pW ?_;cases hC0;exact⟨[],by rfl,by rfl,by rfl⟩
attribute [irreducible] MH
def MI (O:(List UInt8)):Option ((List UInt8)×(List UInt8)×Bool):=(HU (1:Int) O (61:Int)).bind fun Z=>if (decide (Z<(0:Int)))=true then some ((([]:List UInt8),([]:List UInt8),false)) else if 0≤(0:Int)∧(0:Int)≤Z∧Z≤(O.length:Int) then if pP (Z+(1:Int)) then if 0≤(Z+(1:Int))∧(Z+(1:Int))≤(O.length:Int)∧(O.length:Int)≤(O.length:Int) then if (((decide ((0:Int)<((q7 O (0:Int) Z).length:Int)))==true)=true→pP (((q7 O (0:Int) Z).length:Int)- (1:Int))) then if (((decide ((0:Int)<((q7 O (0:Int) Z).length:Int)))==true)=true→0≤(((q7 O (0:Int) Z).length:Int)- (1:Int))∧(((q7 O (0:Int) Z).length:Int)- (1:Int))<((q7 O (0:Int) Z).length:Int)) then rL (σ:=(List UInt8)) (if ((decide ((0:Int)<((q7 O (0:Int) Z).length:Int)))&&(decide ((qC (q7 O (0:Int) Z) (((q7 O (0:Int) Z).length:Int)- (1:Int)))=(32:Int))))=true then if pP (((q7 O (0:Int) Z).length:Int)- (1:Int)) then if 0≤(0:Int)∧(0:Int)≤(((q7 O (0:Int) Z).length:Int)- (1:Int))∧(((q7 O (0:Int) Z).length:Int)- (1:Int))≤((q7 O (0:Int) Z).length:Int) then some ((q7 (q7 O (0:Int) Z) (0:Int) (((q7 O (0:Int) Z).length:Int)- (1:Int)))) else none else none else some ((q7 O (0:Int) Z)) ) fun aA=>(EA (q7 O (Z+(1:Int)) (O.length:Int)) ([32]:List UInt8)).bind fun aB=>if ((decide ((([32]:List UInt8).length:Int)≤((q7 O (Z+(1:Int)) (O.length:Int)).length:Int)))&&(decide ((q7 (q7 O (Z+(1:Int)) (O.length:Int)) (0:Int) (([32]:List UInt8).length:Int))=([32]:List UInt8))))=true then if 0≤(1:Int)∧(1:Int)≤((q7 O (Z+(1:Int)) (O.length:Int)).length:Int)∧((q7 O (Z+(1:Int)) (O.length:Int)).length:Int)≤((q7 O (Z+(1:Int)) (O.length:Int)).length:Int) then some ((aA,(q7 (q7 O (Z+(1:Int)) (O.length:Int)) (1:Int) ((q7 O (Z+(1:Int)) (O.length:Int)).length:Int)),true)) else none else some ((aA,(q7 O (Z+(1:Int)) (O.length:Int)),true)) else none else none else none else none else none
attribute [irreducible] MI
def D9 (O:(List (List UInt8))) (Z:(List UInt8)):Option Bool:=(CA O Z).bind fun aA=>some ((decide ((0:Int)≤aA)))
section
variable (O:(List (List UInt8))) (Z:(List UInt8))
abbrev a3T:List pR:=[(.val (.list .str) O,none),(.val .str Z,none)]
abbrev a3U:List pQ:=[]
@[go_sem] def a3V:pX:=⟨[((D9 O Z)).isSome=true],[(.val .bool (val (D9 O Z)),none)],[]⟩
def aC8:List pR→List pQ→Option pX:=rJ (V:=((List (List UInt8))×(List UInt8))) (fun x=>a3T x.1 x.2) (fun x=>a3U) fun x=>a3V x.1 x.2
@[go_sem] theorem aQw:aC8 (no_index (a3T O Z)) (no_index a3U)=some (a3V O Z):=rM (fun⟨a0,a1⟩ ⟨b0,b1⟩ h1 h2=>by cases h1;cases h2;rfl) (O,Z)
end
@[go_sem] abbrev aC9:Nat×qS:=(186,⟨[.v,.v],aC8,[],[],none⟩)
theorem a3W:qZ Tryz.prog [] (qY [UT]):=⟨trivial,qH aB8 rK,rE⟩
theorem aK7:rD Tryz.prog aC9:=by
 refine rN a3W Tryz.func186 (c:=_) rfl (N:=9) (by kernel_rfl) (ts:=[(4,none)]) rfl (fun _ _=>rfl) ?_;intro⟨O,Z⟩ hs hrow;dsimp only[a3T,a3U,a3V,rG,qE,qK,rC,rI,Nat.reduceAdd] at hs hrow⊢;have hz:=hs;obtain⟨z0,hC0⟩:=aRi.1 hz
 try rw[rU hC0]
 clear hz hs;unfold D9 at hC0;refine pO a3W ?_;obtain⟨aA,hv1,hw1,hC0⟩:=qU hC0
 try simp only[go_sem] at hw1
 refine pO a3W ?_ (hp:=by exact(qT hv1)) (h:=by simp only[go_sem,hw1];rfl);refine pW ?_;cases hC0;exact⟨[],by rfl,by rfl,by rfl⟩
attribute [irreducible] D9
end
noncomputable section
def G0 (O:Int) (Z:Int) (aA:Bool):Option (List UInt8):=rL (σ:=(List UInt8)) (if (decide (O=(1:Int)))=true then some (([61,58,35,33]:List UInt8)) else if (decide (O=(2:Int)))=true then some (([34]:List UInt8)) else if (decide (O=(3:Int)))=true then some (([34,123,125]:List UInt8)) else some (([]:List UInt8)) ) fun aB=>if (decide (Z=(92:Int)))=true then some (([92,92]:List UInt8)) else if (decide (Z=(10:Int)))=true then some (([92,110]:List UInt8)) else if (decide (Z=(13:Int)))=true then some (([92,114]:List UInt8)) else if (decide (Z=(9:Int)))=true then some (([92,116]:List UInt8)) else rL (σ:=Bool) (if (decide ((0:Int)≤(uX aB Z)))=true then some ((decide ((0:Int)≤(uX aB Z)))) else some ((((decide (O=(1:Int)))&&aA)&&(decide (Z=(32:Int))))) ) fun aC=>if aC=true then if ((([92]:List UInt8)++(sI ([Z]:List Int))).length:Int)≤9223372036854775807 then some ((([92]:List UInt8)++(sI ([Z]:List Int)))) else none else if (((decide (Z<(32:Int)))||(decide (Z=(127:Int))))&&(decide (O=(3:Int))))=true then (PQ Z (4:Int)).bind fun aD=>if ((([92,117]:List UInt8)++((JK ([48]:List UInt8) ((4:Int)- ((wK (IntKind.wrap .i64 Z) (16:Int)).length:Int)))++(wK (IntKind.wrap .i64 Z) (16:Int)))).length:Int)≤9223372036854775807 then some ((([92,117]:List UInt8)++((JK ([48]:List UInt8) ((4:Int)- ((wK (IntKind.wrap .i64 Z) (16:Int)).length:Int)))++(wK (IntKind.wrap .i64 Z) (16:Int))))) else none else if ((decide (Z<(32:Int)))||(decide (Z=(127:Int))))=true then (PQ Z (2:Int)).bind fun aE=>if ((([92,120]:List UInt8)++((JK ([48]:List UInt8) ((2:Int)- ((wK (IntKind.wrap .i64 Z) (16:Int)).length:Int)))++(wK (IntKind.wrap .i64 Z) (16:Int)))).length:Int)≤9223372036854775807 then some ((([92,120]:List UInt8)++((JK ([48]:List UInt8) ((2:Int)- ((wK (IntKind.wrap .i64 Z) (16:Int)).length:Int)))++(wK (IntKind.wrap .i64 Z) (16:Int))))) else none else some ((sI ([Z]:List Int)))
section
variable (O:Int) (Z:Int) (aA:Bool)
abbrev a3X:List pR:=[(.val (.int .i64) O,none),(.val (.int .u8) Z,none),(.val .bool aA,none)]
abbrev a3Y:List pQ:=[]
@[go_sem] def a3Z:pX:=⟨[((G0 O Z aA)).isSome=true],[(.val .str (val (G0 O Z aA)),none)],[]⟩
def aDa:List pR→List pQ→Option pX:=rJ (V:=(Int×Int×Bool)) (fun x=>a3X x.1 x.2.1 x.2.2) (fun x=>a3Y) fun x=>a3Z x.1 x.2.1 x.2.2
@[go_sem] theorem aQx:aDa (no_index (a3X O Z aA)) (no_index a3Y)=some (a3Z O Z aA):=rM (fun⟨a0,a1,a2⟩ ⟨b0,b1,b2⟩ h1 h2=>by cases h1;cases h2;rfl) (O,Z,aA)
end
@[go_sem] abbrev aDb:Nat×qS:=(166,⟨[.v,.v,.v],aDa,[],[],none⟩)
theorem vN:qZ Tryz.prog [D1,s9,E4] (qY [PA,aCd,aCf]):=⟨⟨FK,⟨sC,⟨HK,trivial⟩⟩⟩,qH UC (qH aKK (qH aKL rK)),rE⟩
theorem aK8:rD Tryz.prog aDb:=by
 refine rN vN Tryz.func166 (c:=_) rfl (N:=64) (by kernel_rfl) (ts:=[(6,none)]) rfl (fun _ _=>rfl) ?_;intro⟨O,Z,aA⟩ hs hrow;dsimp only[a3X,a3Y,a3Z,rG,qE,qK,rC,rI,Nat.reduceAdd] at hs hrow⊢;have hz:=hs;obtain⟨z0,hC0⟩:=aRi.1 hz
 try rw[rU hC0]
 clear hz hs;unfold G0 at hC0;refine pO vN ?_;refine pO vN ?_;refine q9 ?_;refine pO vN ?_;obtain⟨aB,hC1,hC0⟩:=pS hC0;refine zX (fun s=>s=(fun x=>⟨[(0,(.val (.int .i64) O,none)),(1,(.val (.int .u8) Z,none)),(2,(.val .bool aA,none)),(7,(.val .str x,none))],[],0,64,0⟩) aB) ?_ ?_
 ·refine rQ ?_;refine pO vN ?_;refine q6 hC1 (fun hC1 hc1=> ?_) (fun hC1 hc1=> ?_)
  ·refine rR vN ?_;refine rT ?_;cases hC1;exact tK ⟨⟨[0,1,2,7],[]⟩,by rfl⟩
  ·refine pO vN ?_;refine q6 hC1 (fun hC1 hc2=> ?_) (fun hC1 hc2=> ?_)
   ·refine rR vN ?_;refine rT ?_;cases hC1;exact tK ⟨⟨[0,1,2,7],[]⟩,by rfl⟩
   ·refine pO vN ?_;refine q6 hC1 (fun hC1 hc3=> ?_) (fun hC1 hc3=> ?_)
    ·refine rR vN ?_;refine rT ?_;cases hC1;exact tK ⟨⟨[0,1,2,7],[]⟩,by rfl⟩
    ·refine qJ (rT ?_);cases hC1;exact tK ⟨⟨[0,1,2,7],[]⟩,by rfl⟩
 ·rintro _ rfl;dsimp only at hC0⊢;refine pZ (q9 (rQ ?_));refine pO vN ?_;refine q6 hC0 (fun hC0 hc4=> ?_) (fun hC0 hc4=> ?_)
  ·refine pO vN ?_;refine pW (qW (qI ?_));cases hC0;exact⟨[],by rfl,by rfl,by rfl⟩
  ·refine pO vN ?_;refine q6 hC0 (fun hC0 hc5=> ?_) (fun hC0 hc5=> ?_)
   ·refine pO vN ?_;refine pW (qW (qI ?_));cases hC0;exact⟨[],by rfl,by rfl,by rfl⟩
   ·refine pO vN ?_;refine q6 hC0 (fun hC0 hc6=> ?_) (fun hC0 hc6=> ?_)
    ·refine pO vN ?_;refine pW (qW (qI ?_));cases hC0;exact⟨[],by rfl,by rfl,by rfl⟩
    ·refine pO vN ?_;refine q6 hC0 (fun hC0 hc7=> ?_) (fun hC0 hc7=> ?_)
     ·refine pO vN ?_;refine pW (qW (qI ?_));cases hC0;exact⟨[],by rfl,by rfl,by rfl⟩
     ·refine q9 ?_;refine pO vN ?_;obtain⟨aC,hC1,hC0⟩:=pS hC0;refine zX (fun s=>s=(fun x=>⟨[(0,(.val (.int .i64) O,none)),(1,(.val (.int .u8) Z,none)),(27,(.val .bool x,none))],[],0,64,0⟩) aC) ?_ ?_
      ·refine q6 hC1 (fun hC1 hc8=> ?_) (fun hC1 hc8=> ?_)
       ·refine qJ ?_;cases hC1;exact tK ⟨⟨[0,1,27],[]⟩,by rfl⟩
       ·refine rR vN ?_ (hp:=by exact⟨fun hh=>s3 hh,fun hh=>hh,(fun hh=>s3 hh)⟩);cases hC1;exact tK ⟨⟨[0,1,27],[]⟩,by rfl⟩
      ·rintro _ rfl;dsimp only at hC0⊢;refine pZ ?_;refine q6 hC0 (fun hC0 hc9=> ?_) (fun hC0 hc9=> ?_)
       ·obtain⟨hg1,hC0⟩:=pV hC0;refine pO vN ?_ (hp:=by exact hg1);refine pW (qW (qI ?_));cases hC0;exact⟨[],by rfl,by rfl,by rfl⟩
       ·refine pO vN ?_ (hp:=by exact⟨fun hh=>hh,(fun hh=>s3 hh)⟩);refine q6 hC0 (fun hC0 hc10=> ?_) (fun hC0 hc10=> ?_)
        ·obtain⟨aD,hv2,hw2,hC0⟩:=qU hC0
         try simp only[go_sem] at hw2
         obtain⟨hg3,hC0⟩:=pV hC0;refine pO vN ?_ (hp:=by exact⟨qT hv2,hg3⟩) (h:=by simp only[go_sem,hw2];rfl);refine pW (qW (qI ?_));cases hC0;exact⟨[],by rfl,by rfl,by rfl⟩
        ·refine pO vN ?_;refine q6 hC0 (fun hC0 hc11=> ?_) (fun hC0 hc11=> ?_)
         ·obtain⟨aE,hv4,hw4,hC0⟩:=qU hC0
          try simp only[go_sem] at hw4
          obtain⟨hg5,hC0⟩:=pV hC0;refine pO vN ?_ (hp:=by exact⟨qT hv4,hg5⟩) (h:=by simp only[go_sem,hw4];rfl);refine pW (qW (qI ?_));cases hC0;exact⟨[],by rfl,by rfl,by rfl⟩
         ·refine qJ (rT (pZ ?_));refine pO vN ?_;refine pW ?_;cases hC0;exact⟨[],by rfl,by rfl,by rfl⟩
attribute [irreducible] G0
def V1 (O:Int) (Z:Int) (aA:Bool):Option (List UInt8):=if (decide (O=(4:Int)))=true then if False then some ((U2 Z)) else none else if (decide (Z=(10:Int)))=true then some (([92,110]:List UInt8)) else if (decide (Z=(13:Int)))=true then some (([92,114]:List UInt8)) else if (decide (Z=(9:Int)))=true then some (([92,116]:List UInt8)) else rL (σ:=Bool) (if (decide (Z=(92:Int)))=true then some ((decide (Z=(92:Int)))) else if (((decide (O=(1:Int)))==true)=true→((D3 Z ([61,58,35,33]:List UInt8))).isSome=true) then if ((decide (O=(1:Int)))&&(val (D3 Z ([61,58,35,33]:List UInt8))))=true then some (((decide (O=(1:Int)))&&(val (D3 Z ([61,58,35,33]:List UInt8))))) else if (((decide (O=(1:Int)))&&aA)&&(decide (Z=(32:Int))))=true then some ((((decide (O=(1:Int)))&&aA)&&(decide (Z=(32:Int))))) else if ((!decide (O=(1:Int)))&&(decide (Z=(34:Int))))=true then some (((!decide (O=(1:Int)))&&(decide (Z=(34:Int))))) else if (((decide (O=(3:Int)))==true)=true→((D3 Z ([123,125]:List UInt8))).isSome=true) then some (((decide (O=(3:Int)))&&(val (D3 Z ([123,125]:List UInt8))))) else none else none ) fun aB=>if aB=true then if ((([92]:List UInt8)++(sI ([Z]:List Int))).length:Int)≤9223372036854775807 then some ((([92]:List UInt8)++(sI ([Z]:List Int)))) else none else if (((decide (Z<(32:Int)))||(decide (Z=(127:Int))))&&(decide (O=(3:Int))))=true then (a2e (IntKind.wrap .i64 Z)).bind fun aC=>if ((([92,117,48,48]:List UInt8)++(sI ([(qC ([48,49,50,51,52,53,54,55,56,57,97,98,99,100,101,102]:List UInt8) (IntKind.wrap .i64 (Int.tdiv (IntKind.wrap .i64 Z) (16:Int)))),(qC ([48,49,50,51,52,53,54,55,56,57,97,98,99,100,101,102]:List UInt8) (Int.tmod (IntKind.wrap .i64 Z) (16:Int)))]:List Int))).length:Int)≤9223372036854775807 then some ((([92,117,48,48]:List UInt8)++(sI ([(qC ([48,49,50,51,52,53,54,55,56,57,97,98,99,100,101,102]:List UInt8) (IntKind.wrap .i64 (Int.tdiv (IntKind.wrap .i64 Z) (16:Int)))),(qC ([48,49,50,51,52,53,54,55,56,57,97,98,99,100,101,102]:List UInt8) (Int.tmod (IntKind.wrap .i64 Z) (16:Int)))]:List Int)))) else none else if ((decide (Z<(32:Int)))||(decide (Z=(127:Int))))=true then (a2e (IntKind.wrap .i64 Z)).bind fun aD=>if ((([92,120]:List UInt8)++(sI ([(qC ([48,49,50,51,52,53,54,55,56,57,97,98,99,100,101,102]:List UInt8) (IntKind.wrap .i64 (Int.tdiv (IntKind.wrap .i64 Z) (16:Int)))),(qC ([48,49,50,51,52,53,54,55,56,57,97,98,99,100,101,102]:List UInt8) (Int.tmod (IntKind.wrap .i64 Z) (16:Int)))]:List Int))).length:Int)≤9223372036854775807 then some ((([92,120]:List UInt8)++(sI ([(qC ([48,49,50,51,52,53,54,55,56,57,97,98,99,100,101,102]:List UInt8) (IntKind.wrap .i64 (Int.tdiv (IntKind.wrap .i64 Z) (16:Int)))),(qC ([48,49,50,51,52,53,54,55,56,57,97,98,99,100,101,102]:List UInt8) (Int.tmod (IntKind.wrap .i64 Z) (16:Int)))]:List Int)))) else none else some ((sI ([Z]:List Int)))
attribute [irreducible] V1
def MJ (O:(List Int)):((List UInt8)×Int)→Option (((List UInt8)×Int)⊕(List UInt8)):=fun(Z,aA)=>if (decide (aA<(O.length:Int)))=true then if 0≤aA∧aA<(O.length:Int) then if (((decide ((0:Int)≤(qD (.int .i64) O aA)))&&(decide ((qD (.int .i64) O aA)≤(1114111:Int))))&&((decide ((qD (.int .i64) O aA)<(55296:Int)))||(decide ((57343:Int)<(qD (.int .i64) O aA)))))=true then if 0≤aA∧aA<(O.length:Int) then (AO (qD (.int .i64) O aA)).bind fun aB=>if ((Z++aB).length:Int)≤9223372036854775807 then if pP (aA+(1:Int)) then some (.inl ((Z++aB),(aA+(1:Int)))) else none else none else none else (AO (65533:Int)).bind fun aC=>if ((Z++aC).length:Int)≤9223372036854775807 then if pP (aA+(1:Int)) then some (.inl ((Z++aC),(aA+(1:Int)))) else none else none else none else some (.inr Z)
def JY (O:(List Int)):Option (List UInt8):=rL (qM (MJ O) (([]:List UInt8),(0:Int))) fun Z=>some (Z)
section
variable (O:(List Int))
abbrev a30:List pR:=[(.val (.list (.int .i64)) O,none)]
abbrev a32:List pQ:=[]
@[go_sem] def a33:pX:=⟨[((JY O)).isSome=true],[(.val .str (val (JY O)),none)],[]⟩
def aDc:List pR→List pQ→Option pX:=rJ (V:=(List Int)) (fun x=>a30 x) (fun x=>a32) fun x=>a33 x
@[go_sem] theorem aQy:aDc (no_index (a30 O)) (no_index a32)=some (a33 O):=rM (fun a0 b0 h1 h2=>by cases h1;cases h2;rfl) O
end
@[go_sem] abbrev aDd:Nat×qS:=(171,⟨[.v],aDc,[],[],none⟩)
theorem DA:qZ Tryz.prog [x6,FL] (qY [a2i,a2n]):=⟨⟨xN,⟨JM,trivial⟩⟩,qH aCi (qH aCk rK),rE⟩
theorem aK9:rD Tryz.prog aDd:=by
 refine rN DA Tryz.func171 (c:=_) rfl (N:=27) (by kernel_rfl) (ts:=[(2,none)]) rfl (fun _ _=>rfl) ?_;intro O hs hrow;dsimp only[a30,a32,a33,rG,qE,qK,rC,rI,Nat.reduceAdd] at hs hrow⊢;have hz:=hs;obtain⟨z0,hC0⟩:=aRi.1 hz
 try rw[rU hC0]
 clear hz hs;unfold JY at hC0;refine pO DA ?_;refine pO DA ?_;refine q9 ?_;refine pO DA ?_;refine rQ ?_;obtain⟨Z,hy1,hC0⟩:=pS hC0;refine uI 0 (fun s=>s=(fun x=>⟨[(3,(.val .str x,none))],[],0,27,0⟩) Z) ?_ ?_
 ·refine uH hy1 (fun x=>⟨[(0,(.val (.list (.int .i64)) O,none)),(3,(.val .str x.1,none)),(4,(.val (.int .i64) x.2,none))],[],0,27,0⟩) ⟨[0,3,4],[]⟩ (by rfl) ?_;intro x1 w1 n1 hC1 hN1;obtain⟨aA,aB⟩:=x1;unfold MJ at hC1;dsimp only at hC1⊢;refine q9 ?_;refine pO DA ?_;refine q6 hC1 (fun hC1 hc1=> ?_) (fun hC1 hc1=> ?_)
  ·refine qJ (pZ (q9 (rQ ?_)));obtain⟨hg1,hC1⟩:=pV hC1;refine pO DA ?_ (hp:=by exact hg1);refine q6 hC1 (fun hC1 hc2=> ?_) (fun hC1 hc2=> ?_)
   ·obtain⟨hg2,hC1⟩:=pV hC1;obtain⟨aC,hv3,hw3,hC1⟩:=qU hC1
    try simp only[go_sem] at hw3
    obtain⟨hg4,hC1⟩:=pV hC1;refine rR DA ?_ (hp:=by exact⟨hg2,qT hv3,hg4⟩) (h:=by simp only[go_sem,hw3];rfl);refine rT (pZ ?_);obtain⟨hg5,hC1⟩:=pV hC1;refine rR DA ?_ (hp:=by exact hg5);cases hC1;exact tE ⟨⟨[0,3,4],[]⟩,_,by rfl,hN1⟩
   ·obtain⟨aD,hv6,hw6,hC1⟩:=qU hC1
    try simp only[go_sem] at hw6
    obtain⟨hg7,hC1⟩:=pV hC1;refine rR DA ?_ (hp:=by exact⟨qT hv6,hg7⟩) (h:=by simp only[go_sem,hw6];rfl);refine rT (pZ ?_);obtain⟨hg8,hC1⟩:=pV hC1;refine rR DA ?_ (hp:=by exact hg8);cases hC1;exact tE ⟨⟨[0,3,4],[]⟩,_,by rfl,hN1⟩
  ·refine uG (uE (uK ?_));cases hC1;cases hN1;exact uJ ⟨⟨[3],[]⟩,by rfl⟩
 ·rintro _ rfl;dsimp only at hC0⊢;refine uF (pZ ?_);refine pO DA ?_;refine pW ?_;cases hC0;exact⟨[],by rfl,by rfl,by rfl⟩
attribute [irreducible] JY
end
noncomputable section
def MK:((List UInt8)×(List Int))→Option (((List UInt8)×(List Int))⊕(List Int)):=fun(O,Z)=>if (decide ((0:Int)<(O.length:Int)))=true then (HV O).bind fun aA=>if (Z.length+([aA.1]:List Int).length)*8≤140737488355328 then if 0≤aA.2∧aA.2≤(O.length:Int)∧(O.length:Int)≤(O.length:Int) then some (.inl ((q7 O aA.2 (O.length:Int)),(Z++([aA.1]:List Int)))) else none else none else some (.inr Z)
def HZ (O:(List UInt8)):Option (List Int):=rL (qM MK (O,([]:List Int))) fun Z=>some (Z)
section
variable (O:(List UInt8))
abbrev a34:List pR:=[(.val .str O,none)]
abbrev a35:List pQ:=[]
@[go_sem] def a36:pX:=⟨[((HZ O)).isSome=true],[(.val (.list (.int .i64)) (val (HZ O)),some 0)],[.grow 3 1 ((val (HZ O)).length)]⟩
def aDe:List pR→List pQ→Option pX:=rJ (V:=(List UInt8)) (fun x=>a34 x) (fun x=>a35) fun x=>a36 x
@[go_sem] theorem aQz:aDe (no_index (a34 O)) (no_index a35)=some (a36 O):=rM (fun a0 b0 h1 h2=>by cases h1;cases h2;rfl) O
end
@[go_sem] abbrev aDf:Nat×qS:=(172,⟨[.v],aDe,[],[],none⟩)
theorem I0:qZ Tryz.prog [s9,FL] (qY [aCm]):=⟨⟨sC,⟨JM,trivial⟩⟩,qH aKM rK,rE⟩
theorem aLa:rD Tryz.prog aDf:=by
 refine rN I0 Tryz.func172 (c:=_) rfl (N:=22) (by kernel_rfl) (ts:=[(2,none)]) rfl (fun _ _=>rfl) ?_;intro O hs hrow;dsimp only[a34,a35,a36,rG,qE,qK,rC,rI,Nat.reduceAdd] at hs hrow⊢;have hz:=hs;obtain⟨z0,hC0⟩:=aRi.1 hz
 try rw[rU hC0]
 clear hz hs;unfold HZ at hC0;refine pO I0 ?_;refine pO I0 ?_;refine q9 (rQ ?_);obtain⟨Z,hy1,hC0⟩:=pS hC0;refine uI 0 (fun s=>s=(fun x=>⟨[(3,(.val (.list (.int .i64)) x,some 0))],[(0,.grow 3 1 (x.length))],1,22,0⟩) Z) ?_ ?_
 ·refine uH hy1 (fun x=>⟨[(0,(.val .str x.1,none)),(3,(.val (.list (.int .i64)) x.2,some 0))],[(0,.grow 3 1 (x.2.length))],1,22,0⟩) ⟨[0,3],[(0,32)]⟩ (by rfl) ?_;intro x1 w1 n1 hC1 hN1;obtain⟨aA,aB⟩:=x1;unfold MK at hC1;dsimp only at hC1⊢;refine q9 ?_;refine pO I0 ?_;refine q6 hC1 (fun hC1 hc1=> ?_) (fun hC1 hc1=> ?_)
  ·refine qJ (pZ (rQ ?_));obtain⟨aC,hv1,hw1,hC1⟩:=qU hC1
   try simp only[go_sem] at hw1
   refine pO I0 ?_ (hp:=by exact(qT hv1)) (h:=by simp only[go_sem,hw1];rfl);obtain⟨hg2,hC1⟩:=pV hC1;refine pO I0 ?_ (hp:=by exact⟨by first|rfl|trivial,hg2⟩)
   obtain⟨hg3,hC1⟩:=pV hC1;refine rR I0 ?_ (hp:=by exact hg3);refine rT ?_;cases hC1;exact tE ⟨⟨[0,3],[(0,0)]⟩,_,by rfl,hN1⟩
  ·refine uG (uE (uK ?_));cases hC1;cases hN1;exact uJ ⟨⟨[3],[(0,0)]⟩,by rfl⟩
 ·rintro _ rfl;dsimp only at hC0⊢;refine uF (pZ ?_);refine pO I0 ?_;refine pW ?_;cases hC0;exact⟨[(0,0)],by rfl,by rfl,by rfl⟩
attribute [irreducible] HZ
def I1 (O:(List qB)) (Z:(List UInt8)):Option Int:=(MD O Z).bind fun aA=>some (aA)
section
variable (O:(List qB)) (Z:(List UInt8))
abbrev a38:List pR:=[(.val (.list (.pair .str (.pair .str .unit))) O,none),(.val .str Z,none)]
abbrev a39:List pQ:=[]
@[go_sem] def a4a:pX:=⟨[((I1 O Z)).isSome=true],[(.val (.int .i64) (val (I1 O Z)),none)],[]⟩
def aDg:List pR→List pQ→Option pX:=rJ (V:=((List qB)×(List UInt8))) (fun x=>a38 x.1 x.2) (fun x=>a39) fun x=>a4a x.1 x.2
@[go_sem] theorem aQA:aDg (no_index (a38 O Z)) (no_index a39)=some (a4a O Z):=rM (fun⟨a0,a1⟩ ⟨b0,b1⟩ h1 h2=>by cases h1;cases h2;rfl) (O,Z)
end
@[go_sem] abbrev aDh:Nat×qS:=(237,⟨[.v,.v],aDg,[],[],none⟩)
theorem a4b:qZ Tryz.prog [s9] (qY [aCI]):=⟨⟨sC,trivial⟩,qH aKV rK,rE⟩
theorem aLb:rD Tryz.prog aDh:=by
 refine rN a4b Tryz.func237 (c:=_) rfl (N:=8) (by kernel_rfl) (ts:=[(4,none)]) rfl (fun _ _=>rfl) ?_;intro⟨O,Z⟩ hs hrow;dsimp only[a38,a39,a4a,rG,qE,qK,rC,rI,Nat.reduceAdd] at hs hrow⊢;have hz:=hs;obtain⟨z0,hC0⟩:=aRi.1 hz
 try rw[rU hC0]
 clear hz hs;unfold I1 at hC0;refine pO a4b ?_;obtain⟨aA,hv1,hw1,hC0⟩:=qU hC0
 try simp only[go_sem] at hw1
 refine pO a4b ?_ (hp:=by exact⟨by first|rfl|trivial,(qT hv1)⟩) (h:=by simp only[go_sem,hw1];rfl)
 refine pW ?_;cases hC0;exact⟨[],by rfl,by rfl,by rfl⟩
attribute [irreducible] I1
def a4c (O:(List UInt8)):Option Bool:=(D9 ([([110,101,119]:List UInt8),([102,117,122,122,121]:List UInt8),([116,114,97,110,115,108,97,116,101,100]:List UInt8),([114,101,118,105,101,119,101,100]:List UInt8),([111,98,115,111,108,101,116,101]:List UInt8)]:List (List UInt8)) O).bind fun Z=>some (Z)
attribute [irreducible] a4c
def Q1 (O:(List UInt8)) (Z:Int):(Int×Int)→Option ((Int×Int)⊕(Int⊕Int)):=fun(aA,aB)=>if (decide (aB<(O.length:Int)))=true then if 0≤aB∧aB<(O.length:Int) then (UW (qC O aB) Z).bind fun aC=>if (decide (aC<(0:Int)))=true then some (.inr (.inr ((-1:Int)))) else if pP (Z*aA) then if pP ((Z*aA)+aC) then if pP (aB+(1:Int)) then some (.inl (((Z*aA)+aC),(aB+(1:Int)))) else none else none else none else none else some (.inr (.inl aA))
def JZ (O:(List UInt8)) (Z:Int):Option Int:=sN (qM (Q1 O Z) ((0:Int),(0:Int))) fun aA=>if (decide (O=([]:List UInt8)))=true then some ((-1:Int)) else some (aA)
attribute [irreducible] JZ
def I2 (O:(List Int)) (Z:Int):Option (List Int):=if (decide ((IntKind.wrap .u32 Z)≤(127:Int)))=true then if (O.length+([(IntKind.wrap .u8 Z)]:List Int).length)*1≤140737488355328 then some ((O++([(IntKind.wrap .u8 Z)]:List Int))) else none else (JU O Z).bind fun aA=>some (aA)
section
variable (O:(List Int)) (Z:Int) (aA:Nat)
abbrev a4d:List pR:=[(.val (.list (.int .u8)) O,some 0),(.val (.int .i32) Z,none)]
abbrev a4e:List pQ:=[.grow 5 1 aA]
@[go_sem] def a4f:pX:=⟨[aA=(O.length),((I2 O Z)).isSome=true],[(.val (.list (.int .u8)) (val (I2 O Z)),some 0)],[.grow 5 1 ((val (I2 O Z)).length)]⟩
def aDi:List pR→List pQ→Option pX:=rJ (V:=((List Int)×Int×Nat)) (fun x=>a4d x.1 x.2.1) (fun x=>a4e x.2.2) fun x=>a4f x.1 x.2.1 x.2.2
@[go_sem] theorem aQB:aDi (no_index (a4d O Z)) (no_index (a4e aA))=some (a4f O Z aA):=rM (fun⟨a0,a1,a2⟩ ⟨b0,b1,b2⟩ h1 h2=>by cases h1;cases h2;rfl) (O,Z,aA)
end
@[go_sem] abbrev aDj:Nat×qS:=(297,⟨[.own,.v],aDi,[],[],none⟩)
theorem Q2:qZ Tryz.prog [D1,P9,E4,U5] (qY [aCG]):=⟨⟨FK,⟨a0z,⟨HK,⟨aBj,trivial⟩⟩⟩⟩,qH aKU rK,rE⟩
theorem aLc:rD Tryz.prog aDj:=by
 refine rN Q2 Tryz.func297 (c:=_) rfl (N:=16) (by kernel_rfl) (ts:=[(4,none)]) rfl (fun _ _=>rfl) ?_;intro⟨O,Z,aA⟩ hs hrow;dsimp only[a4d,a4e,a4f,rG,qE,qK,rC,rI,Nat.reduceAdd] at hs hrow⊢;obtain⟨rfl,hz⟩:=hs;obtain⟨z0,hC0⟩:=aRi.1 hz
 try rw[rU hC0]
 clear hz;unfold I2 at hC0;refine pO Q2 ?_;refine q9 ?_;refine pO Q2 ?_;refine q6 hC0 (fun hC0 hc1=> ?_) (fun hC0 hc1=> ?_)
 ·obtain⟨hg1,hC0⟩:=pV hC0;refine pO Q2 ?_ (hp:=by exact⟨by first|rfl|trivial,hg1⟩)
  refine pW (qI ?_);cases hC0;exact⟨[(0,0)],by rfl,by rfl,by rfl⟩
 ·refine qJ (pZ ?_);obtain⟨aB,hv2,hw2,hC0⟩:=qU hC0
  try simp only[go_sem] at hw2
  refine pO Q2 ?_ (hp:=by exact⟨by first|rfl|trivial,(qT hv2)⟩) (h:=by simp only[go_sem,hw2];rfl)
  refine pW ?_;cases hC0;exact⟨[(0,0)],by rfl,by rfl,by rfl⟩
attribute [irreducible] I2
end
noncomputable section
def I3 (O:(List qB)) (Z:(List UInt8)) (aA:(List UInt8)):Option (List qB):=(HW O).bind fun aB=>(I1 aB Z).bind fun aC=>if (decide ((0:Int)≤aC))=true then if 0≤aC∧aC<(((aB.length):Nat):Int) then some ((List.set aB (Int.toNat aC) ((qD (.pair .str (.pair .str .unit)) aB aC).1,(aA,(qD (.pair .str (.pair .str .unit)) aB aC).2.2)))) else none else (ME aB Z).bind fun aD=>if (decide (aD<(0:Int)))=true then if 0≤(((aB.length):Nat):Int)∧(((aB.length):Nat):Int)≤List.length aB then if (aB.length+([(Z,(aA,()))]:List qB).length)*32≤140737488355328 then some ((AJ aB (((aB.length):Nat):Int) ([(Z,(aA,()))]:List qB))) else none else none else if 0≤aD∧aD≤List.length aB then if (aB.length+([(Z,(aA,()))]:List qB).length)*32≤140737488355328 then some ((AJ aB aD ([(Z,(aA,()))]:List qB))) else none else none
section
variable (O:(List qB)) (Z:(List UInt8)) (aA:(List UInt8))
abbrev a4g:List pR:=[(.val (.list (.pair .str (.pair .str .unit))) O,none),(.val .str Z,none),(.val .str aA,none)]
abbrev a4h:List pQ:=[]
@[go_sem] def a4i:pX:=⟨[((I3 O Z aA)).isSome=true],[(.val (.list (.pair .str (.pair .str .unit))) (val (I3 O Z aA)),some 0)],[.grow 149 2 ((val (I3 O Z aA)).length)]⟩
def aDk:List pR→List pQ→Option pX:=rJ (V:=((List qB)×(List UInt8)×(List UInt8))) (fun x=>a4g x.1 x.2.1 x.2.2) (fun x=>a4h) fun x=>a4i x.1 x.2.1 x.2.2
@[go_sem] theorem aQC:aDk (no_index (a4g O Z aA)) (no_index a4h)=some (a4i O Z aA):=rM (fun⟨a0,a1,a2⟩ ⟨b0,b1,b2⟩ h1 h2=>by cases h1;cases h2;rfl) (O,Z,aA)
end
@[go_sem] abbrev a4j:Nat×qS:=(194,⟨[.v,.v,.v],aDk,[],[],none⟩)
theorem CB:qZ Tryz.prog [s9,U4,C7] (qY [aCE,aDh,aCK,aBo]):=⟨⟨sC,⟨aBi,⟨E5,trivial⟩⟩⟩,qH aKT (qH aLb (qH aKW (qH aKr rK))),rE⟩
theorem aLd:rD Tryz.prog a4j:=by
 refine rN CB Tryz.func194 (c:=_) rfl (N:=37) (by kernel_rfl) (ts:=[(6,none)]) rfl (fun _ _=>rfl) ?_;intro⟨O,Z,aA⟩ hs hrow;dsimp only[a4g,a4h,a4i,rG,qE,qK,rC,rI,Nat.reduceAdd] at hs hrow⊢;have hz:=hs;obtain⟨z0,hC0⟩:=aRi.1 hz
 try rw[rU hC0]
 clear hz hs;unfold I3 at hC0;refine pO CB ?_;obtain⟨aB,hv1,hw1,hC0⟩:=qU hC0
 try simp only[go_sem] at hw1
 refine pO CB ?_ (hp:=by exact(qT hv1)) (h:=by simp only[go_sem,hw1];rfl);refine q9 ?_;obtain⟨aC,hv2,hw2,hC0⟩:=qU hC0
 try simp only[go_sem] at hw2
 refine pO CB ?_ (hp:=by exact⟨fun _=>by first|exact rfl|exact trivial,(qT hv2)⟩) (h:=by simp only[go_sem,hw2];rfl)
 refine pO CB ?_;refine q6 hC0 (fun hC0 hc1=> ?_) (fun hC0 hc1=> ?_)
 ·obtain⟨hg3,hC0⟩:=pV hC0;refine pO CB ?_ (hp:=by exact⟨hg3,(by first|rfl|trivial)⟩)
  refine pO CB ?_;refine ZZ 96 rfl (by repeat' (first|exact trivial|apply And.intro|exact(fun _=>rfl) |exact(fun h=>absurd h (by decide)))) ?_
  refine pW (qI ?_);cases hC0;exact⟨[(0,96)],by rfl,by rfl,by rfl⟩
 ·refine qJ (pZ ?_);obtain⟨aD,hv4,hw4,hC0⟩:=qU hC0
  try simp only[go_sem] at hw4
  refine pO CB ?_ (hp:=by exact⟨by first|rfl|trivial,fun _=>by first|exact rfl|exact trivial,(qT hv4)⟩) (h:=by simp only[go_sem,hw4];rfl)
  refine q9 ?_;refine pO CB ?_;refine q6 hC0 (fun hC0 hc2=> ?_) (fun hC0 hc2=> ?_)
  ·refine rR CB ?_;refine pZ ?_;obtain⟨hg5,hC0⟩:=pV hC0;obtain⟨hg6,hC0⟩:=pV hC0;refine pO CB ?_ (hp:=by exact⟨by first|rfl|trivial,hg5,hg6⟩)
   refine aAL ⟨[0,1,2,4,6,10,13,14,8,15,16,24,25,9,26,27,29,31,32,33,34,35,36],[(0,0),(32,32),(96,96),(800,800)]⟩ ?_;simp only[go_sem,Nat.max_def];refine ZZ 96 rfl (by repeat' (first|exact trivial|apply And.intro|exact(fun _=>rfl) |exact(fun h=>absurd h (by decide)))) ?_
   refine pW ?_;cases hC0;exact⟨[(0,96)],by rfl,by rfl,by rfl⟩
  ·refine qJ (pZ ?_);obtain⟨hg7,hC0⟩:=pV hC0;obtain⟨hg8,hC0⟩:=pV hC0;refine pO CB ?_ (hp:=by exact⟨by first|rfl|trivial,hg7,hg8⟩)
   refine aAL ⟨[0,1,2,4,6,10,13,14,8,15,16,24,25,9,26,27,31,32,33,34,35,36],[(0,0),(32,32),(96,96),(704,704)]⟩ ?_;simp only[go_sem,Nat.max_def];refine ZZ 96 rfl (by repeat' (first|exact trivial|apply And.intro|exact(fun _=>rfl) |exact(fun h=>absurd h (by decide)))) ?_
   refine pW ?_;cases hC0;exact⟨[(0,96)],by rfl,by rfl,by rfl⟩
attribute [irreducible] I3
def K0 (O:tY) (Z:tY):Option Unit:=(PY O Z).bind fun aA=>if (((((decide (O.1=Z.1))&&(val (wL O.2.1 Z.2.1)))&&(val (zJ O.2.2.1 Z.2.2.1)))==true)=true→((D7 O.2.2.2.1 Z.2.2.2.1)).isSome=true) then some (()) else none
section
variable (O:tY) (Z:tY)
abbrev a4k:List pR:=[(.val CZ O,none),(.val CZ Z,none)]
abbrev a4l:List pQ:=[]
@[go_sem] def a4m:pX:=⟨[((K0 O Z)).isSome=true],[(.val .bool ((((decide (O.1=Z.1))&&(val (wL O.2.1 Z.2.1)))&&(val (zJ O.2.2.1 Z.2.2.1)))&&(val (D7 O.2.2.2.1 Z.2.2.2.1))),none)],[]⟩
def aDl:List pR→List pQ→Option pX:=rJ (V:=(tY×tY)) (fun x=>a4k x.1 x.2) (fun x=>a4l) fun x=>a4m x.1 x.2
@[go_sem] theorem aQD:aDl (no_index (a4k O Z)) (no_index a4l)=some (a4m O Z):=rM (fun⟨a0,a1⟩ ⟨b0,b1⟩ h1 h2=>by cases h1;cases h2;rfl) (O,Z)
end
@[go_sem] abbrev a4n:Nat×qS:=(18,⟨[.v,.v],aDl,[],[],none⟩)
theorem a4o:qZ Tryz.prog [E3,zH] (qY [aCR,aCT]):=⟨⟨HJ,⟨AL,trivial⟩⟩,qH aKZ (qH aK0 rK),rE⟩
theorem aLe:rD Tryz.prog a4n:=by
 refine rN a4o Tryz.func18 (c:=_) rfl (N:=15) (by kernel_rfl) (ts:=[(4,none)]) rfl (fun _ _=>rfl) ?_;intro⟨O,Z⟩ hs hrow;dsimp only[a4k,a4l,a4m,rG,qE,qK,rC,rI,Nat.reduceAdd] at hs hrow⊢;have hz:=hs;obtain⟨z0,hC0⟩:=aRi.1 hz
 try rw[rU hC0]
 clear hz hs;unfold K0 at hC0;refine pO a4o ?_;obtain⟨aA,hv1,hw1,hC0⟩:=qU hC0
 try simp only[go_sem] at hw1
 obtain⟨hg2,hC0⟩:=pV hC0;refine pO a4o ?_ (hp:=by exact⟨qT hv1,fun hh=>hh,fun hh=>hh,fun hh=>hh,fun hh=>hh,hg2,(fun hh=>s3 hh)⟩) (h:=by simp only[go_sem,hw1];rfl);refine pW ?_;cases hC0;exact⟨[],by rfl,by rfl,by rfl⟩
attribute [irreducible] K0
def Q3 (O:(List (List UInt8))):Int→Option (Int⊕(Unit⊕Bool)):=fun Z=>if (decide (Z<(O.length:Int)))=true then if 0≤Z∧Z<(O.length:Int) then (yC (qD .str O Z)).bind fun aA=>if ((((!aA)==false)&&((decide ((0:Int)<Z))==true))=true→0≤Z∧Z<(O.length:Int)) then if ((((!aA)==false)&&((decide ((0:Int)<Z))==true))=true→pP (Z- (1:Int))) then if ((((!aA)==false)&&((decide ((0:Int)<Z))==true))=true→0≤(Z- (1:Int))∧(Z- (1:Int))<(O.length:Int)) then if ((!aA)||((decide ((0:Int)<Z))&&(Op.bytesLess (qD .str O Z) (qD .str O (Z- (1:Int)))||decide ((qD .str O Z)=(qD .str O (Z- (1:Int)))))))=true then some (.inr (.inr (false))) else if pP (Z+(1:Int)) then some (.inl (Z+(1:Int))) else none else none else none else none else none else some (.inr (.inl ()))
def DB (O:(List (List UInt8))):Option Bool:=sN (qM (Q3 O) (0:Int)) fun _=>some ((decide ((O.length:Int)≤(20:Int))))
section
variable (O:(List (List UInt8)))
abbrev a4p:List pR:=[(.val (.list .str) O,none)]
abbrev a4q:List pQ:=[]
@[go_sem] def a4r:pX:=⟨[((DB O)).isSome=true],[(.val .bool (val (DB O)),none)],[]⟩
def aDm:List pR→List pQ→Option pX:=rJ (V:=(List (List UInt8))) (fun x=>a4p x) (fun x=>a4q) fun x=>a4r x
@[go_sem] theorem aQE:aDm (no_index (a4p O)) (no_index a4q)=some (a4r O):=rM (fun a0 b0 h1 h2=>by cases h1;cases h2;rfl) O
end
@[go_sem] abbrev aDn:Nat×qS:=(71,⟨[.v],aDm,[],[],none⟩)
theorem I4:qZ Tryz.prog [s9,wC] (qY [a3y]):=⟨⟨sC,⟨x5,trivial⟩⟩,qH aCW rK,rE⟩
theorem aLf:rD Tryz.prog aDn:=by
 refine rN I4 Tryz.func71 (c:=_) rfl (N:=35) (by kernel_rfl) (ts:=[(2,none)]) rfl (fun _ _=>rfl) ?_;intro O hs hrow;dsimp only[a4p,a4q,a4r,rG,qE,qK,rC,rI,Nat.reduceAdd] at hs hrow⊢;have hz:=hs;obtain⟨z0,hC0⟩:=aRi.1 hz
 try rw[rU hC0]
 clear hz hs;unfold DB at hC0;refine pO I4 ?_;refine q9 ?_;refine pO I4 ?_;refine rQ ?_;obtain⟨y1,hy1,hC0⟩:=vC hC0;refine uI 0 (fun s=> ∃v,y1= .inl v∧s=(fun _=>⟨[(0,(.val (.list .str) O,none))],[],0,35,0⟩) v) ?_ ?_
 ·refine uH hy1 (fun x=>⟨[(0,(.val (.list .str) O,none)),(3,(.val (.int .i64) x,none))],[],0,35,0⟩) ⟨[0,3],[]⟩ (by rfl) ?_;intro Z w1 n1 hC1 hN1;unfold Q3 at hC1;dsimp only at hC1⊢;refine q9 ?_;refine pO I4 ?_;refine q6 hC1 (fun hC1 hc1=> ?_) (fun hC1 hc1=> ?_)
  ·refine qJ (pZ (q9 (rQ ?_)));obtain⟨hg1,hC1⟩:=pV hC1;obtain⟨aA,hv2,hw2,hC1⟩:=qU hC1
   try simp only[go_sem] at hw2
   obtain⟨hg3,hC1⟩:=pV hC1;obtain⟨hg4,hC1⟩:=pV hC1;obtain⟨hg5,hC1⟩:=pV hC1;refine uW I4 ?_ (hp:=by exact⟨hg1,qT hv2,fun hh=>hh,fun hh=>hh,fun hh=>hh,fun hh=>hh,hg3,fun hh=>hh,fun hh=>hh,hg4,fun hh=>hh,fun hh=>hh,hg5,fun hh=>hh,fun hh=>hh,fun hh=>hh,fun hh=>hh,fun hG hh=>LU hG hh,(fun hh=>uB hh)⟩) (h:=by simp only[go_sem,hw2];rfl);refine q6 hC1 (fun hC1 hc2=> ?_) (fun hC1 hc2=> ?_)
   ·refine pO I4 ?_;refine pW (qW (qI (wB (wA (qW (qI ?_))))));cases hC1;cases hN1;dsimp only at hC0;cases hC0;exact⟨[],by rfl,by rfl,by rfl⟩
   ·refine qJ (rT (pZ ?_));obtain⟨hg6,hC1⟩:=pV hC1;refine rR I4 ?_ (hp:=by exact hg6);cases hC1;exact tE ⟨⟨[0,3],[]⟩,_,by rfl,hN1⟩
  ·refine uG (uE (uK ?_));cases hC1;cases hN1;exact uJ ⟨⟨[0],[]⟩,_,rfl,by rfl⟩
 ·rintro _ ⟨v,rfl,rfl⟩;dsimp only at hC0⊢;refine uF (pZ ?_);refine pO I4 ?_;refine pW ?_;cases hC0;exact⟨[],by rfl,by rfl,by rfl⟩
attribute [irreducible] DB
def CC (O:(List UInt8)) (Z:(List UInt8)):Option (List UInt8):=(MH O Z).bind fun aA=>some (aA)
section
variable (O:(List UInt8)) (Z:(List UInt8))
abbrev a4s:List pR:=[(.val .str O,none),(.val .str Z,none)]
abbrev a4t:List pQ:=[]
@[go_sem] def a4u:pX:=⟨[((CC O Z)).isSome=true],[(.val .str (val (CC O Z)),none)],[]⟩
def aDo:List pR→List pQ→Option pX:=rJ (V:=((List UInt8)×(List UInt8))) (fun x=>a4s x.1 x.2) (fun x=>a4t) fun x=>a4u x.1 x.2
@[go_sem] theorem aQF:aDo (no_index (a4s O Z)) (no_index a4t)=some (a4u O Z):=rM (fun⟨a0,a1⟩ ⟨b0,b1⟩ h1 h2=>by cases h1;cases h2;rfl) (O,Z)
end
@[go_sem] abbrev ML:Nat×qS:=(98,⟨[.v,.v],aDo,[],[],none⟩)
theorem a4v:qZ Tryz.prog [] (qY [aC7]):=⟨trivial,qH aK6 rK,rE⟩
theorem a4w:rD Tryz.prog ML:=by
 refine rN a4v Tryz.func98 (c:=_) rfl (N:=8) (by kernel_rfl) (ts:=[(4,none)]) rfl (fun _ _=>rfl) ?_;intro⟨O,Z⟩ hs hrow;dsimp only[a4s,a4t,a4u,rG,qE,qK,rC,rI,Nat.reduceAdd] at hs hrow⊢;have hz:=hs;obtain⟨z0,hC0⟩:=aRi.1 hz
 try rw[rU hC0]
 clear hz hs;unfold CC at hC0;refine pO a4v ?_;obtain⟨aA,hv1,hw1,hC0⟩:=qU hC0
 try simp only[go_sem] at hw1
 refine pO a4v ?_ (hp:=by exact(qT hv1)) (h:=by simp only[go_sem,hw1];rfl);refine pW ?_;cases hC0;exact⟨[],by rfl,by rfl,by rfl⟩
attribute [irreducible] CC
end
end Go.Proofs.YtbbpilohihldiaaGreatDoor
