/- Packed by a program of mine (wip/tools/pack.py): the same texts with short names and few blanks. -/
import Derived.BigCall
import Derived.BigGuard
import Derived.Handy
import Derived.KernelRfl
import Derived.Lib.Hide
import Derived.Lib.ItoaMem
import Derived.Lib.MapLaws
import Derived.Lib.TrimAscii
import Derived.Lib.TrimUEq
import Derived.Lib.ValidLaws
import Derived.LoopIn
import Derived.LoopNIn
import Derived.OwnWalkIn
import Derived.RangeFuncBox
import Derived.RangeFuncLeaves
import Derived.Shelf.Abstract
import Derived.Shelf.Slices.Clone
import Derived.Shelf.Slices.In.SortNone
import Derived.Shelf.Small.Strs
import Derived.Shelf.Small.Utf8
import Derived.Shelf.Sort.Plain
import Derived.Shelf.Spec.SlicesInsertGrow
import Derived.Shelf.Strings.Builder1
import Derived.Shelf.Strings.Repeat
import Derived.Shelf.Strings.Runes
import Derived.Shelf.Strings.Search1
import Derived.Shelf.Strings.Search3
import Derived.Shelf.Strings.SlTrimAscii
import Derived.Shelf.Strings.Trim
import Derived.Shelf.Unicode.DecodeAny
import Derived.Shelf.Unicode.ValidAny
import Derived.TacticsInMore
import Derived.Test.YtbbpilohihldiaaGreatDoorChecked
import Derived.Test.YtbbpilohihldiaaGreatDoorProg
import Derived.WalkKit
import Derived.Test.YtbbpilohihldiaaGreatDoorU01
set_option linter.unusedVariables false
set_option linter.unusedSimpArgs false
set_option linter.unusedSectionVars false
section
set_option linter.unusedVariables false
namespace Go.Proofs
open Go.RowKit Go.Lib
def Tryz.lays137_ren:Go.Shelf.Ren:=⟨fun|137=>135|217=>182|266=>222|n=>n,fun|9=>9|5=>5|3=>3|n=>n,fun|n=>n⟩
theorem Tryz.lays137:Go.Proofs.Lays.n137 Tryz.prog Tryz.lays137_ren:={
 mixed:=by kernel_rfl
 f137:=Tryz.func135.trans (congrArg some (by kernel_rfl))
 f217:=Tryz.func182.trans (congrArg some (by kernel_rfl))
 f266:=Tryz.func222.trans (congrArg some (by kernel_rfl))
 t3:=Tryz.underlying3
 a3:=Tryz.isAgg3
 z3:=Tryz.sizeOf3
 v3:=Tryz.zeroValue3
 t5:=Tryz.underlying5
 a5:=Tryz.isAgg5
 z5:=Tryz.sizeOf5
 v5:=Tryz.zeroValue5
 t9:=Tryz.underlying9
 a9:=Tryz.isAgg9
 z9:=Tryz.sizeOf9
 v9:=Tryz.zeroValue9}
def Tryz.lays190_ren:Go.Shelf.Ren:=⟨fun|190=>147|125=>192|258=>191|128=>234|129=>235|302=>225|303=>226|304=>227|305=>228|306=>229|307=>230|308=>231|309=>232|310=>233|333=>261|329=>262|330=>263|334=>264|335=>265|336=>266|344=>279|n=>n,fun|31=>23|9=>9|3=>3|46=>219|0=>0|51=>241|53=>243|4=>4|183=>235|182=>234|131=>57|5=>5|218=>258|222=>262|228=>272|229=>224|n=>n,fun|n=>n⟩
theorem Tryz.lays190:Go.Proofs.Lays.n190 Tryz.prog Tryz.lays190_ren:={
 mixed:=by kernel_rfl
 f125:=Tryz.func192.trans (congrArg some (by kernel_rfl))
 f128:=Tryz.func234.trans (congrArg some (by kernel_rfl))
 f129:=Tryz.func235.trans (congrArg some (by kernel_rfl))
 f190:=Tryz.func147.trans (congrArg some (by kernel_rfl))
 f258:=Tryz.func191.trans (congrArg some (by kernel_rfl))
 f302:=Tryz.func225.trans (congrArg some (by kernel_rfl))
 f303:=Tryz.func226.trans (congrArg some (by kernel_rfl))
 f304:=Tryz.func227.trans (congrArg some (by kernel_rfl))
 f305:=Tryz.func228.trans (congrArg some (by kernel_rfl))
 f306:=Tryz.func229.trans (congrArg some (by kernel_rfl))
 f307:=Tryz.func230.trans (congrArg some (by kernel_rfl))
 f308:=Tryz.func231.trans (congrArg some (by kernel_rfl))
 f309:=Tryz.func232.trans (congrArg some (by kernel_rfl))
 f310:=Tryz.func233.trans (congrArg some (by kernel_rfl))
 f329:=Tryz.func262.trans (congrArg some (by kernel_rfl))
 f330:=Tryz.func263.trans (congrArg some (by kernel_rfl))
 f333:=Tryz.func261.trans (congrArg some (by kernel_rfl))
 f334:=Tryz.func264.trans (congrArg some (by kernel_rfl))
 f335:=Tryz.func265.trans (congrArg some (by kernel_rfl))
 f336:=Tryz.func266.trans (congrArg some (by kernel_rfl))
 f344:=Tryz.func279.trans (congrArg some (by kernel_rfl))
 t0:=Tryz.underlying0
 a0:=Tryz.isAgg0
 z0:=Tryz.sizeOf0
 v0:=Tryz.zeroValue0
 t3:=Tryz.underlying3
 a3:=Tryz.isAgg3
 z3:=Tryz.sizeOf3
 v3:=Tryz.zeroValue3
 t4:=Tryz.underlying4
 a4:=Tryz.isAgg4
 z4:=Tryz.sizeOf4
 v4:=Tryz.zeroValue4
 t5:=Tryz.underlying5
 a5:=Tryz.isAgg5
 z5:=Tryz.sizeOf5
 v5:=Tryz.zeroValue5
 t9:=Tryz.underlying9
 a9:=Tryz.isAgg9
 z9:=Tryz.sizeOf9
 v9:=Tryz.zeroValue9
 t31:=Tryz.underlying23
 a31:=Tryz.isAgg23
 z31:=Tryz.sizeOf23
 v31:=Tryz.zeroValue23
 t46:=Tryz.underlying219
 a46:=Tryz.isAgg219
 z46:=Tryz.sizeOf219
 v46:=Tryz.zeroValue219
 t51:=Tryz.underlying241
 a51:=Tryz.isAgg241
 z51:=Tryz.sizeOf241
 v51:=Tryz.zeroValue241
 t53:=Tryz.underlying243
 a53:=Tryz.isAgg243
 z53:=Tryz.sizeOf243
 v53:=Tryz.zeroValue243
 t131:=Tryz.underlying57
 a131:=Tryz.isAgg57
 z131:=Tryz.sizeOf57
 v131:=Tryz.zeroValue57
 t182:=Tryz.underlying234
 a182:=Tryz.isAgg234
 z182:=Tryz.sizeOf234
 v182:=Tryz.zeroValue234
 t183:=Tryz.underlying235
 a183:=Tryz.isAgg235
 z183:=Tryz.sizeOf235
 v183:=Tryz.zeroValue235
 t218:=Tryz.underlying258
 a218:=Tryz.isAgg258
 z218:=Tryz.sizeOf258
 v218:=Tryz.zeroValue258
 t222:=Tryz.underlying262
 a222:=Tryz.isAgg262
 z222:=Tryz.sizeOf262
 v222:=Tryz.zeroValue262
 t228:=Tryz.underlying272
 a228:=Tryz.isAgg272
 z228:=Tryz.sizeOf272
 v228:=Tryz.zeroValue272
 t229:=Tryz.underlying224
 a229:=Tryz.isAgg224
 z229:=Tryz.sizeOf224
 v229:=Tryz.zeroValue224}
def Tryz.lays196_ren:Go.Shelf.Ren:=⟨fun|196=>243|259=>271|n=>n,fun|0=>0|3=>3|4=>4|5=>5|9=>9|12=>12|46=>219|53=>243|119=>254|138=>256|139=>257|n=>n,fun|3=>1|4=>2|n=>n⟩
theorem Tryz.lays196:Go.Proofs.Lays.n196 Tryz.prog Tryz.lays196_ren:={
 mixed:=by kernel_rfl
 f196:=Tryz.func243.trans (congrArg some (by kernel_rfl))
 f259:=Tryz.func271.trans (congrArg some (by kernel_rfl))
 t0:=Tryz.underlying0
 a0:=Tryz.isAgg0
 z0:=Tryz.sizeOf0
 v0:=Tryz.zeroValue0
 t3:=Tryz.underlying3
 a3:=Tryz.isAgg3
 z3:=Tryz.sizeOf3
 v3:=Tryz.zeroValue3
 t4:=Tryz.underlying4
 a4:=Tryz.isAgg4
 z4:=Tryz.sizeOf4
 v4:=Tryz.zeroValue4
 t5:=Tryz.underlying5
 a5:=Tryz.isAgg5
 z5:=Tryz.sizeOf5
 v5:=Tryz.zeroValue5
 t9:=Tryz.underlying9
 a9:=Tryz.isAgg9
 z9:=Tryz.sizeOf9
 v9:=Tryz.zeroValue9
 t12:=Tryz.underlying12
 a12:=Tryz.isAgg12
 z12:=Tryz.sizeOf12
 v12:=Tryz.zeroValue12
 t46:=Tryz.underlying219
 a46:=Tryz.isAgg219
 z46:=Tryz.sizeOf219
 v46:=Tryz.zeroValue219
 t53:=Tryz.underlying243
 a53:=Tryz.isAgg243
 z53:=Tryz.sizeOf243
 v53:=Tryz.zeroValue243
 t119:=Tryz.underlying254
 a119:=Tryz.isAgg254
 z119:=Tryz.sizeOf254
 t138:=Tryz.underlying256
 a138:=Tryz.isAgg256
 z138:=Tryz.sizeOf256
 v138:=Tryz.zeroValue256
 t139:=Tryz.underlying257
 a139:=Tryz.isAgg257
 z139:=Tryz.sizeOf257
 v139:=Tryz.zeroValue257
 g3:=by kernel_rfl
 g4:=by kernel_rfl}
def Tryz.lays143_ren:Go.Shelf.Ren:=⟨fun|143=>173|219=>208|217=>182|225=>248|224=>249|267=>250|266=>222|314=>276|n=>n,fun|9=>9|3=>3|4=>4|5=>5|46=>219|146=>270|51=>241|n=>n,fun|1=>0|n=>n⟩
theorem Tryz.lays143:Go.Proofs.Lays.n143 Tryz.prog Tryz.lays143_ren:={
 mixed:=by kernel_rfl
 f143:=Tryz.func173.trans (congrArg some (by kernel_rfl))
 f217:=Tryz.func182.trans (congrArg some (by kernel_rfl))
 f219:=Tryz.func208.trans (congrArg some (by kernel_rfl))
 f224:=Tryz.func249.trans (congrArg some (by kernel_rfl))
 f225:=Tryz.func248.trans (congrArg some (by kernel_rfl))
 f266:=Tryz.func222.trans (congrArg some (by kernel_rfl))
 f267:=Tryz.func250.trans (congrArg some (by kernel_rfl))
 f314:=Tryz.func276.trans (congrArg some (by kernel_rfl))
 t3:=Tryz.underlying3
 a3:=Tryz.isAgg3
 z3:=Tryz.sizeOf3
 v3:=Tryz.zeroValue3
 t4:=Tryz.underlying4
 a4:=Tryz.isAgg4
 z4:=Tryz.sizeOf4
 v4:=Tryz.zeroValue4
 t5:=Tryz.underlying5
 a5:=Tryz.isAgg5
 z5:=Tryz.sizeOf5
 v5:=Tryz.zeroValue5
 t9:=Tryz.underlying9
 a9:=Tryz.isAgg9
 z9:=Tryz.sizeOf9
 v9:=Tryz.zeroValue9
 t46:=Tryz.underlying219
 a46:=Tryz.isAgg219
 z46:=Tryz.sizeOf219
 v46:=Tryz.zeroValue219
 t51:=Tryz.underlying241
 a51:=Tryz.isAgg241
 z51:=Tryz.sizeOf241
 v51:=Tryz.zeroValue241
 t146:=Tryz.underlying270
 a146:=Tryz.isAgg270
 z146:=Tryz.sizeOf270
 v146:=Tryz.zeroValue270
 g1:=by kernel_rfl}
def Tryz.lays240_ren:Go.Shelf.Ren:=⟨fun|240=>93|276=>133|n=>n,fun|0=>0|4=>4|9=>9|20=>20|70=>82|72=>84|164=>168|37=>42|n=>n,fun|n=>n⟩
theorem Tryz.lays240:Go.Proofs.Lays.n240 Tryz.prog Tryz.lays240_ren:={
 mixed:=by kernel_rfl
 f240:=Tryz.func93.trans (congrArg some (by kernel_rfl))
 f276:=Tryz.func133.trans (congrArg some (by kernel_rfl))
 t0:=Tryz.underlying0
 a0:=Tryz.isAgg0
 z0:=Tryz.sizeOf0
 v0:=Tryz.zeroValue0
 t4:=Tryz.underlying4
 a4:=Tryz.isAgg4
 z4:=Tryz.sizeOf4
 v4:=Tryz.zeroValue4
 t9:=Tryz.underlying9
 a9:=Tryz.isAgg9
 z9:=Tryz.sizeOf9
 v9:=Tryz.zeroValue9
 t20:=Tryz.underlying20
 a20:=Tryz.isAgg20
 z20:=Tryz.sizeOf20
 v20:=Tryz.zeroValue20
 t70:=Tryz.underlying82
 a70:=Tryz.isAgg82
 z70:=Tryz.sizeOf82
 v70:=Tryz.zeroValue82
 t72:=Tryz.underlying84
 a72:=Tryz.isAgg84
 z72:=Tryz.sizeOf84
 v72:=Tryz.zeroValue84
 t164:=Tryz.underlying168
 a164:=Tryz.isAgg168
 z164:=Tryz.sizeOf168
 v164:=Tryz.zeroValue168}
theorem Tryz.builderX72:Builder.X72 Tryz.prog Tryz.lays240_ren:={
 sizeBuilder:=by kernel_rfl
 liesBuilder:=by kernel_rfl}
def Tryz.lays169_ren:Go.Shelf.Ren:=⟨fun|169=>54|n=>n,fun|70=>82|9=>9|0=>0|72=>84|37=>42|127=>125|3=>3|5=>5|n=>n,fun|n=>n⟩
theorem Tryz.lays169:Go.Proofs.Lays.n169 Tryz.prog Tryz.lays169_ren:={
 mixed:=by kernel_rfl
 f169:=Tryz.func54.trans (congrArg some (by kernel_rfl))
 t0:=Tryz.underlying0
 a0:=Tryz.isAgg0
 z0:=Tryz.sizeOf0
 v0:=Tryz.zeroValue0
 t3:=Tryz.underlying3
 a3:=Tryz.isAgg3
 z3:=Tryz.sizeOf3
 v3:=Tryz.zeroValue3
 t9:=Tryz.underlying9
 a9:=Tryz.isAgg9
 z9:=Tryz.sizeOf9
 v9:=Tryz.zeroValue9
 t37:=Tryz.underlying42
 a37:=Tryz.isAgg42
 z37:=Tryz.sizeOf42
 v37:=Tryz.zeroValue42
 t70:=Tryz.underlying82
 a70:=Tryz.isAgg82
 z70:=Tryz.sizeOf82
 v70:=Tryz.zeroValue82
 t72:=Tryz.underlying84
 a72:=Tryz.isAgg84
 z72:=Tryz.sizeOf84
 v72:=Tryz.zeroValue84
 t127:=Tryz.underlying125
 a127:=Tryz.isAgg125
 z127:=Tryz.sizeOf125
 v127:=Tryz.zeroValue125}
theorem Tryz.builderExtra:Builder.Extra Tryz.prog Tryz.lays169_ren:={
 sizeBuilder:=by kernel_rfl
 liesBuilder:=by kernel_rfl
 t5:=Tryz.underlying5
 a5:=Tryz.isAgg5
 z5:=Tryz.sizeOf5
 v5:=Tryz.zeroValue5
 infoByte:=by kernel_rfl
 cellsByte:=by kernel_rfl
 sizeByte:=by kernel_rfl
 neB5:=by decide}
end Go.Proofs
end
namespace Go.Proofs.YtbbpilohihldiaaGreatDoor
open Vc Go.RowKit
theorem aJH {g:Gh}{w w':World}(hH:HeapOk g w (enumH 0 [])) (hb:Below w.heap.size w w'):HeapOk g w' (enumH 0 []):=
 ⟨fun _ _ h=>(by cases h),fun _ _ _ _ _ _ _ h=>(by cases h),fun b o h=>Nat.lt_of_lt_of_le (hH.sl b o h) hb.size,⟨L3 hH.tab.1 hb.size fun b h=>hb.block b (Nat.lt_of_lt_of_le h hH.tab.1.1),fun _ _ _ _ h=>(by cases h)⟩⟩
theorem H8 {P:Program}{f:FuncId}{C:List Slot→List Blk→Option Ret}(hen: ∀args w,(callFunc f args).run P w= .ok (.enter f args) w)
  (h: ∀(g:Gh) (w:World) (args:List Slot) (vals:List Value) (L:List Blk) (r:Ret),Tabs w→ArgsOk g w args vals→C args L=some r→(∀p∈r.side,p)→
   L=[]∧r.H=[]∧Calls P f vals.toArray w (fun e w'=> ∃v,e= .returned v∧Below w.heap.size w w'∧RetVals g w' r.ret v)):wF P f C:=by
 refine⟨hen,fun g w args vals L r hH ha hC hs=> ?_⟩
 obtain⟨rfl,hr,hc⟩:=h g w args vals L r hH.tab.1 ha hC hs
 refine hc.mono fun e w' ⟨v,he,hb,hv⟩=>⟨v,g,he,⟨fun b o h=>⟨h,hb.cell (p:=⟨b,o,none⟩) (hH.sl b o h)⟩,by rw[hr];exact aJH hH hb,hv,⟨hb.os,hb.tape,hb.output,hb.size,fun b h _=>hb.block b h,fun b o h _=>⟨hb.cell (p:=⟨b,o,none⟩) h,hb.frozen (p:=⟨b,o,none⟩) h⟩,fun b o h=> .inl h,fun b s h=> .inl ((AS (hb.block b (AR h))).trans h)⟩,(fun i blk b o h=>by rw[hr] at h;cases h),(fun i t x ts h=>by cases h),(fun i t x ts u y us h=>by cases h),(fun _ _ _ h=>h),(fun _ _ _ _ h=>h)⟩⟩
theorem aAB {P:Program}{f:FuncId}{vals:Array Value}{w:World}{Q:Ending→Prop}(h:Calls P f vals w fun e w'=>Q e∧w'=w):Calls P f vals w fun e w'=>Q e∧Below w.heap.size w w':=
 h.mono fun e w' ⟨h1,h2⟩=>⟨h1,by rw[h2];exact Below.refl _ _⟩
def s3 (s:List UInt8) (c:Int):Int:=Lib.indexByte s (Int.toNat c).toUInt8
@[go_sem] def WZ:List Slot→List Blk→Option Ret
 |[(.val .str O,none),(.val (.int .u8) Z,none)],[]=>some ⟨[],[(.val (.int .i64) (s3 O Z),none)],[]⟩
 |_,_=>none
set_option maxRecDepth 100000 in
theorem aJI:wF Tryz.prog 135 WZ:=by
 refine H8 (fun _ _=>rfl) fun g w args vals L r hT ha hC hs=> ?_
 unfold WZ at hC
 split at hC
 ·rename_i s c
  cases hC
  obtain⟨va,_,rfl,ra,vb,_,rfl,rb,hv⟩:=ha
  obtain rfl:=vQ ra.1
  obtain rfl:=tH rb.1
  cases hv
  exact⟨rfl,rfl,(aAB (Any.strings_IndexByte Tryz.lays137 ⟨List.toArray s⟩ c w)).mono fun e w' ⟨he,hb⟩=>⟨_,he,hb,tT _ _ _ _,trivial⟩⟩
 ·cases hC
@[go_sem] def X0:List Slot→List Blk→Option Ret
 |[(.val .str O,none)],[]=>some ⟨[List.length O≤9223372036854775807],[(.val .bool (Lib.validD O),none)],[]⟩
 |_,_=>none
set_option maxRecDepth 100000 in
theorem aJJ:wF Tryz.prog 243 X0:=by
 refine H8 (fun _ _=>rfl) fun g w args vals L r hT ha hC hs=> ?_
 unfold X0 at hC
 split at hC
 ·rename_i s
  cases hC
  have h1:=hs _ List.mem_cons_self
  obtain⟨va,_,rfl,ra,hv⟩:=ha
  obtain rfl:=vQ ra.1
  cases hv
  exact⟨rfl,rfl,(Any.utf8_ValidString Tryz.lays196 ⟨List.toArray s⟩ w h1 hT.2.1).mono fun e w' ⟨he,hb⟩=>⟨_,he,hb,tU _ _ _,trivial⟩⟩
 ·cases hC
end Go.Proofs.YtbbpilohihldiaaGreatDoor
namespace Go.Proofs.YtbbpilohihldiaaGreatDoor
open Vc Go.RowKit
@[go_sem] def g6:List Slot→List Blk→Option Ret:=fun _ _=>none
def u7 (l:List (List UInt8)):List (List UInt8):=l.mergeSort fun x y=>decide (x≤y)
@[go_sem] def aAD:(t:Ty)→List t.den→Option (List t.den)
 | .str,l=>some (u7 l)
 |_,_=>none
theorem aAE {g:Gh}{w:World}: ∀{l:List (List UInt8)}{xs:List Value},rK (Rd g w .str) 1 l xs→xs=l.map Go.Proofs.encStr
 |[],_,h=>h
 |_::_,_,⟨c1,c2,e,_,h2,h3⟩=>by rw[e,show c1=_ from h2,aAE h3];rfl
theorem aAF {g:Gh}{w:World}: ∀(l:List (List UInt8)),rK (Rd g w .str) 1 l (l.map Go.Proofs.encStr)
 |[]=>rfl
 |x::l=>⟨[.string ⟨x.toArray⟩],_,rfl,rfl,rfl,aAF l⟩
theorem aJK (s:List (List UInt8)) (cur:Array Value) (h:s.length≤cur.size):(Go.Sort.putCells Go.Proofs.encStr 0 s.toArray cur).toList.take s.length=s.map Go.Proofs.encStr:=by
 apply List.ext_getElem
 ·simp [Go.Sort.putCells];omega
 ·intro i h1 h2
  have hi:i<s.length:=by simpa using h2
  simp only[Go.Sort.putCells,List.getElem_take,Array.getElem_toList,Array.getElem_mapIdx,List.getElem_map]
  rw[if_pos (by simp;exact hi)]
  simp [hi]
set_option maxRecDepth 100000 in
theorem aJL:wF Tryz.prog 147 g6∧∀F,some aAD=some F→QL Tryz.prog 147 F:=by
 refine⟨⟨fun _ _=>rfl,fun g w args vals L r _ _ hC _=>by cases hC⟩,fun F hF=> ?_⟩
 cases hF
 intro g w e t l l' v n xs hT hown hF hl hn hf
 cases t with
 |str=>
  have hf:u7 l=l':=Option.some.inj hf
  subst hf
  subst hl
  have hlen:(u7 l).length=l.length:=by simp [u7]
  obtain⟨hx,⟨rfl,h0⟩ |⟨b,cap,cur,rfl,hb0,hbk,hnc,hcm,hcs,htk⟩⟩:=hown
  ·obtain rfl:l=[]:=List.length_eq_zero_iff.1 h0
   refine(Any.slices_Sort_string_none Tryz.lays190 none 0 w).mono ?_
   rintro en w' ⟨rfl,rfl⟩
   exact⟨rfl,hlen,[],⟨rfl,.inl ⟨rfl,rfl⟩⟩,by simp [u7,rK],⟨rfl,rfl,rfl,Nat.le_refl _,fun _ _ _=>rfl⟩⟩
  ·have hxs:=aAE hF
   subst hxs
   have hc1:(Ty.str).cells=1:=rfl
   rw[hc1,Nat.mul_one] at hcs htk
   have hbl:b<w.heap.size:=by
    rcases Nat.lt_or_ge b w.heap.size with h|h
    ·exact h
    ·rw[Array.getElem?_eq_none h] at hbk;cases hbk
   have hH:Go.Sort.Holds Go.Proofs.encStr w b 0 l.toArray:=by
    intro j hj
    have hj':j<l.length:=by simpa using hj
    refine⟨?_,Lib.frozen_of_heap hbk _⟩
    rw[Lib.cell_of_heap hbk,Nat.zero_add]
    have h2:(cur.toList.take l.length)[j]? =(l.map Go.Proofs.encStr)[j]? :=by rw[htk]
    rw[List.getElem?_take_of_lt hj',Array.getElem?_toList] at h2
    rw[h2]
    simp [hj']
   refine(Any.slices_Sort_string Tryz.lays190 b 0 cap l w hH hbl hn).mono ?_
   rintro en w' ⟨rfl,m,os,rfl⟩
   have hsz:(u7 l).length≤cur.size:=by rw[hlen,hcs];exact hnc
   have hnew:(Go.Sort.grow (Go.Sort.putRow Go.Proofs.encStr (Go.Sort.ahead w m) b 0 (u7 l).toArray) os).heap[b]? =some (.cells (Go.Sort.putCells Go.Proofs.encStr 0 (u7 l).toArray cur) e (0,0)):=by
    rw[Go.Sort.heap_grow_old _ _ (by simpa using hbl)]
    simp [Go.Sort.putRow,Go.Sort.mapBlock,Array.getElem?_modify,hbk,Go.Sort.onCells]
   refine⟨rfl,hlen,(u7 l).map Go.Proofs.encStr,⟨by simp [hlen,hc1],.inr ⟨b,cap,_,rfl,hb0,hnew,hnc,hcm,?_,?_⟩⟩,aAF _,⟨rfl,rfl,rfl,by simp,fun k hk hne=> ?_⟩⟩
   ·rw[hc1,Nat.mul_one];simpa[Go.Sort.putCells] using hcs
   ·rw[hc1,Nat.mul_one,←hlen];exact aJK _ _ hsz
   ·rw[Go.Sort.heap_grow_old _ _ (by simpa using hk)]
    have hkb:b≠k:=fun h=>hne (by rw[h];rfl)
    simp [Go.Sort.putRow,Go.Sort.mapBlock,Array.getElem?_modify,hkb]
 |_=>cases hf
def JG (s c:List UInt8):Int:=Lib.index s c
@[go_sem] def X1:List Slot→List Blk→Option Ret
 |[(.val .str O,none),(.val .str Z,none)],[]=>some ⟨[List.length O<4294967281],[(.val (.int .i64) (JG O Z),none)],[]⟩
 |_,_=>none
set_option maxRecDepth 100000 in
theorem aJM:wF Tryz.prog 173 X1:=by
 refine H8 (fun _ _=>rfl) fun g w args vals L r hT ha hC hs=> ?_
 unfold X1 at hC
 split at hC
 ·rename_i s c
  cases hC
  have h1:=hs _ List.mem_cons_self
  obtain⟨va,_,rfl,ra,vb,_,rfl,rb,hv⟩:=ha
  obtain rfl:=vQ ra.1
  obtain rfl:=vQ rb.1
  cases hv
  obtain⟨m,hm⟩:=hT.2.2.1
  exact⟨rfl,rfl,(aAB (Any.strings_Index Tryz.lays143 ⟨List.toArray s⟩ ⟨List.toArray c⟩ m w h1 hm)).mono fun e w' ⟨he,hb⟩=>⟨_,he,hb,tT _ _ _ _,trivial⟩⟩
 ·cases hC
@[go_sem] def X2:List Slot→List Blk→Option Ret
 |[(.val .ref (some (0,0)),none)],[.cells (.pair .mref (.pair (.list (.int .u8)) .unit)) ((some (0,0)),O) [(1,1)],.grow Z 1 aA]=>some ⟨[aA=List.length O.1],[],[.cells (.pair .mref (.pair (.list (.int .u8)) .unit)) ((some (0,0)),O) [(1,1)],.grow Z 1 aA]⟩
 |_,_=>none
theorem aJN {g:Gh}{w:World}{L:List Blk}{e:Eff}{w':World}{u v:Value}{r:Ret}(hE:EffOk g w (enumH 0 L) e g w' u)
  (hH: ∀i,getH (enumH 0 r.H) i=getH (app e.upd (enumH 0 L)) i) (hin: ∀i,i∈idsOf e.upd→i<L.length) (hlen:r.H.length=L.length)
  (hp: ∀i blk b o,r.H[i]? =some blk→owns g i blk b o→w.heap.size≤b∨ownsAny g (enumH 0 L) b o)
  (hty: ∀(i:Nat) t x ts u y us,L[i]? =some (.cells t x ts)→r.H[i]? =some (.cells u y us)→u=t)
  (hret:RetVals g w' r.ret v):RetOk g w L r g w' v:=
 ⟨fun b o h=>⟨h,hE.le.cell b o h⟩,hE.heap.ext hH,hret,hE.fr.mono fun b o ⟨i,blk,_,h1,h2⟩=>⟨i,blk,h1,h2⟩,hp,fun _ _ _ _ _=>rfl,hty,fun _ _ _ h=>h,fun _ _ _ _ h=>h⟩
set_option maxHeartbeats 1000000 in
set_option maxRecDepth 100000 in
theorem aJO {P:Program}{ρ:Go.Shelf.Ren}(L:Lays.n240 P ρ) (X:Builder.X72 P ρ) {e:TypeId}(b:Nat) (w:World) (h0:w.cell? ⟨b,0,none⟩=some (.pointer none)) (hsh:w.shape? b=some (e,2)) (hl:liesAt P P.depth e (2/P.cellsOf e) 0 (ρ.t 72) 1=true) (hfz:w.frozen? ⟨b,0,none⟩=false):
  Calls P (ρ.f 240) #[.pointer (some ⟨b,0,none⟩)] w fun en w'=>en= .returned (.tuple #[])∧w'=w.setCell ⟨b,0,none⟩ (.pointer (some ⟨b,0,none⟩)):=by
 obtain⟨j,hj,hjs⟩:=Option.map_eq_some_iff.1 X.sizeBuilder
 have mixed:=L.mixed
 have t72:=L.t72;have a72:=L.a72;have z72:=L.z72;have v72:=L.v72;have u72:=run_underlying L.t72
 have t70:=L.t70;have a70:=L.a70;have z70:=L.z70;have v70:=L.v70;have u70:=run_underlying L.t70
 have t9:=L.t9;have a9:=L.a9;have z9:=L.z9;have v9:=L.v9;have u9:=run_underlying L.t9
 have t4:=L.t4;have a4:=L.a4;have z4:=L.z4;have v4:=L.v4;have u4:=run_underlying L.t4
 have t164:=L.t164;have a164:=L.a164;have z164:=L.z164;have v164:=L.v164;have u164:=run_underlying L.t164
 go_enter L.f240,Body.n240_ntmps ρ
 go_wp2
 rw[Lib.run_to_unsafe w ⟨b,0,none⟩ L.t70 L.t164 hj (by rw[hjs];decide) hsh (Nat.zero_lt_succ 1)]
 simp only[Result.andThen]
 rw[Oper.upon_value]
 go_wp2
 rw[run_callFunc_extern L.f276 (by kernel_rfl) (by kernel_rfl) (by kernel_rfl) (e:=Extern.AbiNoEscape.same) (by kernel_rfl)]
 rw[Lib.run_noEscape]
 simp only[Result.andThen]
 rw[Oper.upon_value]
 go_wp2
 rw[Lib.run_from_unsafe w ⟨b,0,none⟩ L.t164 L.t70 hj hsh hl]
 simp only[Result.andThen]
 rw[Oper.upon_value]
 go_wp2
 go_end0
 exact⟨rfl,rfl⟩
set_option maxRecDepth 100000 in
theorem aJP:wF Tryz.prog 93 X2:=by
 refine⟨fun _ _=>rfl,fun g w args vals L r hH ha hC hs=> ?_⟩
 unfold X2 at hC
 split at hC
 ·rename_i O Z aA
  cases hC
  obtain⟨va,_,rfl,ra,hv⟩:=ha
  cases hv
  have hg0:getH (enumH 0 [Blk.cells (.pair .mref (.pair (.list (.int .u8)) .unit)) ((some (0,0)),O) [(1,1)],.grow Z 1 aA]) 0=some (.cells (.pair .mref (.pair (.list (.int .u8)) .unit)) ((some (0,0)),O) [(1,1)]):=rfl
  obtain⟨p,cs,hJ,hR,hra,hth,hns,htk⟩:=hH.blk 0 _ hg0
  obtain⟨c1,c2,rfl,hR1,hR2⟩:=hR
  obtain⟨p',hJ',⟨hp0,eb,heb,hk3⟩,hc1⟩:=hR1
  rw[hJ] at hJ'
  obtain rfl:=Option.some.inj hJ'
  obtain⟨b,o,k⟩:=p
  have ho:o=0:=by simpa using hp0
  subst ho
  have hlies:liesAt Tryz.prog Tryz.prog.depth eb (2/Tryz.prog.cellsOf eb) 0 84 1=true:=by
   unfold U9 at heb
   split at heb
   ·rename_i h;subst h;kernel_rfl
   ·split at heb
    ·rename_i h;subst h;kernel_rfl
    ·cases heb
  have hva:va= .pointer (some ⟨b,0,none⟩):=by
   obtain⟨q,hq,e⟩:=xY ra.1
   rw[hJ] at hq
   cases hq
   exact e
  subst hva
  have hsh:w.shape? b=some (eb,2):=hth.2 (by decide) _ hk3
  rcases hc1 with rfl|rfl
  ·have h0:w.cell? ⟨b,0,none⟩=some (.pointer none)∧w.frozen? ⟨b,0,none⟩=false:=⟨hra 0 _ rfl,(hth.1 0 (by decide)).2⟩
   refine(aJO Tryz.lays240 Tryz.builderX72 b w h0.1 hsh hlies h0.2).mono ?_
   rintro en w' ⟨rfl,rfl⟩
   refine⟨_,g,rfl,?_⟩
   have hE:=EffOk.store (side:=[]) (rds:=[]) hH (i:=0) (t:= .mref) (y:=some (0,0)) (off:=0) (k:=none) (p:=⟨b,0,k⟩) (cy:=[.pointer (some ⟨b,0,none⟩)]) (v:= .pointer (some ⟨b,0,none⟩)) hg0 hJ (z:=((some (0,0)),O)) (by rfl) ⟨_,hJ,⟨rfl,_,heb,hk3⟩,.inr rfl⟩ trivial (fun _ _ h=>by cases h) (fun _=>rfl)
   refine aJN hE.1 ?_ ?_ rfl ?_ ?_ ?_
   ·intro i
    match i with
    |0=>rfl
    |1=>rfl
    |i+2=>rfl
   ·intro i hi
    simp [idsOf] at hi
    subst hi
    exact Nat.zero_lt_succ _
   ·intro i blk b o hi ho
    exact .inr ⟨i,blk,by rw[QK];simpa using hi,ho⟩
   ·intro i t x ts u y us h1 h2
    rw[h1] at h2
    cases h2
    rfl
   ·exact⟨[],rfl,rfl⟩
  ·have h0:w.cell? ⟨b,0,none⟩=some (.pointer (some ⟨b,0,none⟩)):=hra 0 _ rfl
   refine(Any.Builder_copyCheck_used Tryz.lays240 Tryz.builderX72 b w h0).mono ?_
   rintro en w' ⟨rfl,rfl⟩
   refine⟨_,g,rfl,⟨fun b o h=>⟨h,rfl⟩,hH,⟨[],rfl,rfl⟩,Fr.refl _ _ _,?_,fun _ _ _ _ _=>rfl,?_,fun _ _ _ h=>h,fun _ _ _ _ h=>h⟩⟩
   ·intro i blk b o hi ho
    exact .inr ⟨i,blk,by rw[QK];simpa using hi,ho⟩
   ·intro i t x ts u y us h1 h2
    rw[h1] at h2
    cases h2
    rfl
 ·cases hC
theorem aAG {P:Program}(w:World): ∀(l:List Int) (a:Addr) (acc:ByteArray),(∀j x,l[j]? =some x→w.cell? (a.add j)=some (.int .u8 x))→
  (loadBytes a acc l.length).run P w= .ok ⟨acc.data++(qY l).toArray⟩ w
 |[],a,acc,_=>by simp [loadBytes,qY]
 |x::l,a,acc,h=>by
  have h0:w.cell? a=some (.int .u8 x):=by
   have:=h 0 x rfl
   simpa[Addr.add] using this
  have ih:=aAG (P:=P) w l (a.add 1) (acc.push (UInt8.ofNat x.toNat)) (fun j y hy=>by
   have:=h (j+1) y (by simpa using hy)
   have e:(a.add 1).add j=a.add (j+1):=by
    unfold Addr.add
    by_cases hj:j=0
    ·subst hj;simp
    ·simp [hj];omega
   rw[e];exact this)
  have hx:x.toNat.toUInt8=UInt8.ofNat x.toNat:=rfl
  simp only[List.length_cons,loadBytes,Sem.run_bind,run_load,h0,Result.andThen,hx]
  rw[ih]
  congr 1
  apply ByteArray.ext
  simp [ByteArray.push,qY]
theorem aJQ {P:Program}(w:World) (pt it ty e:TypeId) (hp:P.underlying pt=some (.pointer e)) (hc:P.cellsOf e=1) (g cells:Nat) (hsh:w.shape? g=some (e,cells)) (l:List Int) (h0:l≠[]) (hn:l.length≤cells) (h63:l.length≤9223372036854775807)
  (hcell: ∀j x,l[j]? =some x→w.cell? ((⟨g,0,none⟩:Addr).add j)=some (.int .u8 x)):
  (Builtin.unsafeString_ #[pt,it] ty #[.pointer (some ⟨g,0,none⟩),.int .i64 l.length]).run P w= .ok (.string ⟨(qY l).toArray⟩) (w.freeze ⟨g,0,none⟩ l.length):=by
 have hl:l.length≠0:=by simpa using h0
 have hlb:=aAG (P:=P) w l ⟨g,0,none⟩ .empty hcell
 have hlies:=Lib.liesAt_bytes (P:=P) hc (cells/P.cellsOf e) l.length (by rw[hc];simpa using hn)
 have h63': ¬(9223372036854775807:Int)<(l.length:Int):=by omega
 have hdef:Builtin.unsafeString_ #[pt,it] ty #[.pointer (some ⟨g,0,none⟩),.int .i64 l.length]=
   (do
    let n←asInt (.int .i64 l.length)
    if n<0 then runtimePanic (.error "unsafe.String: len out of range")
    if n>IntKind.i64.max then unsupported (.unsafePointer "String: a length above the largest int")
    if n=0 then pure (.string .empty)
    else if←variablesAt ⟨g,0,none⟩ (←elemOf pt) n.toNat then do
     let s←loadBytes ⟨g,0,none⟩ .empty n.toNat
     freeze ⟨g,0,none⟩ n.toNat
     pure (.string s)
    else unsupported (.unsafePointer "String: not so many bytes at ptr")):=rfl
 rw[hdef]
 have hmax:IntKind.i64.max=9223372036854775807:=rfl
 have hneg: ¬(l.length:Int)<0:=by omega
 simp [asInt,asIntOf,hmax,h63',hneg,hl,variablesAt,hsh,elemOf,run_underlying hp,hlies,hlb]
set_option maxHeartbeats 2000000 in
set_option maxRecDepth 100000 in
theorem X3 {P:Program}{ρ:Go.Shelf.Ren}(L:Lays.n169 P ρ) (X:Builder.Extra P ρ) (b n cap:Nat) (a q:Option Addr) (s:ByteArray) (w w2:World)
  (c1:w.drew.cell? ⟨b,1,none⟩=some (.slice a n cap)) (hSD:(Builtin.unsafeSliceData_ #[(ρ.t 37)] (ρ.t 127) #[.slice a n cap]).run P w.drew= .ok (.pointer q) w.drew)
  (hUS:(Builtin.unsafeString_ #[(ρ.t 127),(ρ.t 3)] (ρ.t 9) #[.pointer q,.int .i64 n]).run P w.drew= .ok (.string s) w2):
  Calls P (ρ.f 169) #[.pointer (some ⟨b,0,none⟩)] w fun e w'=>e= .returned (.string s)∧w'=w2:=by
 have mixed:=L.mixed
 have t72:=L.t72;have a72:=L.a72;have z72:=L.z72;have v72:=L.v72;have u72:=run_underlying L.t72
 have t70:=L.t70;have a70:=L.a70;have z70:=L.z70;have v70:=L.v70;have u70:=run_underlying L.t70
 have t37:=L.t37;have a37:=L.a37;have z37:=L.z37;have v37:=L.v37;have u37:=run_underlying L.t37
 have t127:=L.t127;have a127:=L.a127;have z127:=L.z127;have v127:=L.v127;have u127:=run_underlying L.t127
 have t3:=L.t3;have a3:=L.a3;have z3:=L.z3;have v3:=L.v3;have u3:=run_underlying L.t3
 have t9:=L.t9;have a9:=L.a9;have z9:=L.z9;have v9:=L.v9;have u9:=run_underlying L.t9
 have t5:=X.t5;have a5:=X.a5;have z5:=X.z5;have v5:=X.v5;have u5:=run_underlying X.t5
 go_enter L.f169,Body.n169_ntmps ρ
 go_wp2
 go_region_o
 all_goals (go_wp2;go_ret;exact⟨rfl,rfl⟩)
set_option maxHeartbeats 2000000 in
set_option maxRecDepth 100000 in
theorem aJR {P:Program}{ρ:Go.Shelf.Ren}(L:Lays.n169 P ρ) (X:Builder.Extra P ρ) (b g:Nat) (cur:Array Value) (w:World) (hlt:b<w.heap.size)
  (c1:w.drew.cell? ⟨b,1,none⟩=some (.slice (some ⟨g,0,none⟩) 0 0)) (hg:w.drew.heap[g]? =some (.cells cur (ρ.t 5) (0,0))):
  Calls P (ρ.f 169) #[.pointer (some ⟨b,0,none⟩)] w fun e w'=>e= .returned (.string ⟨#[]⟩)∧w'=w.drew.alloc (.view ⟨g,0,none⟩ (ρ.t 5)):=by
 have hUS:=Any.unsafeString_none L X
 have hSD:(Builtin.unsafeSliceData_ #[(ρ.t 37)] (ρ.t 127) #[.slice (some ⟨g,0,none⟩) 0 0]).run P w.drew= .ok (.pointer (some ⟨w.drew.heap.size,0,none⟩)) (w.drew.alloc (.view ⟨g,0,none⟩ (ρ.t 5))):=
  Lib.run_unsafeSliceData_zero w.drew _ _ (ρ.t 5) L.t127 ⟨g,0,none⟩ 0 ((ρ.t 5),cur.size) (by simp [World.shape?,hg])
 have c2:(w.drew.alloc (.view ⟨g,0,none⟩ (ρ.t 5))).cell? ⟨b,1,none⟩=some (.slice (some ⟨g,0,none⟩) 0 0):=
  (World.cell?_of_block (a:=⟨b,1,none⟩) (Lib.alloc_old w.drew _ b hlt)).trans c1
 have c3:(w.alloc (.view ⟨g,0,none⟩ (ρ.t 5))).drew.cell? ⟨b,1,none⟩=some (.slice (some ⟨g,0,none⟩) 0 0):=c2
 have c0:w.cell? ⟨b,1,none⟩=some (.slice (some ⟨g,0,none⟩) 0 0):=c1
 have mixed:=L.mixed
 have t72:=L.t72;have a72:=L.a72;have z72:=L.z72;have v72:=L.v72;have u72:=run_underlying L.t72
 have t70:=L.t70;have a70:=L.a70;have z70:=L.z70;have v70:=L.v70;have u70:=run_underlying L.t70
 have t37:=L.t37;have a37:=L.a37;have z37:=L.z37;have v37:=L.v37;have u37:=run_underlying L.t37
 have t127:=L.t127;have a127:=L.a127;have z127:=L.z127;have v127:=L.v127;have u127:=run_underlying L.t127
 have t3:=L.t3;have a3:=L.a3;have z3:=L.z3;have v3:=L.v3;have u3:=run_underlying L.t3
 have t9:=L.t9;have a9:=L.a9;have z9:=L.z9;have v9:=L.v9;have u9:=run_underlying L.t9
 have t5:=X.t5;have a5:=X.a5;have z5:=X.z5;have v5:=X.v5;have u5:=run_underlying X.t5
 go_enter L.f169,Body.n169_ntmps ρ
 go_wp2
 go_region_o
 all_goals (go_wp2;go_ret;exact⟨rfl,rfl⟩)
@[go_sem] def X4:List Slot→List Blk→Option Ret
 |[(.val .ref (some (0,0)),none)],[.cells (.pair .mref (.pair (.list (.int .u8)) .unit)) ((some (0,0)),O) [(1,1)],.grow 5 1 Z]=>some ⟨[Z=List.length O.1],[(.val .str (qY O.1),none)],[.cells (.pair .mref (.pair (.list (.int .u8)) .unit)) ((some (0,0)),O) [],.dead]⟩
 |_,_=>none
theorem X5 {g:Gh}{w w':World}{m:Option (Nat×Nat)}{b:(Ty.pair (.list (.int .u8)) .unit).den}{e n:Nat}{s:List UInt8}{sd:List Prop}(hH:HeapOk g w (enumH 0 [Blk.cells (.pair .mref (.pair (.list (.int .u8)) .unit)) (m,b) [(1,1)],.grow e 1 n]))
  (hos:w'.os=w.os) (htape:w'.tape=w.tape) (hout:w'.output=w.output) (hsz:w.heap.size≤w'.heap.size)
  (hcell: ∀b o,b<w.heap.size→w'.cell? ⟨b,o,none⟩=w.cell? ⟨b,o,none⟩) (hshape: ∀b s,w.shape? b=some s→w'.shape? b=some s)
  (hblk: ∀b,b<w.heap.size→(∀o,¬owns g 1 (.grow e 1 n) b o)→w'.heap[b]? =w.heap[b]?):
  RetOk g w [Blk.cells (.pair .mref (.pair (.list (.int .u8)) .unit)) (m,b) [(1,1)],.grow e 1 n] ⟨sd,[(.val .str s,none)],[.cells (.pair .mref (.pair (.list (.int .u8)) .unit)) (m,b) [],.dead]⟩ g w' (.string ⟨s.toArray⟩):=by
 have hg0:getH (enumH 0 [Blk.cells (.pair .mref (.pair (.list (.int .u8)) .unit)) (m,b) [(1,1)],.grow e 1 n]) 0=some (.cells (.pair .mref (.pair (.list (.int .u8)) .unit)) (m,b) [(1,1)]):=rfl
 have hg1:getH (enumH 0 [Blk.cells (.pair .mref (.pair (.list (.int .u8)) .unit)) (m,b) [(1,1)],.grow e 1 n]) 1=some (.grow e 1 n):=rfl
 have hle:Le g w g w':=⟨fun _ _ h=>h,fun b o h=>hcell b o (hH.sl b o h),fun _ _ h=>h,fun _ _ _ h=>h⟩
 have hno: ∀c o,owns g 0 (.cells (.pair .mref (.pair (.list (.int .u8)) .unit)) (m,b) [(1,1)]) c o→∀o',¬owns g 1 (.grow e 1 n) c o':=fun c o h o' h'=>by
  obtain⟨v,hv,hb⟩:=h'
  exact hH.dis 0 1 _ _ c o (by decide) hg0 hg1 h ⟨v,hv,hb⟩
 obtain⟨p,cs,hJ,hR,hra,hth,hns,htk⟩:=hH.blk 0 _ hg0
 have hown0: ∀j,j<2→owns g 0 (.cells (.pair .mref (.pair (.list (.int .u8)) .unit)) (m,b) [(1,1)]) p.1 (p.2+j):=fun j hj=>⟨p,hJ,rfl,Nat.le_add_right _ _,Nat.add_lt_add_left hj _⟩
 have hpl:p.1<w.heap.size:=LT (hH.blk 0 _ hg0) (hown0 0 (by decide))
 have hpb:w'.heap[p.1]? =w.heap[p.1]? :=hblk p.1 hpl (hno p.1 _ (hown0 0 (by decide)))
 have hbk0:BlkOk g w' 0 (.cells (.pair .mref (.pair (.list (.int .u8)) .unit)) (m,b) []):=
  ⟨p,cs,hJ,uV hle hR,fun j v hj=>(hcell _ _ hpl).trans (hra j v hj),⟨fun j hj=>by
   have h1:=hth.1 j hj
   rw[hcell _ _ hpl]
   exact⟨h1.1,(World.frozen?_of_block (a:=⟨p.1,p.2+j,none⟩) hpb).trans h1.2⟩,fun h s hs=>hshape _ _ (hth.2 h s hs)⟩,hns,fun _ _ h=>by cases h⟩
 refine⟨fun b o h=>⟨h,hcell b o (hH.sl b o h)⟩,?_,(show RdS g w' (.val .str s,none) (.string ⟨s.toArray⟩) from⟨D6 _ _ _,trivial⟩),⟨hos,htape,hout,hsz,?_,?_,fun _ _ h=> .inl h,fun b s h=> .inl (hshape b s h)⟩,?_,fun _ _ _ _ _=>rfl,?_,fun _ _ _ h=>h,fun _ _ _ _ h=>h⟩
 ·refine⟨fun i blk h=> ?_,fun i j bi bj c o hij hi hj hoi hoj=> ?_,fun b o h=>Nat.lt_of_lt_of_le (hH.sl b o h) hsz,L3 hH.tab.1 hsz (fun c hc=>hblk c (Nat.lt_of_lt_of_le hc hH.tab.1.1) fun o ho=>absurd (hH.tab.2 1 _ c o hg1 ho) (by omega)),fun i blk c o h ho=> ?_⟩
  ·match i,h with
   |0,h=>cases h;exact hbk0
   |1,h=>cases h;trivial
   |i+2,h=>simp [enumH,getH] at h
  ·match i,j,hi,hj with
   |0,0,_,_=>exact hij rfl
   |0,1,_,hj=>cases hj;exact hoj
   |1,_,hi,_=>cases hi;exact hoi
   |0,j+2,_,hj=>simp [enumH,getH] at hj
   |i+2,_,hi,_=>simp [enumH,getH] at hi
  ·match i,h with
   |0,h=>cases h;exact hH.tab.2 0 _ c o hg0 ho
   |1,h=>cases h;exact ho.elim
   |i+2,h=>simp [enumH,getH] at h
 ·intro c hc hn
  exact hblk c hc fun o ho=>hn o ⟨1,_,hg1,ho⟩
 ·intro c o hc hn
  exact⟨hcell c o hc,World.frozen?_of_block (a:=⟨c,o,none⟩) (hblk c hc fun o' ho=>hn ⟨1,_,hg1,by obtain⟨v,hv,hb⟩:=ho;exact⟨v,hv,hb⟩⟩)⟩
 ·intro i blk c o hi ho
  match i,hi with
  |0,hi=>cases hi;exact .inr ⟨0,_,hg0,ho⟩
  |1,hi=>cases hi;exact ho.elim
  |i+2,hi=>simp at hi
 ·intro i t x ts u y us h1 h2
  match i,h1,h2 with
  |0,h1,h2=>cases h1;cases h2;rfl
  |1,h1,_=>cases h1
  |i+2,h1,_=>simp at h1
theorem aJS (w:World) (a p:Addr) (n:Nat):(w.freeze a n).cell? p=w.cell? p:=by
 unfold World.freeze
 split
 ·rfl
 ·simp only[World.cell?,Array.getElem?_modify]
  by_cases h:a.block=p.block
  ·rw[if_pos h]
   cases w.heap[p.block]? with
   |none=>rfl
   |some o=>cases o<;>rfl
  ·rw[if_neg h]
theorem aJT (w:World) (a:Addr) (n b:Nat):(w.freeze a n).shape? b=w.shape? b:=by
 unfold World.freeze
 split
 ·rfl
 ·simp only[World.shape?,Array.getElem?_modify]
  by_cases h:a.block=b
  ·rw[if_pos h]
   cases w.heap[b]? with
   |none=>rfl
   |some o=>cases o<;>rfl
  ·rw[if_neg h]
theorem aJU (w:World) (a:Addr) (n b:Nat) (h:b≠a.block):(w.freeze a n).heap[b]? =w.heap[b]? :=by
 unfold World.freeze
 split
 ·rfl
 ·simp only[Array.getElem?_modify]
  rw[if_neg (Ne.symm h)]
theorem aJV (w:World) (a:Addr) (n:Nat):(w.freeze a n).os=w.os∧(w.freeze a n).tape=w.tape∧(w.freeze a n).output=w.output∧(w.freeze a n).heap.size=w.heap.size:=by
 unfold World.freeze
 split
 ·exact⟨rfl,rfl,rfl,rfl⟩
 ·exact⟨rfl,rfl,rfl,by simp⟩
theorem aAH {g:Gh}{w:World}{b:Nat}: ∀{l:List Int}{o:Nat},vH (Rd g w (.int .u8)) w g.S 1 b o l→∀j x,l[j]? =some x→w.cell? ⟨b,o+j,none⟩=some (.int .u8 x)
 |[],_,_,_,_,h=>by cases h
 |y::l,o,⟨⟨cs,_,hra,_,hR⟩,hl⟩,j,x,h=>by
  match j,h with
  |0,h=>
   cases h
   have hR:cs=[.int .u8 y]:=hR
   subst hR
   exact hra 0 _ rfl
  |j+1,h=>
   have:=aAH hl j x (by simpa using h)
   rw[show o+(j+1)=o+1+j by omega]
   exact this
theorem aJW {u:Ty}{m:Option (Nat×Nat)}{bv:(Ty.pair (.list (.int .u8)) .unit).den}{l:List u.den}(hget:pX (.list u) (.pair .mref (.pair (.list (.int .u8)) .unit)) (m,bv) 1=some l):l.length=bv.1.length:=by
 have h2:pX (.list u) (.list (.int .u8)) bv.1 0=some l:=hget
 simp only[pX] at h2
 split at h2
 ·rename_i h
  injection h with h
  subst h
  cases h2
  rfl
 ·cases h2
set_option maxRecDepth 100000 in
theorem aJX:wF Tryz.prog 54 X4:=by
 refine⟨fun _ _=>rfl,fun g w args vals L r hH ha hC hs=> ?_⟩
 unfold X4 at hC
 split at hC
 ·rename_i bv n
  cases hC
  obtain rfl:n=List.length bv.1:=hs _ (by simp)
  obtain⟨va,_,rfl,ra,hv⟩:=ha
  cases hv
  have hg0:getH (enumH 0 [Blk.cells (.pair .mref (.pair (.list (.int .u8)) .unit)) ((some (0,0)),bv) [(1,1)],.grow 5 1 (List.length bv.1)]) 0=some (.cells (.pair .mref (.pair (.list (.int .u8)) .unit)) ((some (0,0)),bv) [(1,1)]):=rfl
  have hg1:getH (enumH 0 [Blk.cells (.pair .mref (.pair (.list (.int .u8)) .unit)) ((some (0,0)),bv) [(1,1)],.grow 5 1 (List.length bv.1)]) 1=some (.grow 5 1 (List.length bv.1)):=rfl
  obtain⟨p,cs,hJ,hR,hra,hth,hns,htk⟩:=hH.blk 0 _ hg0
  obtain⟨v',xs,hv',hown,hmax,hsl⟩:=hH.blk 1 _ hg1
  obtain⟨c1,c2,rfl,hR1,hR2⟩:=hR
  obtain⟨d1,d2,rfl,⟨a,cap,rfl,hcap,hl⟩,hd2⟩:=hR2
  obtain⟨p',hJ',⟨hp0,_,_,_⟩,hc1⟩:=hR1
  rw[hJ] at hJ'
  obtain rfl:=Option.some.inj hJ'
  obtain⟨b,o,k⟩:=p
  have ho:o=0:=by simpa using hp0
  subst ho
  have hlen1:c1.length=1:=by rcases hc1 with rfl|rfl<;>rfl
  obtain⟨q,hq,hva⟩:=xY ra.1
  rw[hJ] at hq
  cases hq
  subst hva
  have hcell1:w.cell? ⟨b,1,none⟩=some (.slice a bv.1.length cap):=hra 1 _ (by rw[List.getElem?_append_right (by omega),hlen1];rfl)
  obtain⟨u,l,v,hget,hcv,hcur⟩:=htk 1 1 (by simp)
  have hvv:v= .slice a bv.1.length cap:=by
   rw[List.getElem?_append_right (by omega),hlen1] at hcv
   exact(Option.some.inj hcv).symm
  have hll:l.length=bv.1.length:=aJW hget
  rw[hll,hv',hvv] at hcur
  obtain rfl:=Option.some.inj hcur
  have hbl:b<w.heap.size:=Q9 hcell1
  have hdr: ∀(s:List UInt8) (sd:List Prop),RetOk g w _ ⟨sd,[(.val .str s,none)],[.cells (.pair .mref (.pair (.list (.int .u8)) .unit)) ((some (0,0)),bv) [],.dead]⟩ g w.drew (.string ⟨s.toArray⟩):=fun s sd=>
   X5 hH rfl rfl rfl (Nat.le_refl _) (fun _ _ _=>rfl) (fun _ _ h=>h) (fun _ _ _=>rfl)
  obtain⟨hx,⟨hnil,h0⟩ |⟨gb,cap',cur,hsl',hb0,hbk,hnc,hcm,hcs,htake⟩⟩:=hown
  ·have hb0:bv.1=[]:=List.length_eq_zero_iff.1 h0
   have hz:qY bv.1=[]:=by rw[hb0];rfl
   have hl0:List.length bv.1=0:=h0
   injection hnil with e1 e2 e3
   subst e1
   subst e3
   refine(X3 Tryz.lays169 Tryz.builderExtra b bv.1.length 0 none none .empty w w.drew hcell1 rfl (by rw[hl0];exact Any.unsafeString_none Tryz.lays169 Tryz.builderExtra w.drew none)).mono ?_
   rintro e w' ⟨rfl,rfl⟩
   exact⟨_,g,rfl,by rw[hz];exact hdr [] _⟩
  ·injection hsl' with e1 e2 e3
   subst e1
   subst e3
   have hsz:bv.1.length≤cur.size:=by omega
   by_cases hb0:bv.1=[]
   ·have hz:qY bv.1=[]:=by rw[hb0];rfl
    have hl0:List.length bv.1=0:=by rw[hb0];rfl
    by_cases hc0:cap=0
    ·subst hc0
     rw[hl0] at hcell1
     refine(aJR Tryz.lays169 Tryz.builderExtra b gb cur w hbl hcell1 hbk).mono ?_
     rintro e w' ⟨rfl,rfl⟩
     have hold: ∀c,c<w.heap.size→(w.drew.alloc (.view ⟨gb,0,none⟩ 5)).heap[c]? =w.heap[c]? :=fun c hc=>Lib.alloc_old w.drew _ c hc
     refine⟨_,g,rfl,?_⟩
     rw[hz]
     exact X5 hH rfl rfl rfl (by simp) (fun c o hc=>World.cell?_of_block (a:=⟨c,o,none⟩) (hold c hc)) (fun c s h=>(AS (hold c (AR h))).trans h) (fun c hc _=>hold c hc)
    ·refine(X3 Tryz.lays169 Tryz.builderExtra b bv.1.length cap (some ⟨gb,0,none⟩) (some ⟨gb,0,none⟩) .empty w w.drew hcell1 (Lib.run_unsafeSliceData_row _ _ _ _ _ _ hc0) (by rw[hl0];exact Any.unsafeString_none Tryz.lays169 Tryz.builderExtra w.drew _)).mono ?_
     rintro e w' ⟨rfl,rfl⟩
     exact⟨_,g,rfl,by rw[hz];exact hdr [] _⟩
   ·have hcap0:cap≠0:=fun h=>hb0 (List.length_eq_zero_iff.1 (by omega))
    have hcb: ∀j x,bv.1[j]? =some x→w.cell? ⟨gb,j,none⟩=some (.int .u8 x):=by
     rcases hl with hl|⟨b',o',ha',hl⟩
     ·exact absurd hl hb0
     ·cases ha'
      intro j x hj
      have:=aAH hl j x hj
      rwa [Nat.zero_add] at this
    have hbk':w.drew.heap[gb]? =some (.cells cur 5 (0,0)):=hbk
    have hshp:w.drew.shape? gb=some (5,cur.size):=by simp only[World.shape?,hbk']
    refine(X3 Tryz.lays169 Tryz.builderExtra b bv.1.length cap (some ⟨gb,0,none⟩) (some ⟨gb,0,none⟩) ⟨(qY bv.1).toArray⟩ w (w.drew.freeze ⟨gb,0,none⟩ bv.1.length) hcell1 (Lib.run_unsafeSliceData_row _ _ _ _ _ _ hcap0)
     (aJQ w.drew _ _ _ 5 (Tryz.lays169).t127 (Tryz.builderExtra).cellsByte gb cur.size hshp bv.1 hb0 hsz (by unfold maxLen at hcm;omega) (fun j x h=>by rw[Addr.add_mid,Nat.zero_add];exact hcb j x h))).mono ?_
    rintro e w' ⟨rfl,rfl⟩
    refine⟨_,g,rfl,?_⟩
    have hblk: ∀c,(∀o,¬owns g 1 (.grow 5 1 (List.length bv.1)) c o)→(w.drew.freeze ⟨gb,0,none⟩ bv.1.length).heap[c]? =w.heap[c]? :=fun c hc=>aJU w.drew _ _ c fun e=>hc 0 ⟨_,hv',by rw[e];rfl⟩
    have hr:=aJV w.drew ⟨gb,0,none⟩ bv.1.length
    refine X5 hH hr.1 hr.2.1 hr.2.2.1 (Nat.le_of_eq hr.2.2.2.symm) (fun c o _=>aJS w.drew _ _ _) (fun c s h=>(aJT w.drew _ _ c).trans h) (fun c _ hc=>hblk c hc)
 ·cases hC
end Go.Proofs.YtbbpilohihldiaaGreatDoor
namespace Go.Proofs.YtbbpilohihldiaaGreatDoor
open Vc Go.RowKit
theorem aAI:rI Tryz.prog 149 ⟨(.pair .str (.pair .str .unit)),0,0,false,[]⟩:=⟨by kernel_rfl,(show ((_∧∃_,_∧_)∨_)∧_ from⟨.inl ⟨rfl,_,Tryz.underlying149,(show _∧_∧_∧_ from⟨rfl,by kernel_rfl,by kernel_rfl,(show _∧_∧_∧_ from⟨rfl,by kernel_rfl,by kernel_rfl,trivial⟩)⟩)⟩,(fun h=>absurd h (by decide))⟩)⟩
theorem RB {P:Program}(w:World) (dT sT ty elem:TypeId) (sz g o dLen dCap:Nat) (a:Addr) (sLen sCap:Nat) (cur:Array Value) (t:TypeId) (cs:List Value)
  (hu:P.underlying dT=some (.slice elem)) (hs:(P.info? elem).map (·.size)=some sz)
  (hg:w.heap[g]? =some (.cells cur t (0,0))) (hn:cs.length=Nat.min sLen dLen*sz)
  (hsrc: ∀j v,cs[j]? =some v→w.cell? (a.add j)=some v) (hfit:o+cs.length≤cur.size) (h1: ∀v∈cs,v.oneCell'=true):
  (Builtin.copy_ #[dT,sT] ty #[.slice (some ⟨g,o,none⟩) dLen dCap,.slice (some a) sLen sCap]).run P w=
   .ok (goInt (Nat.min sLen dLen:Nat)) (w.setRow g (cur.toList.take o++cs++cur.toList.drop (o+cs.length)).toArray):=by
 have hl:=run_loadCells_list (P:=P) w a cs hsrc
 have hst:=run_storeCells_at P g o t cs 0 cur w hg (by simpa using hfit) h1
 cases hq:P.info? elem with
 |none=>simp [hq] at hs
 |some i=>
  have hi:i.size=sz:=by simpa[hq] using hs
  simp [Builtin.copy_,run_underlying hu,Builtin.lenOf,Builtin.firstCells,sizeOf,typeInfo,hq,hi,←hn,hl,hst]
theorem aJY {P:Program}(w:World) (tS tR e:TypeId) (ht:P.underlying tS=some (.slice e)) (size:Nat) (hz: ∀w,(Go.sizeOf e).run P w= .ok size w)
  (a b:Addr) (la ca lb cb:Nat) (hne:a.block≠b.block) (tA tB:TypeId) (kA kB:Nat)
  (hsa:w.shape? a.block=some (tA,kA)) (hkA:kA≠0) (hsb:w.shape? b.block=some (tB,kB)) (hfb: ∀o,w.frozen? ⟨b.block,o,none⟩=false) (hsp:b.spot=none):
  (Extern.SlicesOverlaps.overlaps #[tS,tS] #[tR] #[.slice (some a) la ca,.slice (some b) lb cb]).run P w= .ok (.bool false) w:=by
 have hnb:(a.block != b.block)=true:=by simpa using hne
 have hnb':(a.block==b.block)=false:=by simpa using hne
 have hfb1:w.frozen? b=false:=by
  obtain⟨bb,bo,bs⟩:=b
  cases hsp
  exact hfb bo
 have hfb2:=hfb kB
 change Sem.run P (α:=Value) (do
  let some t:=(#[tS,tS]:Array TypeId)[0]? |stuck "slices.overlaps: no parameter types"
  let .slice elem←underlying t|stuck "slices.overlaps: slice type expected"
  let size←sizeOf elem
  match (some a:Option Addr),(some b:Option Addr) with
  |some a,some b=>
   if la=0∨lb=0∨size=0 then pure (Value.bool false)
   else if a.block != b.block&&(←frozen a)&&(←frozen b) then unsupported .addressObserved
   else do
    if a.block != b.block then do
     noView a;noView b
     if←mayBeOne a b then return Value.bool ((←choose (.extern "sameAddr.stringBytes" 2))==1)
    pure (Value.bool (a.block==b.block&&a.off<b.off+lb*size&&b.off<a.off+la*size))
  |_,_=>pure (Value.bool false)) w=_
 by_cases h0:la=0∨lb=0∨size=0
 ·simp [run_underlying ht,hz,h0]
 ·cases kA with
  |zero=>exact absurd rfl hkA
  |succ kA=>
   cases hfa:w.frozen? a<;>cases hfe:w.frozen? {block:=a.block,off:=kA+1}<;>
   simp [run_underlying ht,hz,h0,hnb,hnb',frozen,noView,viewAt,mayBeOne,stringish,shape,Sem.run,hsa,hsb,hfb1,hfb2,hfa,hfe]
theorem aJZ {α:Type}{l:List α}{i n:Nat}(hin:i≤n):(l.drop (i*2)).take ((n-i)*2)=(l.take (n*2)).drop (i*2):=by
 rw[List.drop_take,show n*2-i*2=(n-i)*2 by omega]
theorem aAJ {α:Type}{l:List α}{i n:Nat}{v:α}(h:v∈(l.drop (i*2)).take ((n-i)*2)):v∈l.take (n*2):=by
 rw[show (n-i)*2=n*2-i*2 by omega,←List.drop_take] at h
 exact List.mem_of_mem_drop h
theorem aJ0 {cur c1 c2:Array Value}{mid vs:List Value}{i n m:Nat}(hc1:c1=(cur.toList.take ((i+m)*2)++mid++cur.toList.drop ((i+m)*2+mid.length)).toArray) (hc2:c2=(c1.toList.take (i*2)++vs++c1.toList.drop (i*2+vs.length)).toArray)
  (hml:mid.length=(n-i)*2) (hvl:vs.length=m*2) (hcur:(n+m)*2≤cur.toList.length) (hin:i≤n):c2.toList.take ((n+m)*2)=cur.toList.take (i*2)++vs++mid:=by
 have e1:c1.toList=cur.toList.take ((i+m)*2)++(mid++cur.toList.drop ((i+m)*2+mid.length)):=by rw[hc1,List.append_assoc]
 have l1:(cur.toList.take ((i+m)*2)).length=(i+m)*2:=by rw[List.length_take];omega
 have e2:c1.toList.take (i*2)=cur.toList.take (i*2):=by
  rw[e1,List.take_append_of_le_length (by omega),List.take_take,Nat.min_eq_left (by omega)]
 have e3:c1.toList.drop (i*2+vs.length)=mid++cur.toList.drop ((i+m)*2+mid.length):=by
  rw[e1,hvl,show i*2+m*2=(cur.toList.take ((i+m)*2)).length by omega,List.drop_left]
 have l2:(cur.toList.take (i*2)).length=i*2:=by rw[List.length_take];omega
 have e4:c2.toList=(cur.toList.take (i*2)++vs++mid)++cur.toList.drop ((i+m)*2+mid.length):=by rw[hc2,e2,e3];simp only[List.append_assoc]
 rw[e4,show (n+m)*2=(cur.toList.take (i*2)++vs++mid).length by simp only[List.length_append];omega,List.take_left]
set_option maxHeartbeats 4000000 in
set_option maxRecDepth 100000 in
theorem aJ1 (b n c i vb voff m vc:Nat) (cur:Array Value) (vs:List Value) (w:World) (hi:i<n) (hm:0<m) (hroom:n+m≤c) (hc63:c≤maxLen) (hvb:vb≠b)
  (hg:w.heap[b]? =some (.cells cur 149 (0,0))) (hcs:cur.size=c*2) (hvl:vs.length=m*2)
  (hvs: ∀j v,vs[j]? =some v→w.cell? ⟨vb,voff+j,none⟩=some v) (h1: ∀v∈cur.toList.take (n*2),v.oneCell'=true) (h1v: ∀v∈vs,v.oneCell'=true):
  Calls Tryz.prog 240 #[.slice (some ⟨b,0,none⟩) n c,.int .i64 i,.slice (some ⟨vb,voff,none⟩) m vc] w fun e w'=>
   e= .returned (.slice (some ⟨b,0,none⟩) (n+m) c)∧∃cur':Array Value,w'=w.drew.setRow b cur'∧cur'.size=cur.size∧cur'.toList.take ((n+m)*2)=cur.toList.take (i*2)++vs++(cur.toList.drop (i*2)).take ((n-i)*2):=by
 have u24:=run_underlying Tryz.underlying24
 have hz1: ¬((m:Int)=0):=by omega
 have hz2: ¬((i:Int)=(n:Int)):=by omega
 have hw1:IntKind.i64.wrap ((i:Int)+(m:Int))=(i:Int)+(m:Int):=by rw[IntKind.wrap_i64];unfold maxLen at hc63;omega
 have hw2:IntKind.i64.wrap ((n:Int)+(m:Int))=(n:Int)+(m:Int):=by rw[IntKind.wrap_i64];unfold maxLen at hc63;omega
 have hb1:(0:Int)≤(i:Int)+(m:Int):=by omega
 have hin:i≤n:=by omega
 have htn:((i:Int)+(m:Int)).toNat=i+m:=by omega
 have hb2: ¬(c=i+m):=by omega
 have hb3:(i:Int)≤(n:Int)+(m:Int):=by omega
 have hb4: ¬(c=i):=by omega
 have z144: ∀w,(Go.sizeOf 149).run Tryz.prog w= .ok 2 w:=fun w=>by
  simp only[sizeOf,typeInfo,Sem.run_bind,run_program,Result.andThen_ok]
  rfl
 have hsz:(Tryz.prog.info? 149).map (·.size)=some 2:=by kernel_rfl
 have hvs0:w.cell? ⟨vb,voff,none⟩=some (vs[0]'(by omega)):=hvs 0 _ (List.getElem?_eq_getElem (by omega))
 obtain⟨⟨tA,kA⟩,hsa,hkA⟩: ∃q:TypeId×Nat,w.shape? vb=some q∧q.2≠0:=by
  have h0:=hvs0
  simp only[World.cell?] at h0
  simp only[World.shape?]
  cases hh:w.heap[vb]? with
  |none=>rw[hh] at h0;simp at h0
  |some o=>
   rw[hh] at h0
   cases o with
   |cells cs e fr=>
    refine⟨(e,cs.size),rfl,fun hz=> ?_⟩
    have hz:cs.size=0:=hz
    have:cs= #[]:=Array.eq_empty_of_size_eq_zero hz
    subst this
    simp at h0
   |_=>simp at h0
 have hov: ∀lb cb,(callFunc 268 #[.slice (some ⟨vb,voff,none⟩) m vc,.slice (some ⟨b,(i+m)*2,none⟩) lb cb]).run Tryz.prog w= .ok (.value (.bool false)) w:=fun lb cb=>by
  rw[run_callFunc_extern Tryz.func268 (by kernel_rfl) (by kernel_rfl) (by kernel_rfl) (e:=Extern.SlicesOverlaps.overlaps #[24,24] #[4]) (by kernel_rfl),
   aJY w 24 4 149 Tryz.underlying24 2 z144 ⟨vb,voff,none⟩ ⟨b,(i+m)*2,none⟩ m vc lb cb hvb tA 149 kA cur.size hsa hkA (by simp [World.shape?,hg]) (fun o=>Lib.frozen_of_heap hg _) rfl]
  rfl
 have mixed:Tryz.prog.follows .mixedOrders=true:=by kernel_rfl
 obtain⟨mid,hmid⟩: ∃mid,mid=(cur.toList.drop (i*2)).take ((n-i)*2):=⟨_,rfl⟩
 have hml:mid.length=(n-i)*2:=by rw[hmid,List.length_take,List.length_drop,Array.length_toList];omega
 have hmin1:Nat.min (n+m-i) (n+m- (i+m))=n-i:=by simp only[Nat.min_def];split<;>omega
 have hmin2:Nat.min m (n+m-i)=m:=by simp only[Nat.min_def];split<;>omega
 obtain⟨c1,hc1⟩: ∃c1:Array Value,c1=(cur.toList.take ((i+m)*2)++mid++cur.toList.drop ((i+m)*2+mid.length)).toArray:=⟨_,rfl⟩
 have hc1l:c1.size=cur.size:=by rw[hc1];simp only[List.size_toArray,List.length_append,List.length_take,List.length_drop,Array.length_toList,hml];omega
 obtain⟨c2,hc2⟩: ∃c2:Array Value,c2=(c1.toList.take (i*2)++vs++c1.toList.drop (i*2+vs.length)).toArray:=⟨_,rfl⟩
 have hc2l:c2.size=cur.size:=by rw[hc2];simp only[List.size_toArray,List.length_append,List.length_take,List.length_drop,Array.length_toList,hc1l,hvl];omega
 have hcp1: ∀ty dc sc,(Builtin.copy_ #[24,24] ty #[.slice (some ⟨b,(i+m)*2,none⟩) (n+m- (i+m)) dc,.slice (some ⟨b,i*2,none⟩) (n+m-i) sc]).run Tryz.prog w.drew= .ok (goInt (n-i:Nat)) (w.drew.setRow b c1):=fun ty dc sc=>by
  have h:=RB (P:=Tryz.prog) w.drew 24 24 ty 149 2 b ((i+m)*2) (n+m- (i+m)) dc ⟨b,i*2,none⟩ (n+m-i) sc cur 149 mid Tryz.underlying24 hsz hg (by rw[hml,hmin1]) (fun j v hj=>by
    rw[Addr.add_lit]
    rw[hmid,List.getElem?_take] at hj
    split at hj
    ·rw[List.getElem?_drop,Array.getElem?_toList] at hj
     show (w.cell? ⟨b,i*2+j,none⟩)=_
     rw[Lib.cell_of_heap hg]
     exact hj
    ·cases hj) (by rw[hml];omega) (fun v hv=>h1 v (aAJ (hmid▸hv)))
  rw[h,hmin1,hc1]
 have hg1:(w.drew.setRow b c1).heap[b]? =some (.cells c1 149 (0,0)):=setRow_heap w.drew b cur c1 _ _ hg
 have hcp2: ∀ty dc,(Builtin.copy_ #[24,24] ty #[.slice (some ⟨b,i*2,none⟩) (n+m-i) dc,.slice (some ⟨vb,voff,none⟩) m vc]).run Tryz.prog (w.drew.setRow b c1)= .ok (goInt (m:Nat)) ((w.drew.setRow b c1).setRow b c2):=fun ty dc=>by
  have h:=RB (P:=Tryz.prog) (w.drew.setRow b c1) 24 24 ty 149 2 b (i*2) (n+m-i) dc ⟨vb,voff,none⟩ m vc c1 149 vs Tryz.underlying24 hsz hg1 (by rw[hvl,hmin2]) (fun j v hj=>by
    rw[Addr.add_lit,World.cell?_of_block (w:=w) (a:=⟨vb,voff+j,none⟩) (setRow_other w.drew b vb c1 hvb)]
    exact hvs j v hj) (by rw[hvl,hc1l];omega) h1v
  rw[h,hmin2,hc2]
 have Hmid:=Lib.hid hmid
 have Hc1:=Lib.hid hc1
 have Hc2:=Lib.hid hc2
 have Hs1:=Lib.hid hc1l
 have Hs2:=Lib.hid hc2l
 have Hml:=Lib.hid hml
 clear hmid hc1 hc2 hc1l hc2l hml hmin1 hmin2
 go_enter Tryz.func240,Tryz.ntmps240
 go_wp2_with (simp only[hov])
 go_region_law_o (refine step_copy_runI rfl _ _ 24 24 rfl _ _ (by simp [Act.eval,Act.put]) (by simp [Act.eval,Act.put]) (hcp1 _ _ _) ?_)
 go_wp2_with (at_builtin;refine wpList_copy_runI _ rfl _ _ 24 24 rfl _ _ rfl rfl (hcp2 _ _) ?_)
 go_ret
 refine⟨rfl,c2,?_,Hs2.out,?_⟩
 ·rw[setRow_setRow]
 ·rw[←Hmid.out]
  exact aJ0 Hc1.out Hc2.out Hml.out hvl (by rw[Array.length_toList];omega) hin
set_option maxHeartbeats 4000000 in
set_option maxRecDepth 100000 in
theorem aJ2 (base:Option Addr) (n c i:Nat) (v0:Option Addr) (vc:Nat) (w:World) (hi:i≤n) (hnc:n≤c) (hc63:c≤maxLen):
  Calls Tryz.prog 240 #[.slice base n c,.int .i64 i,.slice v0 0 vc] w fun e w'=>e= .returned (.slice base n c)∧w'=w:=by
 have u24:=run_underlying Tryz.underlying24
 go_enter Tryz.func240,Tryz.ntmps240
 go_wp2_with fail
 all_goals (go_ret;exact⟨rfl,rfl⟩)
set_option maxHeartbeats 4000000 in
set_option maxRecDepth 100000 in
theorem aJ3 (v:Value) (n vb voff m vc:Nat) (xs vs:List Value) (w:World) (hm:0<m) (hown:w.ownsRow 0 149 2 v n xs) (h63:n+m≤maxLen) (hby:(n+m)*32≤140737488355328)
  (hvl:vs.length=m*2) (hvs: ∀j v,vs[j]? =some v→w.cell? ⟨vb,voff+j,none⟩=some v) (h1v: ∀v∈vs,v.oneCell'=true):
  Calls Tryz.prog 240 #[v,.int .i64 n,.slice (some ⟨vb,voff,none⟩) m vc] w fun e w'=>
   ∃q cap,e= .returned (.slice (some ⟨q,0,none⟩) (n+m) cap)∧w'.ownsRow 0 149 2 (.slice (some ⟨q,0,none⟩) (n+m) cap) (n+m) (xs++vs)∧
   (q=w.heap.size∨v.ownBlock=some q)∧w.grownBy w' v.ownBlock:=by
 have u24:=run_underlying Tryz.underlying24
 obtain⟨inf,hi,hsz,hz⟩:=D7 aAI
 have hby2:inf.bytes=32:=by
  have:(Tryz.prog.info? 149).map (·.bytes)=some 32:=by kernel_rfl
  rw[hi] at this
  exact Option.some.inj this
 have hrun: ∀ty,∃q cap w',(Builtin.append_ #[24,24] ty #[v,.slice (some ⟨vb,voff,none⟩) m vc]).run Tryz.prog w= .ok (.slice (some ⟨q,0,none⟩) (n+m) cap) w'∧_:=
  fun ty=>VG (P:=Tryz.prog) w 24 ty 149 inf _ 2 32 Tryz.underlying24 hi hz hsz hby2 (by rfl) v n xs hown ⟨vb,voff,none⟩ m vc vs hvl (fun j u hj=>by rw[Addr.add_lit];exact hvs j u hj) h1v hm h63 hby
 obtain⟨q,cap,w2,hr,h1,h2,h3,h4,h5⟩:=hrun 24
 have H1:=Lib.hid h1
 have H2:=Lib.hid h2
 have H3:=Lib.hid h3
 have Hown:=Lib.hid hown
 have hz1: ¬((m:Int)=0):=by omega
 have hmx:n+m≤9223372036854775807:=by unfold maxLen at h63;omega
 obtain⟨hxl,hv⟩:=hown
 clear h1 h2 h3 h5 hrun hz hsz hby2 hi hxl
 rcases hv with⟨rfl,rfl⟩ |⟨b,c,cur,rfl,_,hbk,hnc,hcm,hcs,htk⟩
 ·clear Hown
  rw[Nat.zero_add] at hr
  go_enter Tryz.func240,Tryz.ntmps240
  go_wp2_with (at_builtin;refine Lib.wpList_append_run _ rfl _ _ _ _ rfl _ _ rfl rfl _ _ hr ?_)
  all_goals (go_ret;exact⟨q,cap,by rw[Nat.zero_add];rfl,H1.out,H2.out,H3.out⟩)
 ·clear hbk hcs htk
  have hcm:c≤9223372036854775807:=by unfold maxLen at hcm;omega
  go_enter Tryz.func240,Tryz.ntmps240
  go_wp2_with (at_builtin;refine Lib.wpList_append_run _ rfl _ _ _ _ rfl _ _ rfl rfl _ _ hr ?_)
  all_goals (go_ret;exact⟨q,cap,rfl,H1.out,H2.out,H3.out⟩)
set_option maxHeartbeats 4000000 in
set_option maxRecDepth 100000 in
theorem aJ4 (b n c i vb voff m vc:Nat) (cur:Array Value) (vs:List Value) (w:World) (hi:i<n) (hm:0<m) (hnc:n≤c) (hroom:c<n+m) (hbig:(n+m)*32≤140737488355328)
  (hg:w.heap[b]? =some (.cells cur 149 (0,0))) (hcs:cur.size=c*2) (hvl:vs.length=m*2)
  (hvs: ∀j v,vs[j]? =some v→w.cell? ⟨vb,voff+j,none⟩=some v) (h1: ∀v∈cur.toList.take (n*2),v.oneCell'=true) (h1v: ∀v∈vs,v.oneCell'=true):
  Calls Tryz.prog 240 #[.slice (some ⟨b,0,none⟩) n c,.int .i64 i,.slice (some ⟨vb,voff,none⟩) m vc] w fun e w'=>
   ∃G,e= .returned (.slice (some ⟨w.heap.size,0,none⟩) (n+m) G)∧w'.ownsRow 0 149 2 (.slice (some ⟨w.heap.size,0,none⟩) (n+m) G) (n+m) (cur.toList.take (i*2)++vs++(cur.toList.drop (i*2)).take ((n-i)*2))∧w.grownBy w' none:=by
 have u24:=run_underlying Tryz.underlying24
 have mixed:Tryz.prog.follows .mixedOrders=true:=by kernel_rfl
 obtain⟨inf,hinf,hzs,hz⟩:=D7 aAI
 have hzb:inf.bytes=32:=by
  have:(Tryz.prog.info? 149).map (·.bytes)=some 32:=by kernel_rfl
  rw[hinf] at this
  exact Option.some.inj this
 have hsz:(Tryz.prog.info? 149).map (·.size)=some 2:=by kernel_rfl
 have hz1: ¬((m:Int)=0):=by omega
 have hz2: ¬((i:Int)=(n:Int)):=by omega
 have hz3:(c:Int)<(n:Int)+(m:Int):=by omega
 have hbw:b<w.heap.size:=by
  rcases Nat.lt_or_ge b w.heap.size with h|h
  ·exact h
  ·rw[Array.getElem?_eq_none h] at hg;cases hg
 have hvw:vb<w.heap.size:=block_lt_of_cell (hvs 0 _ (List.getElem?_eq_getElem (by omega)))
 have hkk:(n:Int)+(m:Int)- (i:Int)=((n+m-i:Nat):Int):=by omega
 have hik:i+(n+m-i)=n+m:=by omega
 have hold:(Builtin.firstCells inf.size i (.slice (some ⟨b,0,none⟩) i c)).run Tryz.prog w.drew= .ok (cur.toList.take (i*2)).toArray w.drew:=by
  rw[hzs]
  exact run_firstCells_some w.drew 2 i ⟨b,0,none⟩ i c (cur.toList.take (i*2)) (by rw[List.length_take,Array.length_toList];omega) (fun j v hj=>by
   rw[Addr.add_lit,Nat.zero_add]
   rw[List.getElem?_take] at hj
   split at hj
   ·rw[Array.getElem?_toList] at hj
    show w.cell? ⟨b,j,none⟩=_
    rw[Lib.cell_of_heap hg]
    exact hj
   ·cases hj)
 have hrz: ∀ty,(Builtin.append_ #[24,3] ty #[.slice (some ⟨b,0,none⟩) i c,.int .i64 ((n:Int)+(m:Int)- (i:Int))]).run Tryz.prog w=
   .ok (.slice (some ⟨w.heap.size,0,none⟩) (n+m) (grownCap w (n+m) c 149)) (w.drew.alloc (.cells ((cur.toList.take (i*2)).toArray++Builtin.zeroCells (uI (.pair .str (.pair .str .unit))).cells (n+m-i)++Builtin.zeroCells (uI (.pair .str (.pair .str .unit))).cells (grownCap w (n+m) c 149- (n+m))) 149)):=fun ty=>by
  have h:=Lib.run_append_grow_zeros (P:=Tryz.prog) w 24 3 ty 149 inf _ .i64 .i64 Tryz.underlying24 Tryz.underlying3 hinf hz (some ⟨b,0,none⟩) i c (cur.toList.take (i*2)) hold (n+m-i) (by omega) (by rw[hzs];decide) (by omega) (by omega) (by rw[hzb];omega) (by rw[hzb,hik];exact growslice_fits hroom hbig)
  rw[hik] at h
  rw[hkk]
  exact h
 obtain⟨G,hG⟩: ∃G,G=grownCap w (n+m) c 149:=⟨_,rfl⟩
 obtain⟨ROW,hROW⟩: ∃ROW:Array Value,ROW=(cur.toList.take (i*2)).toArray++Builtin.zeroCells (uI (.pair .str (.pair .str .unit))).cells (n+m-i)++Builtin.zeroCells (uI (.pair .str (.pair .str .unit))).cells (G- (n+m)):=⟨_,rfl⟩
 rw[←hG] at hrz
 rw[←hROW] at hrz
 have hGn:n+m≤G:=by rw[hG];exact grownCap_ge w _ _ _
 have hGm:G≤maxLen:=by rw[hG];exact grownCap_le_maxLen w (n+m) c _ (by unfold maxLen;omega)
 have hzc:(uI (.pair .str (.pair .str .unit))).cells.size=2:=rfl
 have hRl:ROW.size=G*2:=by
  rw[hROW]
  simp only[Array.size_append,List.size_toArray,size_zeroCells,hzc,List.length_take,Array.length_toList]
  omega
 have hRt:ROW.toList.take (i*2)=cur.toList.take (i*2):=by
  rw[hROW]
  simp only[Array.toList_append,List.append_assoc]
  rw[List.take_append_of_le_length (by rw[List.length_take,Array.length_toList];omega),List.take_take,Nat.min_self]
 obtain⟨q,hq⟩: ∃q,q=w.heap.size:=⟨_,rfl⟩
 obtain⟨mid,hmid⟩: ∃mid,mid=(cur.toList.drop (i*2)).take ((n-i)*2):=⟨_,rfl⟩
 have hml:mid.length=(n-i)*2:=by rw[hmid,List.length_take,List.length_drop,Array.length_toList];omega
 have hmin1:Nat.min m (n+m-i)=m:=by simp only[Nat.min_def];split<;>omega
 have hmin2:Nat.min (n-i) (n+m- (i+m))=n-i:=by simp only[Nat.min_def];split<;>omega
 obtain⟨c1,hc1⟩: ∃c1:Array Value,c1=(ROW.toList.take (i*2)++vs++ROW.toList.drop (i*2+vs.length)).toArray:=⟨_,rfl⟩
 have hc1l:c1.size=G*2:=by rw[hc1];simp only[List.size_toArray,List.length_append,List.length_take,List.length_drop,Array.length_toList,hRl,hvl];omega
 obtain⟨c2,hc2⟩: ∃c2:Array Value,c2=(c1.toList.take ((i+m)*2)++mid++c1.toList.drop ((i+m)*2+mid.length)).toArray:=⟨_,rfl⟩
 have hc2l:c2.size=G*2:=by rw[hc2];simp only[List.size_toArray,List.length_append,List.length_take,List.length_drop,Array.length_toList,hc1l,hml];omega
 obtain⟨W1,hW1⟩: ∃W1,W1=w.drew.alloc (.cells ROW 149):=⟨_,rfl⟩
 rw[←hW1] at hrz
 have hbq:b≠q:=by omega
 have hvq:vb≠q:=by omega
 have hg1:W1.heap[q]? =some (.cells ROW 149 (0,0)):=by rw[hW1,hq];exact heap_alloc_new w.drew _
 have hO1: ∀k,k<w.heap.size→W1.heap[k]? =w.heap[k]? :=fun k hk=>by rw[hW1];exact Below.heap_alloc w.drew _ k hk
 have hcpA: ∀(W:World),W.heap=W1.heap→∀ty dc,(Builtin.copy_ #[24,24] ty #[.slice (some ⟨q,i*2,none⟩) (n+m-i) dc,.slice (some ⟨vb,voff,none⟩) m vc]).run Tryz.prog W= .ok (goInt (m:Nat)) (W.setRow q c1):=fun W hW ty dc=>by
  have h:=RB (P:=Tryz.prog) W 24 24 ty 149 2 q (i*2) (n+m-i) dc ⟨vb,voff,none⟩ m vc ROW 149 vs Tryz.underlying24 hsz (by rw[hW];exact hg1) (by rw[hvl,hmin1]) (fun j v hj=>by
    rw[Addr.add_lit,World.cell?_of_block (w:=w) (a:=⟨vb,voff+j,none⟩) (by rw[hW];exact hO1 vb hvw)]
    exact hvs j v hj) (by rw[hvl,hRl];omega) h1v
  rw[h,hmin1,hc1]
 have hcpB: ∀(W:World),W.heap=(W1.setRow q c1).heap→∀ty dc sc,(Builtin.copy_ #[24,24] ty #[.slice (some ⟨q,(i+m)*2,none⟩) (n+m- (i+m)) dc,.slice (some ⟨b,i*2,none⟩) (n-i) sc]).run Tryz.prog W= .ok (goInt (n-i:Nat)) (W.setRow q c2):=fun W hW ty dc sc=>by
  have h:=RB (P:=Tryz.prog) W 24 24 ty 149 2 q ((i+m)*2) (n+m- (i+m)) dc ⟨b,i*2,none⟩ (n-i) sc c1 149 mid Tryz.underlying24 hsz (by rw[hW];exact setRow_heap W1 q ROW c1 _ _ hg1) (by rw[hml,hmin2]) (fun j v hj=>by
    rw[Addr.add_lit,World.cell?_of_block (w:=w) (a:=⟨b,i*2+j,none⟩) (by rw[hW,setRow_other W1 q b c1 hbq];exact hO1 b hbw),Lib.cell_of_heap hg]
    rw[hmid,List.getElem?_take] at hj
    split at hj
    ·rw[List.getElem?_drop,Array.getElem?_toList] at hj
     exact hj
    ·cases hj) (by rw[hml,hc1l];omega) (fun v hv=>h1 v (aAJ (hmid▸hv)))
  rw[h,hmin2,hc2]
 have hGi: ¬(G=i):=by omega
 have hGim: ¬(G=i+m):=by omega
 have hci: ¬(c=i):=by omega
 have hw1:IntKind.i64.wrap ((i:Int)+(m:Int))=(i:Int)+(m:Int):=by rw[IntKind.wrap_i64];omega
 have hw2:IntKind.i64.wrap ((n:Int)+(m:Int))=(n:Int)+(m:Int):=by rw[IntKind.wrap_i64];omega
 have hw3:IntKind.i64.wrap ((n:Int)+(m:Int)- (i:Int))=(n:Int)+(m:Int)- (i:Int):=by rw[IntKind.wrap_i64];omega
 have hb1:(0:Int)≤(i:Int)+(m:Int):=by omega
 have hin:i≤n:=by omega
 have htn:((i:Int)+(m:Int)).toNat=i+m:=by omega
 have hb3:(i:Int)≤(n:Int):=by omega
 have hG63:G≤9223372036854775807:=by unfold maxLen at hGm;omega
 rw[←hq] at hrz⊢
 have hend: ∀W:World,W.heap=((W1.setRow q c1).setRow q c2).heap→W.os=w.os→W.tape=w.tape→W.output=w.output→
   W.ownsRow 0 149 2 (.slice (some ⟨q,0,none⟩) (n+m) G) (n+m) (cur.toList.take (i*2)++vs++mid)∧w.grownBy W none:=fun W hW e1 e2 e3=>by
  have hg2:W.heap[q]? =some (.cells c2 149 (0,0)):=by rw[hW];exact setRow_heap (W1.setRow q c1) q c1 c2 _ _ (setRow_heap W1 q ROW c1 _ _ hg1)
  have hs:w.heap.size≤W.heap.size:=by
   have:=(Array.getElem?_eq_some_iff.1 hg2).1
   omega
  refine⟨⟨?_,.inr ⟨q,G,c2,rfl,Nat.zero_le _,hg2,hGn,hGm,hc2l,?_⟩⟩,⟨e1,e2,e3,hs,fun k hk _=> ?_⟩⟩
  ·simp only[List.length_append,List.length_take,Array.length_toList,hml,hvl];omega
  ·have x1:c1.toList=cur.toList.take (i*2)++vs++ROW.toList.drop (i*2+vs.length):=by rw[hc1,hRt]
   have l1:(cur.toList.take (i*2)++vs).length=(i+m)*2:=by rw[List.length_append,List.length_take,Array.length_toList,hvl];omega
   have x2:c2.toList=cur.toList.take (i*2)++vs++mid++c1.toList.drop ((i+m)*2+mid.length):=by
    rw[hc2]
    show c1.toList.take ((i+m)*2)++mid++_=_
    rw[x1,←l1,List.take_left]
   rw[x2,show (n+m)*2=(cur.toList.take (i*2)++vs++mid).length by rw[List.length_append,l1,hml];omega,List.take_left]
  ·rw[hW,setRow_other _ q k c2 (by omega),setRow_other _ q k c1 (by omega)]
   exact hO1 k hk
 have Hmid:=Lib.hid hmid
 have Hq:=Lib.hid hq
 have Hend:=Lib.hid hend
 have HW1:=Lib.hid hW1
 clear hkk hik hold hROW hG hRl hmid hq hend hW1 hc1 hc2 hc1l hc2l hml hmin1 hmin2 hz hzs hzb hinf hRt hg1 hO1
 go_enter Tryz.func240,Tryz.ntmps240
 go_wp2_with (first
  |(at_builtin;refine Lib.wpList_append_run _ rfl _ _ _ _ rfl _ _ rfl rfl _ _ (hrz _) ?_)
  |(at_builtin;refine wpList_copy_runI _ rfl _ _ 24 24 rfl _ _ rfl rfl (hcpA _ rfl _ _) ?_))
 go_region_law_o (refine step_copy_runI rfl _ _ 24 24 rfl (.slice (some ⟨q,(i+m)*2,none⟩) (n+m- (i+m)) (G- (i+m))) (.slice (some ⟨b,i*2,none⟩) (n-i) (c-i)) (by simp [Act.eval,Act.put]) (by simp [Act.eval,Act.put]) (hcpB (W1.setRow q c1).drew rfl _ (G- (i+m)) (c-i)) ?_)
 go_wp2_with fail
 go_ret
 rw[←Hmid.out]
 exact⟨G,rfl,Hend.out _ rfl (by rw[HW1.out];rfl) (by rw[HW1.out];rfl) (by rw[HW1.out];rfl)⟩
theorem aJ5 (v:Value) (n i m vc:Nat) (v0:Option Addr) (xs vs:List Value) (w:World) (hin:i≤n) (hown:w.ownsRow 0 149 2 v n xs) (hby:(n+m)*32≤140737488355328)
  (h1: ∀u∈xs,u.oneCell'=true) (hv0:m=0∨∃vb voff,v0=some ⟨vb,voff,none⟩∧v.ownBlock≠some vb∧∀j u,vs[j]? =some u→w.cell? ⟨vb,voff+j,none⟩=some u)
  (hvl:vs.length=m*2) (h1v: ∀v∈vs,v.oneCell'=true):
  Calls Tryz.prog 240 #[v,.int .i64 i,.slice v0 m vc] w fun e w'=>
   ∃v',e= .returned v'∧w'.ownsRow 0 149 2 v' (n+m) (xs.take (i*2)++vs++xs.drop (i*2))∧(m=0→v'=v)∧(∀b,v'.ownBlock=some b→b=w.heap.size∨v.ownBlock=some b)∧w.grownBy w' v.ownBlock:=by
 have h63:n+m≤maxLen:=by unfold maxLen;omega
 rcases Nat.eq_zero_or_pos m with hm|hm
 ·subst hm
  have hvs:vs=[]:=List.length_eq_zero_iff.1 (by omega)
  subst hvs
  have hres:w.ownsRow 0 149 2 v (n+0) (xs.take (i*2)++[]++xs.drop (i*2)):=by
   rw[List.append_nil,List.take_append_drop];exact hown
  obtain⟨base,c,rfl,hnc,hc⟩: ∃base c,v= .slice base n c∧n≤c∧c≤maxLen:=by
   rcases hown.2 with⟨rfl,rfl⟩ |⟨b,c,cur,rfl,_,_,h2,h3,_⟩
   ·exact⟨none,0,rfl,Nat.le_refl _,by unfold maxLen;omega⟩
   ·exact⟨_,c,rfl,h2,h3⟩
  refine(aJ2 base n c i v0 vc w hin hnc hc).mono ?_
  rintro e w' ⟨rfl,rfl⟩
  exact⟨_,rfl,hres,fun _=>rfl,fun b hb=> .inr hb,World.grownBy.refl _ _⟩
 ·obtain⟨vb,voff,rfl,hvb,hvs⟩: ∃vb voff,v0=some ⟨vb,voff,none⟩∧v.ownBlock≠some vb∧∀j u,vs[j]? =some u→w.cell? ⟨vb,voff+j,none⟩=some u:=by
   rcases hv0 with h|h
   ·omega
   ·exact h
  have hxl:=hown.1
  rcases Nat.lt_or_ge i n with hlt|hge
  ·rcases hown.2 with⟨rfl,rfl⟩ |⟨b,c,cur,rfl,_,hbk,hnc,hcm,hcs,htk⟩
   ·omega
   ·have hb:vb≠b:=fun h=>hvb (by rw[h];rfl)
    have hx1:cur.toList.take (i*2)=xs.take (i*2):=by rw[←htk,List.take_take,Nat.min_eq_left (by omega)]
    have hx2:(cur.toList.drop (i*2)).take ((n-i)*2)=xs.drop (i*2):=by rw[aJZ hin,htk]
    rcases Nat.lt_or_ge c (n+m) with hr|hr
    ·refine(aJ4 b n c i vb voff m vc cur vs w hlt hm hnc hr hby hbk hcs hvl hvs (by rw[htk];exact h1) h1v).mono ?_
     rintro e w' ⟨G,rfl,ho,hg⟩
     rw[hx1,hx2] at ho
     exact⟨_,rfl,ho,fun h=>by omega,fun b hb=> .inl (by simpa[Value.ownBlock] using hb.symm),⟨hg.os,hg.tape,hg.output,hg.size,fun k hk _=>hg.block k hk (by simp)⟩⟩
    ·refine(aJ1 b n c i vb voff m vc cur vs w hlt hm hr hcm hb hbk hcs hvl hvs (by rw[htk];exact h1) h1v).mono ?_
     rintro e w' ⟨rfl,cur',rfl,hs,ht⟩
     rw[hx1,hx2] at ht
     refine⟨_,rfl,⟨?_,.inr ⟨b,c,cur',rfl,Nat.zero_le _,setRow_heap w.drew b cur cur' _ _ hbk,hr,hcm,by rw[hs,hcs],ht⟩⟩,fun h=>by omega,fun b' hb'=> .inr hb',⟨rfl,rfl,rfl,by simp,fun k hk hne=>setRow_other w.drew b k cur' (fun h=>hne (by rw[h];rfl))⟩⟩
     simp only[List.length_append,List.length_take,List.length_drop,hxl,hvl];omega
  ·obtain rfl:i=n:=by omega
   refine(aJ3 v i vb voff m vc xs vs w hm hown h63 hby hvl hvs h1v).mono ?_
   rintro e w' ⟨q,cap,rfl,ho,hq,hg⟩
   refine⟨_,rfl,?_,fun h=>by omega,fun b hb=> ?_,hg⟩
   ·rw[←hxl,List.take_length,List.drop_length,List.append_nil];exact ho
   ·have hb:q=b:=by simpa[Value.ownBlock] using hb
    exact hb▸hq
theorem aAK {α:Type}{R:α→List Value→Prop}{c:Nat}: ∀{l:List α}{cs:List Value}(i:Nat),rK R c l cs→rK R c (l.take i) (cs.take (i*c))
 |_,_,0,_=>by simp [rK]
 |[],_,_+1,h=>by rw[show _=[] from h];simp [rK]
 |x::l,_,i+1,⟨c1,c2,e,h1,h2,h3⟩=>by
  refine⟨c1,c2.take (i*c),?_,h1,h2,aAK i h3⟩
  rw[e,Nat.succ_mul,Nat.add_comm,←h1,List.take_length_add_append]
theorem aAL {α:Type}{R:α→List Value→Prop}{c:Nat}: ∀{l:List α}{cs:List Value}(i:Nat),rK R c l cs→rK R c (l.drop i) (cs.drop (i*c))
 |_,_,0,h=>by simpa using h
 |[],_,_+1,h=>by rw[show _=[] from h];simp [rK]
 |x::l,_,i+1,⟨c1,c2,e,h1,h2,h3⟩=>by
  rw[e,show (i+1)*c=c1.length+i*c by rw[h1,Nat.succ_mul,Nat.add_comm],List.drop_length_add_append]
  exact aAL i h3
def yQ {t:Type}(l:List t) (i:Int) (v:List t):List t:=List.take i.toNat l++v++List.drop i.toNat l
@[go_sem] def X6:List Slot→List Blk→Option Ret
 |[(.own 0 O,none),(.val (.int .i64) Z,none),(.val (.list (.pair .str (.pair .str .unit))) aA,none)],[.row 149 (.pair .str (.pair .str .unit)) aB aC]=>
  some ⟨[O=aC,0≤Z∧Z≤List.length aB,(List.length aB+List.length aA)*32≤140737488355328],[(.own 0 (List.length (yQ aB Z aA)),none)],[.row 149 (.pair .str (.pair .str .unit)) (yQ aB Z aA) (List.length (yQ aB Z aA))]⟩
 |_,_=>none
set_option maxRecDepth 100000 in
theorem aJ6:wF Tryz.prog 240 X6:=by
 refine⟨fun _ _=>rfl,fun g w args vals L r hH ha hC hs=> ?_⟩
 unfold X6 at hC
 split at hC
 ·rename_i n iI vl l n2
  cases hC
  obtain rfl:n=n2:=hs _ (by simp)
  obtain⟨hi0,hil⟩:=hs (0≤iI∧iI≤List.length l) (by simp)
  have hby:=hs ((List.length l+List.length vl)*32≤140737488355328) (by simp)
  clear hs
  obtain⟨va,_,rfl,ra,vb,_,rfl,rb,vc,_,rfl,rc,hv⟩:=ha
  cases hv
  have hg0:getH (enumH 0 [Blk.row 149 (.pair .str (.pair .str .unit)) l n]) 0=some (.row 149 (.pair .str (.pair .str .unit)) l n):=rfl
  obtain⟨hl,v,xs,hcur,hown,hF,hnone,hseal⟩:=hH.blk 0 _ hg0
  have hva:va=v:=by
   have:=ra.1.1
   rw[hcur] at this
   exact(Option.some.inj this).symm
  subst hva
  obtain⟨i,rfl⟩:=Int.eq_ofNat_of_zero_le hi0
  have hvb:vb= .int .i64 i:=tH rb.1
  subst hvb
  obtain⟨a,cap,rfl,hcap,hlist⟩:=AU rc.1
  have hRone: ∀(x:(Ty.pair .str (.pair .str .unit)).den) cs,Rd g w (.pair .str (.pair .str .unit)) x cs→∀v∈cs,v.oneCell'=true:=fun x cs h=>yO h
  obtain⟨vs,hFv,hv0⟩: ∃vs,rK (Rd g w (.pair .str (.pair .str .unit))) 2 vl vs∧(vl.length=0∨∃vb voff,a=some ⟨vb,voff,none⟩∧va.ownBlock≠some vb∧∀j u,vs[j]? =some u→w.cell? ⟨vb,voff+j,none⟩=some u):=by
   rcases hlist with rfl|⟨b,o,rfl,hL⟩
   ·exact⟨[],rfl,.inl rfl⟩
   ·obtain⟨cs,h1,h2,h3⟩:=J4 hL
    rcases Nat.eq_zero_or_pos vl.length with h0|h0
    ·exact⟨cs,h1,.inl h0⟩
    ·exact⟨cs,h1,.inr ⟨b,o,rfl,fun hb=>hseal b hb _ (h3 0 (Nat.mul_pos h0 (by decide))),h2⟩⟩
  have hvl:=ER hFv
  have hil2:(i:Int)≤(l.length:Int):=hil
  have hil':i≤n:=by omega
  subst hl
  refine(aJ5 va l.length i vl.length cap a xs vs w (by omega) hown hby (LZ hRone hF) hv0 hvl (LZ hRone hFv)).mono ?_
  rintro e w' ⟨v',rfl,hown',hm0,hob,hgr⟩
  have hlen:(yQ l (i:Int) vl).length=l.length+vl.length:=by
   simp only[yQ,Int.toNat_natCast,List.length_append,List.length_take,List.length_drop];omega
  have hF':rK (Rd g w (.pair .str (.pair .str .unit))) 2 (yQ l (i:Int) vl) (xs.take (i*2)++vs++xs.drop (i*2)):=by
   unfold yQ
   rw[Int.toNat_natCast]
   exact LR (LR (aAK i hF) hFv) (aAL i hF)
  have hsl: ∀b o,g.S b o→w'.cell? ⟨b,o,none⟩=w.cell? ⟨b,o,none⟩:=fun b o h=>World.cell?_of_block (a:=⟨b,o,none⟩) (hgr.block b (hH.sl b o h) (fun e=>hseal b e.symm o h))
  have hE:=EffOk.row (side:=[]) (rds:=[]) (s:=(.own 0 (yQ l (i:Int) vl).length,none)) (val:=v') (k:=0) (g:=g) (w:=w) (H:=enumH 0 [Blk.row 149 (.pair .str (.pair .str .unit)) l l.length]) hH (e:=149) (t:= .pair .str (.pair .str .unit)) (l:=yQ l (i:Int) vl) (n:=(yQ l (i:Int) vl).length) (v:=v') rfl (by rw[hlen];exact hown') hF'
   (fun m hm=>hnone m (by omega)) (fun u hu=>by
    rcases Nat.eq_zero_or_pos vl.length with h0|h0
    ·rw[hlen,h0,Nat.add_zero,hcur] at hu
     rw[hm0 h0]
     exact(Option.some.inj hu).symm
    ·rw[hnone _ (by omega)] at hu;cases hu)
   (.inr ⟨va.ownBlock,hgr,fun b hb o=>⟨0,_,by simp,hg0,va,hcur,hb⟩⟩) hsl
   (fun b hb o hS=>by
    rcases hob b hb with h|h
    ·have:=hH.sl b o hS;omega
    ·exact hseal b h o hS)
   (fun b hb=>(hob b hb).imp (fun h=>by omega) fun h o=>⟨0,_,by simp,hg0,va,hcur,h⟩)
   ⟨⟨by simp [Gh.tok],by
    rw[hlen]
    rcases hown'.2 with⟨rfl,h⟩ |⟨b,cap',_,rfl,_,_,h,_⟩
    ·exact .inl ⟨rfl,h⟩
    ·exact .inr ⟨b,cap',rfl,h⟩⟩,trivial⟩
  refine⟨v',_,rfl,⟨fun b o h=>⟨hE.le.S b o h,hE.le.cell b o h⟩,hE.heap.ext ?_,hE.slot,hE.fr.mono fun b o ⟨i,blk,_,h1,h2⟩=>⟨i,blk,h1,h2⟩,fun i blk b o hi ho=> ?_,fun i t x ts h=> ?_,fun i t x ts u y us h _=> ?_,fun _ _ _ h=>h,fun i m u hi h=> ?_⟩⟩
  ·intro i
   match i with
   |0=>rfl
   |i+1=>rfl
  ·match i,hi with
   |0,hi=>
    cases hi
    exact(hE.perm 0 _ b o (by simp [idsOf]) rfl ho).imp id fun⟨i,blk,_,h1,h2⟩=>⟨i,blk,h1,h2⟩
   |i+1,hi=>simp at hi
  ·match i,h with
   |0,h=>cases h
   |i+1,h=>simp at h
  ·match i,h with
   |0,h=>cases h
   |i+1,h=>simp at h
  ·exact hE.le.cur i m u h
 ·cases hC
end Go.Proofs.YtbbpilohihldiaaGreatDoor
namespace Go.Proofs.YtbbpilohihldiaaGreatDoor.Vc
open Go.RowKit
set_option linter.unusedSectionVars false
@[go_sem] def X7 (np:Nat):DV→Bool
 | .any=>true
 | .nilS=>true
 | .val .ref (some (i,_))=>decide (i<np)
 | .val .ref none=>true
 | .val t _=>t.pure
 |_=>false
@[go_sem] def RC (np:Nat):Slot→Bool
 |(d,none)=>X7 np d
 |(.val (.list t) _,some k)=>t.pure&&decide (k<np)
 |_=>false
@[go_sem] def JH (np:Nat):List (Nat×Slot)→Bool
 |[]=>true
 |(_,s)::r=>RC np s&&JH np r
theorem aAM {np:Nat}: ∀{env:List (Nat×Slot)},JH np env=true→∀t,RC np (lk env t)=true
 |[],_,t=>rfl
 |(k,s)::r,h,t=>by
  simp only[JH,Bool.and_eq_true] at h
  unfold lk
  split
  ·exact h.1
  ·exact aAM h.2 t
theorem aJ7 {np:Nat}{g g':Gh}{w:World}(hS:g'.S=g.S) (hJ: ∀i,i<np→g'.J i=g.J i) (hC: ∀i n,i<np→g'.cur i n=g.cur i n) {s:Slot}{v:Value}(hp:RC np s=true) (h:RdS g w s v):RdS g' w s v:=by
 have hV: ∀{t:Ty}{x:t.den},t.pure=true→rD g w t x v→rD g' w t x v:=fun ht hv=>by
  rcases hv with⟨h1,cs,h2,h3⟩ |⟨h1,h2⟩
  ·exact .inl ⟨h1,cs,h2,t8 hS ht h3⟩
  ·exact .inr ⟨h1,t8 hS ht h2⟩
 have hD: ∀d,X7 np d=true→wY g w d v→wY g' w d v:=by
  intro d hd hr
  unfold X7 at hd
  split at hd
  ·trivial
  ·exact hr
  ·rename_i i o
   have hi:=of_decide_eq_true hd
   rcases hr with⟨h1,_⟩ |⟨h1,h2⟩
   ·cases h1
   ·refine .inr ⟨h1,?_⟩
    obtain⟨p,hp1,hp2⟩:=h2
    exact⟨p,(hJ i hi).trans hp1,hp2⟩
  ·rcases hr with⟨h1,_⟩ |⟨h1,h2⟩
   ·cases h1
   ·exact .inr ⟨h1,h2⟩
  ·exact hV hd hr
  ·cases hd
 obtain⟨d,k⟩:=s
 cases k with
 |none=>exact⟨hD d hp h.1,trivial⟩
 |some k=>
  unfold RC at hp
  split at hp
  ·rename_i heq;cases heq
  ·rename_i t x k' heq
   cases heq
   simp only[Bool.and_eq_true,decide_eq_true_eq] at hp
   exact⟨hV (t:= .list t) hp.1 h.1,(hC k _ hp.2).trans h.2⟩
  ·cases hp
theorem aJ8 {np:Nat}{g g':Gh}{w w':World}{env:List (Nat×Slot)}{tmps:Array Value}(h:EnvOk g w env tmps) (hp:JH np env=true) (hS: ∀b o,g.S b o→g'.S b o) (hc: ∀b o,g.S b o→w'.cell? ⟨b,o,none⟩=w.cell? ⟨b,o,none⟩)
  (hJ: ∀i p,i<np→g.J i=some p→g'.J i=some p) (hC: ∀i n v,i<np→g.cur i n=some v→g'.cur i n=some v):EnvOk g' w' env tmps:=fun t=>by
 have le:Le g w ⟨g'.S,fun i=>if i<np then g'.J i else g.J i,fun i n=>if i<np then g'.cur i n else g.cur i n⟩ w':=by
  refine⟨hS,hc,fun i p hi=> ?_,fun i n v hi=> ?_⟩
  ·show (if i<np then _ else _)=_
   split
   ·rename_i hlt;exact hJ i p hlt hi
   ·exact hi
  ·show (if i<np then _ else _)=_
   split
   ·rename_i hlt;exact hC i n v hlt hi
   ·exact hi
 exact aJ7 (np:=np) (g:=⟨g'.S,fun i=>if i<np then g'.J i else g.J i,fun i n=>if i<np then g'.cur i n else g.cur i n⟩) (g':=g') rfl (fun i hi=>(if_pos hi).symm) (fun i n hi=>by show g'.cur i n=(if i<np then g'.cur i n else g.cur i n);rw[if_pos hi]) (aAM hp t) (yN le (h t))
theorem Good.inner {A A':Nat→Nat→Prop}{L L':List Blk}{g0 g g':Gh}{w0 w w':World}{H H':Heap}(h:Good A L g0 w0 g w H) (k:Good A' L' g w g' w' H') (hA: ∀b o,A' b o→w.heap.size≤b∨ownsAny g H b o) (hl:L.length≤L'.length)
  (hL: ∀i,i<L.length→∀b,L'[i]? =some b→getH H i=some b):Good A L g0 w0 g' w' H':=by
 have own: ∀b o,A' b o→w0.heap.size≤b∨A b o:=fun b o x=>by
  rcases hA b o x with h1|⟨i,blk,h1,h2⟩
  ·exact .inl (Nat.le_trans h.fr.size h1)
  ·exact h.perm i blk b o h1 h2
 refine⟨fun b o x=> ?_,h.fr.trans k.fr own,fun i blk b o h1 h2=> ?_,fun i p hi hp=>k.J i p (by omega) (h.J i p hi hp),fun i hi=>k.live i (by omega),fun i u y us hi hg=> ?_,fun i n v hi hv=>k.cur i n v (by omega) (h.cur i n v hi hv)⟩
 ·obtain⟨h1,h2⟩:=h.shut b o x
  obtain⟨k1,k2⟩:=k.shut b o h1
  exact⟨k1,k2.trans h2⟩
 ·rcases k.perm i blk b o h1 h2 with h3|h3
  ·exact .inl (Nat.le_trans h.fr.size h3)
  ·exact own b o h3
 ·obtain⟨x,ts,hx⟩:=k.ty i u y us (by omega) hg
  exact h.ty i u x ts hi (hL i hi _ hx)
theorem Good.start {g:Gh}{w:World}{H:Heap}{L':List Blk}(hH:HeapOk g w H) (hL: ∀i b,L'[i]? =some b→getH H i=some b∧b≠.dead) (hty: ∀i,i<L'.length→∀b,getH H i=some b→L'[i]? =some b):Good (ownsAny g H) L' g w g w H:=by
 refine⟨fun b o h=>⟨h,rfl⟩,Fr.refl _ _ _,fun i blk b o hg ho=> .inr ⟨i,blk,hg,ho⟩,fun _ _ _ h=>h,fun i hi=> ?_,fun i u y us hi hg=>⟨y,us,hty i hi _ hg⟩,fun _ _ _ _ h=>h⟩
 obtain⟨h1,h2⟩:=hL i L'[i] (by simp)
 have hbk:=hH.blk i _ h1
 generalize L'[i]=blk at hbk h2
 cases blk with
 |cells t x ts=>obtain⟨p,cs,hp,_⟩:=hbk;exact .inl ⟨p,hp⟩
 |grow e c n=>obtain⟨v,xs,hv,_⟩:=hbk;exact .inr ⟨n,v,hv⟩
 |row e t l n=>obtain⟨_,v,xs,hv,_⟩:=hbk;exact .inr ⟨n,v,hv⟩
 |map k v l=>obtain⟨p,es,cl,hp,_⟩:=hbk;exact .inl ⟨p,hp⟩
 |iter s n=>obtain⟨p,hp,_⟩:=hbk;exact .inl ⟨p,hp⟩
 |dead=>exact absurd rfl h2
@[go_sem] def MF (env:List (Nat×Slot)):List Nat→List Slot→List (Nat×Slot)
 |p::ps,s::ss=>MF (rT (some p) s env) ps ss
 |_,_=>env
theorem aAN {g:Gh}{w:World}: ∀{ps:List Nat}{ss:List Slot}{vs:List Value}{env:List (Nat×Slot)}{tmps:Array Value},EnvOk g w env tmps→(∀p∈ps,p<tmps.size)→ArgsOk g w ss vs→ps.length=ss.length→
  EnvOk g w (MF env ps ss) ((ps.zip vs).foldl (fun t (q:Nat×Value)=>t.setIfInBounds q.1 q.2) tmps)∧((ps.zip vs).foldl (fun t (q:Nat×Value)=>t.setIfInBounds q.1 q.2) tmps).size=tmps.size
 |[],[],vs,env,tmps,h,_,ha,_=>by
  have:vs=[]:=ha
  subst this
  exact⟨h,rfl⟩
 |p::ps,s::ss,vs,env,tmps,h,hp,ha,hl=>by
  obtain⟨v,vs',rfl,h1,h2⟩:=ha
  have hput:EnvOk g w (rT (some p) s env) (tmps.setIfInBounds p v):=WE (a:={tmps:=tmps,defers:=[]}) (o:=⟨some p,.move (.tmp 0),0, "",#[],none⟩) (N:=tmps.size) h (Le.refl g w) h1 rfl (by simpa[dstOk] using hp p (by simp))
  have:=aAN (tmps:=tmps.setIfInBounds p v) hput (fun q hq=>by simpa using hp q (List.mem_cons_of_mem _ hq)) h2 (by simpa using hl)
  exact⟨this.1,by rw[List.zip_cons_cons,List.foldl_cons];rw[this.2];simp⟩
def aAO (P:Program) (gf:Nat) (u:Ty) {ι:Type}(pre:u.den→Prop) (items:u.den→List ι) (vl:ι→List Value):Prop:=
 (∀args w,(callFunc gf args).run P w= .ok (.enter gf args) w)∧
 ∀(l b o:Nat) (x:u.den) (cs:List Value) (g:Gh) (W0:World) (J:Nat→World→Prop) (Jx:World→Prop),pre x→Rd g W0 u x cs→
  (∀i W,J i W→W.rangeAt b o cs∧∀b o,g.S b o→W.cell? ⟨b,o,none⟩=W0.cell? ⟨b,o,none⟩)→
  (∀i W d,J i W→J i {W with drawn:=d})→(∀W d,Jx W→Jx {W with drawn:=d})→
  (∀i it W,(items x)[i]? =some it→J i W→YieldAt Fence.wide 0 P l (vl it).toArray W fun e W'=>(e= .returned (.bool true)∧J (i+1) W')∨(e= .returned (.bool false)∧Jx W'))→
  ∀W,J 0 W→Calls P gf #[.func (.yield l) #[] #[],.pointer (some ⟨b,o,none⟩)] W fun e W'=>(∃v,e= .returned v)∧(J (items x).length W'∨Jx W')
def AY {ι σ ρ:Type}(f:ι→σ→Option (σ⊕ρ)):List ι→σ→Option (σ⊕ρ)
 |[],x=>some (.inl x)
 |it::r,x=>(f it x).bind fun w=>match w with
  | .inl x'=>AY f r x'
  | .inr y=>some (.inr y)
theorem aJ9 {ι σ ρ:Type}{f:ι→σ→Option (σ⊕ρ)}{it:ι}{r:List ι}{x:σ}{y:σ⊕ρ}(h:AY f (it::r) x=some y): ∃w,f it x=some w∧(∀x',w= .inl x'→AY f r x'=some y)∧(∀z,w= .inr z→y= .inr z):=by
 unfold AY at h
 cases hf:f it x with
 |none=>rw[hf] at h;cases h
 |some w=>
  rw[hf] at h
  refine⟨w,rfl,fun x' e=> ?_,fun z e=> ?_⟩
  ·subst e;exact h
  ·subst e;exact(Option.some.inj h).symm
def qA (st:St):Ex→St→Prop
 | .normal,s=> ∃k:Keep,s.keep k=st
 |_,_=>False
def qF {σ ρ:Type}(encH:σ→List Blk) (E0:List (Nat×Slot)) (N np np':Nat) (w:σ⊕ρ) (Q:Ex→St→Prop):Ex→St→Prop
 | .normal,s=> ∃(k:Keep) (x:σ),w= .inl x∧s.keep k=⟨[],enumH 0 (encH x),pG (encH x),N,np'⟩
 |e,s=> ∃(k:Keep) (B:List Blk),s.keep k=⟨[],enumH 0 B,pG B,N,np'⟩∧(∃z,w= .inr z)∧Q e ⟨E0,enumH 0 B,pG B,N,np⟩
section
variable {B:Nat}{A:Nat→Nat→Prop}{L:List Blk}{g0 g:Gh}{w0 w:World}{b0 o0 n0:Nat}{cs:List Value}{E0:List (Nat×Slot)}{tmps:Array Value}{ds:List Deferred}
structure RInv (B:Nat) (A:Nat→Nat→Prop) (L:List Blk) (g0:Gh) (w0:World) (g:Gh) (w:World) (b0 o0 n0:Nat) (cs:List Value) (E0:List (Nat×Slot)) (tmps:Array Value) (ds:List Deferred) (g1:Gh) (W:World) (H:Heap):Prop where
 env:EnvOk g1 W E0 tmps
 heap:HeapOk g1 W H
 good:Good A L g0 w0 g1 W H
 sld: ∀b o,g.S b o→g1.S b o∧W.cell? ⟨b,o,none⟩=w.cell? ⟨b,o,none⟩
 rng:W.rangeAt b0 o0 cs
 len:cs.length=n0
 lt:0<n0→b0<W.heap.size
 out: ∀o,o0≤o→o<o0+n0→¬ownsAny g1 H b0 o
 defs:DefsOk B W ds
theorem RInv.turn {g1:Gh}{W W2:World}{H:Heap}(h:RInv B A L g0 w0 g w b0 o0 n0 cs E0 tmps ds g1 W H) (t:Turn w0.heap.size W W2) {ds':List Deferred}(hd:DefsOk B W2 ds'):RInv B A L g0 w0 g w b0 o0 n0 cs E0 tmps ds' g1 W2 H:=by
 refine⟨fun x=>yN (t.le h.heap.sl) (h.env x),t.heapOk h.heap,h.good.turn h.heap.sl t,fun b o x=>⟨(h.sld b o x).1,(t.cell (h.heap.sl b o (h.sld b o x).1) o).1.trans (h.sld b o x).2⟩,fun j v hv=> ?_,h.len,fun x=>Nat.lt_of_lt_of_le (h.lt x) t.size,h.out,hd⟩
 have hj:j<cs.length:=(List.getElem?_eq_some_iff.1 hv).1
 have:=h.len
 exact(t.cell (h.lt (by omega)) _).1.trans (h.rng j v hv)
theorem RInv.inner {g1 g2:Gh}{W W2:World}{H H2:Heap}{L':List Blk}{np':Nat}(h:RInv B A L g0 w0 g w b0 o0 n0 cs E0 tmps ds g1 W H) (k:Good (ownsAny g1 H) L' g1 W g2 W2 H2) (hH:HeapOk g2 W2 H2) (hpin:JH np' E0=true) (hnp:np'=L'.length) (hl:L.length≤L'.length)
  (hL: ∀i,i<L.length→∀b,L'[i]? =some b→getH H i=some b):RInv B A L g0 w0 g w b0 o0 n0 cs E0 tmps ds g2 W2 H2:=by
 subst hnp
 refine⟨aJ8 h.env hpin (fun b o x=>(k.shut b o x).1) (fun b o x=>(k.shut b o x).2) (fun i p hi x=>k.J i p hi x) (fun i n v hi x=>k.cur i n v hi x),hH,h.good.inner k (fun b o x=> .inr x) hl hL,fun b o x=> ?_,fun j v hv=> ?_,h.len,fun x=>Nat.lt_of_lt_of_le (h.lt x) k.fr.size,fun o h1 h2 ⟨i,blk,h3,h4⟩=> ?_,h.defs.same fun D hD=> ?_⟩
 ·obtain⟨h1,h2⟩:=h.sld b o x
  exact⟨(k.shut b o h1).1,(k.shut b o h1).2.trans h2⟩
 ·have hj:j<cs.length:=(List.getElem?_eq_some_iff.1 hv).1
  have:=h.len
  exact(k.fr.cell _ _ (h.lt (by omega)) (h.out _ (by omega) (by omega))).1.trans (h.rng j v hv)
 ·rcases k.perm i blk _ _ h3 h4 with h5|h5
  ·have:=h.lt (by omega);omega
  ·exact h.out o h1 h2 h5
 ·rw[k.fr.blk D (Array.getElem?_eq_some_iff.1 hD).1 (fun o ⟨i,blk,h1,h2⟩=>QW (h.heap.blk i blk h1) h2 hD rfl)]
  exact hD
theorem aAP {g1 g2:Gh}{W W2:World}{H H2:Heap}{L':List Blk}(hH:HeapOk g1 W H) (k:Good (ownsAny g1 H) L' g1 W g2 W2 H2) {D:Nat}{ob:Obj}(hD:W.heap[D]? =some ob) (hm:markObj ob=true):W2.heap[D]? =some ob:=by
 rw[k.fr.blk D (Array.getElem?_eq_some_iff.1 hD).1 (fun o ⟨i,blk,h1,h2⟩=>QW (hH.blk i blk h1) h2 hD hm)]
 exact hD
end
theorem Turn.put {B:Nat}{W:World}{l:Nat}{o o':Obj}(h:W.heap[l]? =some o) (hB:B≤l) (hN:NG≤l) (hm:markObj o=true) (hm':markObj o'=true):Turn B W (W.putObj l o'):=by
 have hlt:=(Array.getElem?_eq_some_iff.1 h).1
 refine⟨rfl,rfl,rfl,by simp [World.putObj],fun b hb=> ?_⟩
 by_cases e:b=l
 ·subst e
  exact .inr ⟨hB,hN,_,_,h,World.putObj_heap_same hlt,hm,hm'⟩
 ·exact .inl (World.putObj_heap_other e)
theorem Turn.new (B:Nat) (W:World) (o:Obj):Turn B W (W.alloc o):=by
 refine⟨rfl,rfl,rfl,by simp,fun b hb=> .inl ?_⟩
 exact Below.heap_alloc W o b hb
theorem aAQ {e:Ex}{x:Exit}(h:A5 x=some e):(x= .normal∧e= .normal)∨(x= .ret∧e= .ret)∨∃id,x= .exit id∧e= .exit id:=by
 cases x<;>simp only[A5,Option.some.injEq] at h
 ·exact .inl ⟨rfl,h.symm⟩
 ·exact .inr (.inr ⟨_,rfl,h.symm⟩)
 ·cases h
 ·exact .inr (.inl ⟨rfl,h.symm⟩)
 ·cases h
 ·cases h
def aKa:Ex→Option Code
 | .normal=>none
 | .ret=>some .ret
 | .exit id=>some (.exit id)
theorem aKb {P:Program}{gf:Nat}{u:Ty}{ι:Type}{pre:u.den→Prop}{items:u.den→List ι}{vl:ι→List Value}(hit:aAO P gf u pre items vl) {sl:ι→List Slot}(hsl: ∀it g w,ArgsOk g w (sl it) (vl it))
  {fo:Operand}{ps:Array Tmp}{assign body:Code}{s:St}{Q:Ex→St→Prop}{c:Nat}{k0:Option Nat}(hf:rX s.env fo=(.val .clo (some (gf,[(c,0)])),k0)) {xc:u.den}{toks:List (Nat×Nat)}(hc:getH s.H c=some (.cells u xc toks)) (hpre:pre xc)
  {σ ρ:Type}{f:ι→σ→Option (σ⊕ρ)}{x0:σ}{y:σ⊕ρ}(hy:AY f (items xc) x0=some y)
  (E0:List (Nat×Slot)) (E1:ι→List (Nat×Slot)) (encH:σ→List Blk) (np':Nat) (k:Keep) (hk:uT s.np k.ids=true) (h0:s.keep k=⟨E0,enumH 0 (encH x0),pG (encH x0),s.N,s.np⟩)
  (hcd:k.ids.all (fun q=>decide (q.2≠c))=true) (hpin:JH np' E0=true) (hnp:s.np≤np') (hlen: ∀x,np'≤pG (encH x)) (hdead: ∀x,((encH x).take np').all (fun b=>match b with| .dead=>false|_=>true)=true)
  (hps: ∀it,ps.toList.length=(sl it).length) (hpN:(ps.toList.all fun p=>decide (p<s.N))=true)
  (hround: ∀it x w,f it x=some w→(∀z,w= .inr z→y= .inr z)→Ev true P assign ⟨MF E0 ps.toList (sl it),enumH 0 (encH x),pG (encH x),s.N,np'⟩ (qA ⟨E1 it,enumH 0 (encH x),pG (encH x),s.N,np'⟩)∧
   Ev true P body ⟨E1 it,enumH 0 (encH x),pG (encH x),s.N,np'⟩ (qF encH E0 s.N s.np np' w Q))
  (hdone: ∀x,y= .inl x→Q .normal ⟨E0,enumH 0 (encH x),pG (encH x),s.N,s.np⟩):Ev false P (.rangeFunc fo ps assign body) s Q:=by
 intro ro hro A L g0 w0 g a w B hB hr hg hn
 have hN:ro=none:=by cases ro<;>first|rfl|cases hro
 subst hN
 have hfv:=xB hr.env fo
 rw[hf] at hfv
 obtain⟨p,hpJ,hev⟩: ∃p,g.J c=some p∧a.eval fo= .func (.func gf) #[] #[.pointer (some ⟨p.1,p.2,none⟩)]:=by
  rcases hfv.1 with⟨h1,_⟩ |⟨_,vs,⟨p,vs',h4,h5,h6⟩,h3⟩
  ·cases h1
  ·rw[show vs'=[] from h6] at h5
   subst h5
   simp only[List.cons.injEq,and_true] at h3
   exact⟨p,h4,h3⟩
 obtain⟨p',cs,hp',hRc,hra,hth,hns,htk⟩:=hr.heap.blk c _ hc
 rw[hpJ] at hp'
 obtain rfl:=Option.some.inj hp'
 have hcl:=qV hRc
 obtain⟨hr1,hg1,hn1,_⟩:=WD hr hg hn k hk
 have hout: ∀o,p.2≤o→o<p.2+u.cells→¬ownsAny (s8 g s.np k.ids) (s.keep k).H p.1 o:=by
  rintro o h1 h2 ⟨i,blk,h3,h4⟩
  have h3':getH (LL s k (uT s.np k.ids)).H i=some blk:=h3
  rw[hk] at h3'
  obtain⟨o',h5,rfl⟩:=EV h3'
  obtain⟨c1,h6,h7⟩:=(H0 hk h5 fun c1 hc1=>hr.heap.blk o' c1 hc1).2 _ _ h4
  have h8:=List.all_eq_true.1 hcd _ h5
  exact hr.heap.dis o' c c1 _ p.1 o (of_decide_eq_true h8) h6 hc h7 ⟨p,hpJ,rfl,h1,h2⟩
 rw[h0] at hr1 hg1 hout
 have inv0:RInv B A L g0 w0 g w p.1 p.2 u.cells cs E0 a.tmps a.defers (s8 g s.np k.ids) w (enumH 0 (encH x0)):=
  ⟨hr1.env,hr1.heap,hg1,fun b o h=>⟨h,rfl⟩,hra,hcl,fun hpos=>by
   obtain⟨v,hv⟩:=Option.isSome_iff_exists.1 (hth.1 0 hpos).1
   exact Q9 hv,hout,hr.def_⟩
 have hNG:NG≤w.heap.size:=hr.heap.tab.1.1
 have hBw:w0.heap.size≤w.heap.size:=hg.fr.size
 refine wpIn_rangeFunc fun fn _=> ?_
 obtain⟨rec,hrec⟩: ∃rec:LoopState→Option Code→Loop,rec=fun st pe=>{state:=st,pending:=pe,fn,tmps:=a.tmps,params:=ps,assign,body,defers:=w.heap.size}:=⟨_,rfl⟩
 obtain⟨W1,hW1⟩: ∃W1,(w.alloc (.deferred (some []))).alloc (.loop (rec .ready none))=W1:=⟨_,rfl⟩
 have hL1:W1.heap[w.heap.size+1]? =some (.loop (rec .ready none)):=by
  rw[←hW1];have:=World.alloc_heap_new (w.alloc (.deferred (some []))) (.loop (rec .ready none));rwa [World.size_alloc] at this
 have hK1:W1.heap[w.heap.size]? =some (.deferred (some [])):=by
  rw[←hW1];exact(Below.heap_alloc _ _ _ (by simp)).trans (World.alloc_heap_new w _)
 have t1:Turn w0.heap.size w W1:=by rw[←hW1];exact(Turn.new _ _ _).trans (Turn.new _ _ _)
 obtain⟨ds,hds⟩: ∃ds:List Deferred,{target:= .collected w.heap.size,args:= #[]}::a.defers=ds:=⟨_,rfl⟩
 have hd1:DefsOk B W1 ds:=by
  rw[←hds]
  refine⟨List.nodup_cons.2 ⟨fun hm=> ?_,hr.def_.1⟩,fun d hd=> ?_⟩
  ·obtain⟨D,h1,_,_,h4⟩:=hr.def_.2 _ hm
   have h5:w.heap.size=D:=by injection h1 with h1;injection h1
   have:=(Array.getElem?_eq_some_iff.1 h4).1
   omega
  ·rcases List.mem_cons.1 hd with rfl|hd
   ·exact⟨_,rfl,by omega,hNG,hK1⟩
   ·obtain⟨D,h1,h2,h3,h4⟩:=hr.def_.2 _ hd
    have hlt:=(Array.getElem?_eq_some_iff.1 h4).1
    refine⟨D,h1,h2,h3,?_⟩
    rw[←hW1]
    exact(Below.heap_alloc _ _ D (by simp;omega)).trans ((Below.heap_alloc _ _ D hlt).trans h4)
 let l:=w.heap.size+1
 let J:Nat→World→Prop:=fun i W=> ∃g1 x,AY f ((items xc).drop i) x=some y∧RInv B A L g0 w0 g w p.1 p.2 u.cells cs E0 a.tmps ds g1 W (enumH 0 (encH x))∧
  (∀j,pG (encH x)≤j→g1.J j=none∧∀n,g1.cur j n=none)∧W.heap[l]? =some (.loop (rec .ready none))
 let Jx:World→Prop:=fun W=> ∃g1 Bl e cd z,aKa e=some cd∧y= .inr z∧Q e ⟨E0,enumH 0 Bl,pG Bl,s.N,s.np⟩∧RInv B A L g0 w0 g w p.1 p.2 u.cells cs E0 a.tmps ds g1 W (enumH 0 Bl)∧
  (∀j,pG Bl≤j→g1.J j=none∧∀n,g1.cur j n=none)∧s.np≤pG Bl∧W.heap[l]? =some (.loop (rec .done (some cd)))
 have tdrawn: ∀(W:World) (d:Nat),Turn w0.heap.size W {W with drawn:=d}:=fun W d=>⟨rfl,rfl,rfl,Nat.le_refl _,fun _ _=> .inl rfl⟩
 have hJd: ∀i W d,J i W→J i {W with drawn:=d}:=fun i W d ⟨g1,x,h1,h2,h3,h4⟩=>⟨g1,x,h1,h2.turn (tdrawn W d) (h2.defs.same fun _ h=>h),h3,h4⟩
 have hJxd: ∀W d,Jx W→Jx {W with drawn:=d}:=fun W d ⟨g1,Bl,e,cd,z,h1,h2,h3,h4,h5,h6,h7⟩=>⟨g1,Bl,e,cd,z,h1,h2,h3,h4.turn (tdrawn W d) (h4.defs.same fun _ h=>h),h5,h6,h7⟩
 have hround2: ∀i it W,(items xc)[i]? =some it→J i W→YieldAt Fence.wide 0 P l (vl it).toArray W fun e W'=>(e= .returned (.bool true)∧J (i+1) W')∨(e= .returned (.bool false)∧Jx W'):=by
  rintro i it W hi ⟨g1,x,hfold,inv,nb,hl⟩
  have hil:i<(items xc).length:=(List.getElem?_eq_some_iff.1 hi).1
  have hdrop:(items xc).drop i=it::(items xc).drop (i+1):=by
   rw[List.drop_eq_getElem_cons hil]
   congr 1
   exact(List.getElem?_eq_some_iff.1 hi).2
  rw[hdrop] at hfold
  obtain⟨wv,hw,hinl,hinr⟩:=aJ9 hfold
  obtain⟨evA,evB⟩:=hround it x wv hw hinr
  have hvl:(vl it).toArray.size=ps.size:=by
   rw[List.size_toArray,(R5 (hsl it g1 W)).1,←hps it,Array.length_toList]
  have hyl:=run_yield (P:=P) (args:=(vl it).toArray) hl (by rw[hrec];exact hvl)
  rw[hrec] at hyl
  refine⟨fn,_,assign,body,hyl,roundIn_of_wpIn trivial ?_⟩
  have hz:(ps.zip (vl it).toArray).foldl (fun tmps (t,v)=>tmps.setIfInBounds t v) a.tmps=(ps.toList.zip (vl it)).foldl (fun t (q:Nat×Value)=>t.setIfInBounds q.1 q.2) a.tmps:=by
   rw[←Array.foldl_toList,Array.toList_zip]
  rw[hz]
  obtain⟨henv,hsz⟩:=aAN inv.env (fun q hq=>by rw[hr.size];exact of_decide_eq_true (List.all_eq_true.1 hpN q hq)) (hsl it g1 W) (hps it)
  have hL'len:((encH x).take np').length=np':=by
   rw[List.length_take]
   have:=hlen x
   rw[R6] at this
   omega
  have hLget: ∀i b,((encH x).take np')[i]? =some b→getH (enumH 0 (encH x)) i=some b:=fun i b h=>by
   rw[vB]
   exact(List.getElem?_take_of_lt (by have:=(List.getElem?_eq_some_iff.1 h).1;omega)).symm.trans h
  have hLget2: ∀i b,((encH x).take np')[i]? =some b→getH (enumH 0 (encH x)) i=some b∧b≠.dead:=fun i b h=>⟨hLget i b h,fun e=>by
   have:=List.all_eq_true.1 (hdead x) b (List.mem_of_getElem? h)
   subst e
   cases this⟩
  have hLty: ∀i,i<((encH x).take np').length→∀b,getH (enumH 0 (encH x)) i=some b→((encH x).take np')[i]? =some b:=fun i hi b h=>by
   rw[vB] at h
   exact(List.getElem?_take_of_lt (by omega)).trans h
  have gs:=Good.start inv.heap hLget2 hLty
  have rA:Rel W.heap.size g1 W ⟨MF E0 ps.toList (sl it),enumH 0 (encH x),pG (encH x),s.N,np'⟩ {tmps:=(ps.toList.zip (vl it)).foldl (fun t (q:Nat×Value)=>t.setIfInBounds q.1 q.2) a.tmps,defers:=[]}:=⟨henv,inv.heap,hsz.trans hr.size,nb,a9C _ _,hlen x⟩
  have hlow:L.length≤((encH x).take np').length:=by rw[hL'len,←hn];exact hnp
  refine wpIn_mono (evA (some l) rfl _ _ g1 W g1 _ W _ (Nat.le_refl _) rA gs hL'len.symm) fun e a1 wa hp=> ?_
  obtain⟨e',g2,s2,e1,e2,e3,e4,e5⟩:=hp
  rcases aAQ e1 with⟨rfl,rfl⟩ |⟨rfl,rfl⟩ |⟨id,rfl,rfl⟩
  ·obtain⟨kA,hkA⟩:=e2
   obtain⟨g3,k1,k2,k3,_⟩:=D9 e3 e4 e5 kA
   rw[hkA] at k1 k2
   have inva:=inv.inner k2 k1.heap hpin hL'len.symm hlow (fun i hi b h=>hLget i b h)
   have hla:=aAP inv.heap k2 hl rfl
   refine⟨_,run_beginRound hla (by rw[hrec]),?_⟩
   obtain⟨Wb,hWb⟩: ∃Wb,wa.putObj l (.loop {rec .ready none with state:= .busy})=Wb:=⟨_,rfl⟩
   have tb:Turn w0.heap.size wa Wb:=by rw[←hWb];exact Turn.put hla (by show w0.heap.size≤w.heap.size+1;omega) (by show NG≤w.heap.size+1;omega) rfl rfl
   have hlt:=(Array.getElem?_eq_some_iff.1 hla).1
   have other: ∀{W:World}{o o':Obj}{D:Nat},W.heap[l]? =some (.loop (rec .ready none))∨W.heap[l]? =some (.loop {rec .ready none with state:= .busy})→W.heap[D]? =some (.deferred (some []))→(W.putObj l o').heap[D]? =some (.deferred (some [])):=by
    intro W o o' D h1 h2
    rw[World.putObj_heap_other (fun e=>by subst e;rcases h1 with h1|h1<;>(rw[h1] at h2;cases h2))]
    exact h2
   have invb:=inva.turn tb (inva.defs.same fun D hD=>by rw[←hWb];exact other (o:= .loop (rec .ready none)) (.inl hla) hD)
   have hlb:Wb.heap[l]? =some (.loop {rec .ready none with state:= .busy}):=by rw[←hWb];exact World.putObj_heap_same hlt
   rw[hWb]
   have gsb:=Good.start invb.heap hLget2 hLty
   have rB:Rel W.heap.size g3 Wb ⟨E1 it,enumH 0 (encH x),pG (encH x),s.N,np'⟩ a1:=⟨fun t=>yN (tb.le k1.heap.sl) (k1.env t),invb.heap,k1.size,k1.nb,k1.def_.same fun D hD=>by rw[←hWb];exact other (o:= .loop (rec .ready none)) (.inl hla) hD,hlen x⟩
   have hWW:W.heap.size≤Wb.heap.size:=Nat.le_trans k2.fr.size tb.size
   refine wpIn_mono (evB (some l) rfl _ _ g3 Wb g3 a1 Wb _ hWW rB gsb hL'len.symm) fun e a2 wc hp=> ?_
   obtain⟨e',g4,s4,e1,e2,e3,e4,e5⟩:=hp
   have uE: ∀(kB:Keep) (Bl:List Blk),s4.keep kB=⟨[],enumH 0 Bl,pG Bl,s.N,np'⟩→∀jump:Option Code,∃g5,RInv B A L g0 w0 g w p.1 p.2 u.cells cs E0 a.tmps ds g5 (wc.putObj l (.loop (rec (if jump.isNone then .ready else .done) jump))) (enumH 0 Bl)∧
     (∀j,pG Bl≤j→g5.J j=none∧∀n,g5.cur j n=none)∧np'≤pG Bl∧(wc.putObj l (.loop (rec (if jump.isNone then .ready else .done) jump))).heap[l]? =some (.loop (rec (if jump.isNone then .ready else .done) jump))∧
     (Instr.endRound l jump).run P wc= .ok (.bool jump.isNone) (wc.putObj l (.loop (rec (if jump.isNone then .ready else .done) jump))):=by
    intro kB Bl hkB jump
    obtain⟨g5,j1,j2,j3,_⟩:=D9 e3 e4 e5 kB
    rw[hkB] at j1 j2
    have invc:=invb.inner j2 j1.heap hpin hL'len.symm hlow (fun i hi b h=>hLget i b h)
    have hlc:=aAP invb.heap j2 hlb rfl
    have hltc:=(Array.getElem?_eq_some_iff.1 hlc).1
    have tc:Turn w0.heap.size wc (wc.putObj l (.loop (rec (if jump.isNone then .ready else .done) jump))):=Turn.put hlc (by show w0.heap.size≤w.heap.size+1;omega) (by show NG≤w.heap.size+1;omega) rfl rfl
    refine⟨g5,invc.turn tc (invc.defs.same fun D hD=>other (o:= .loop (rec .ready none)) (.inr hlc) hD),j1.nb,j1.np,World.putObj_heap_same hltc,?_⟩
    have:=run_endRound (P:=P) jump hlc
    rw[this,hrec]
   rcases aAQ e1 with⟨rfl,rfl⟩ |⟨rfl,rfl⟩ |⟨id,rfl,rfl⟩
   ·obtain⟨kB,x',rfl,hkB⟩:=e2
    obtain⟨g5,q1,q2,q3,q4,q5⟩:=uE kB _ hkB none
    exact⟨_,_,q5,.inl ⟨rfl,g5,x',hinl x' rfl,q1,q2,q4⟩⟩
   ·obtain⟨kB,Bl,hkB,⟨z,rfl⟩,hq⟩:=e2
    obtain⟨g5,q1,q2,q3,q4,q5⟩:=uE kB _ hkB (some .ret)
    exact⟨_,_,q5,.inr ⟨rfl,g5,Bl,.ret,.ret,z,rfl,hinr z rfl,hq,q1,q2,Nat.le_trans hnp q3,q4⟩⟩
   ·obtain⟨kB,Bl,hkB,⟨z,rfl⟩,hq⟩:=e2
    obtain⟨g5,q1,q2,q3,q4,q5⟩:=uE kB _ hkB (some (.exit id))
    exact⟨_,_,q5,.inr ⟨rfl,g5,Bl,.exit id,.exit id,z,rfl,hinr z rfl,hq,q1,q2,Nat.le_trans hnp q3,q4⟩⟩
  ·exact e2.elim
  ·exact e2.elim
 refine⟨l,[{target:= .collected w.heap.size,args:= #[]}],W1,{target:= .fn (.func gf) #[.pointer (some ⟨p.1,p.2,none⟩)],args:= #[.func (.yield l) #[] #[]]},W1,gf,#[.func (.yield l) #[] #[]]++ #[.pointer (some ⟨p.1,p.2,none⟩)],W1,?_,?_,fun _ _=>trivial,?_,fun h=>(by cases h),?_⟩
 ·rw[←hW1,hrec];exact run_enterLoop_outer _ _ _ _ _
 ·simp only[resolve,hev]
  simp [go_sem]
 ·simp [invoke,go_sem,hit.1]
 ·have inv1:=inv0.turn t1 hd1
  refine(a9K (ro:=none) (n:=0-1) (hit.2 l p.1 p.2 xc cs g w J Jx hpre hRc (fun i W ⟨g1,x,_,h2,_⟩=>⟨h2.rng,fun b o hb=>(h2.sld b o hb).2⟩) hJd hJxd hround2 W1 ⟨_,x0,hy,inv1,hr1.nb,hL1⟩)).mono ?_
  have hend: ∀{W:World}{r:Loop},W.heap[l]? =some (.loop r)→∀{ds0:List Deferred},DefsOk B W ds0→DefsOk B (W.putObj l (.loop {r with state:= .exhausted})) ds0:=by
   intro W r h1 ds0 h2
   refine h2.same fun D hD=> ?_
   rw[World.putObj_heap_other (fun e=>by subst e;rw[h1] at hD;cases hD)]
   exact hD
  rintro e W2 ⟨⟨v,rfl⟩,(⟨g1,x,h1,h2,h3,h4⟩ |⟨g1,Bl,e,cd,z,h1,h2,h3,h4,h5,h6,h7⟩)⟩
  ·rw[List.drop_length] at h1
   have hyx:y= .inl x:=(Option.some.inj h1).symm
   have hin:=h2.turn (Turn.put (o':= .loop {rec .ready none with state:= .exhausted}) h4 (by show w0.heap.size≤w.heap.size+1;omega) (by show NG≤w.heap.size+1;omega) rfl rfl) (hend h4 h2.defs)
   refine⟨none,W2.putObj l (.loop {rec .ready none with state:= .exhausted}),by have:=run_endLoop (P:=P) h4 (by rw[hrec];simp);rw[hrec] at this⊢;exact this,?_⟩
   refine⟨.normal,g1,_,rfl,hdone x hyx,⟨hin.env,hin.heap,hr.size,h3,?_,Nat.le_trans hnp (hlen x)⟩,hin.good,hn⟩
   have:=hin.defs
   rw[←hds] at this
   exact this
  ·have hin:=h4.turn (Turn.put (o':= .loop {rec .done (some cd) with state:= .exhausted}) h7 (by show w0.heap.size≤w.heap.size+1;omega) (by show NG≤w.heap.size+1;omega) rfl rfl) (hend h7 h4.defs)
   refine⟨some cd,W2.putObj l (.loop {rec .done (some cd) with state:= .exhausted}),by have:=run_endLoop (P:=P) h7 (by rw[hrec];simp);rw[hrec] at this⊢;exact this,?_⟩
   have hdef:=hin.defs
   rw[←hds] at hdef
   have hrel:Rel B g1 (W2.putObj l (.loop {rec .done (some cd) with state:= .exhausted})) ⟨E0,enumH 0 Bl,pG Bl,s.N,s.np⟩ {a with defers:=[{target:= .collected w.heap.size,args:= #[]}]++a.defers}:=⟨hin.env,hin.heap,hr.size,h5,hdef,h6⟩
   cases e with
   |normal=>cases h1
   |ret=>
    obtain rfl:=Option.some.inj h1
    exact wpIn_ret ⟨.ret,g1,_,rfl,h3,hrel,hin.good,hn⟩
   |exit id=>
    obtain rfl:=Option.some.inj h1
    exact wpIn_exit ⟨.exit id,g1,_,rfl,h3,hrel,hin.good,hn⟩
section
variable {σ ρ:Type}{encH:σ→List Blk}{E0:List (Nat×Slot)}{N np np':Nat}{w:σ⊕ρ}{Q:Ex→St→Prop}{st s:St}
theorem aKc (k:Keep) (h:s.keep k=st):qA st .normal s:=⟨k,h⟩
theorem aKd (k:Keep) (x:σ) (hw:w= .inl x) (h:s.keep k=⟨[],enumH 0 (encH x),pG (encH x),N,np'⟩):qF encH E0 N np np' w Q .normal s:=⟨k,x,hw,h⟩
end
end Go.Proofs.YtbbpilohihldiaaGreatDoor.Vc
namespace Go.Proofs.YtbbpilohihldiaaGreatDoor
open Go.RowKit Go.Shelf Vc
section
attribute [local go_sem] Oper.semAt_some
def zM (d:(Ty.pair .str (.pair (.list .str) (.pair .str .unit))).den):List (Int×List UInt8):=
 (0,d.1)::((List.range d.2.1.length).map fun j:Nat=>((j:Int)+1,d.2.1.getD j []))++[((d.2.1.length:Int)+1,d.2.2.1)]
def MG (it:Int×List UInt8):List Value:=[.int .i64 it.1,.string ⟨it.2.toArray⟩]
@[go_sem] def aAR (it:Int×List UInt8):List Slot:=[(.val (.int .i64) it.1,none),(.val .str it.2,none)]
theorem aKe (it:Int×List UInt8) (g:Gh) (w:World):ArgsOk g w (aAR it) (MG it):=⟨_,_,rfl,⟨tT _ _ _ _,trivial⟩,_,_,rfl,⟨D6 _ _ _,trivial⟩,rfl⟩
theorem aKf (d:(Ty.pair .str (.pair (.list .str) (.pair .str .unit))).den):(zM d).length=d.2.1.length+2:=by simp [zM]
theorem aKg (d:(Ty.pair .str (.pair (.list .str) (.pair .str .unit))).den):(zM d)[0]? =some (0,d.1):=by simp [zM]
theorem aKh (d:(Ty.pair .str (.pair (.list .str) (.pair .str .unit))).den) {j:Nat}(h:j<d.2.1.length):(zM d)[j+1]? =some ((j:Int)+1,d.2.1.getD j []):=by
 simp [zM,List.getElem?_append_left,h]
theorem aKi (d:(Ty.pair .str (.pair (.list .str) (.pair .str .unit))).den):(zM d)[d.2.1.length+1]? =some ((d.2.1.length:Int)+1,d.2.2.1):=by
 simp [zM]
set_option maxRecDepth 100000 in
set_option maxHeartbeats 4000000 in
theorem aKj:aAO Tryz.prog 92 (.pair .str (.pair (.list .str) (.pair .str .unit))) (fun d=>d.2.1.length≤4611686018427387904) zM MG:=by
 refine⟨fun _ _=>rfl,?_⟩
 intro l b o d cs g W0 J Jx hpre hR hrd hJd hJxd hY W h0
 obtain⟨c1,c2,rfl,hh,c3,c4,rfl,hl,c5,c6,rfl,ht,hu⟩:=hR
 rw[show c1=[.string ⟨d.1.toArray⟩] from hh] at hrd
 rw[show c5=[.string ⟨d.2.2.1.toArray⟩] from ht,show c6=[] from hu] at hrd
 obtain⟨a,cap,rfl,hcap,hel⟩:=hl
 have r0: ∀i W,J i W→W.cell? ⟨b,o,none⟩=some (.string ⟨d.1.toArray⟩):=fun i W h=>by simpa using(hrd i W h).1 0 _ rfl
 have r1: ∀i W,J i W→W.cell? ⟨b,o+1,none⟩=some (.slice a d.2.1.length cap):=fun i W h=>(hrd i W h).1 1 _ rfl
 have r2: ∀i W,J i W→W.cell? ⟨b,o+2,none⟩=some (.string ⟨d.2.2.1.toArray⟩):=fun i W h=>(hrd i W h).1 2 _ rfl
 have re: ∀j,j<d.2.1.length→∃b' o',a=some ⟨b',o',none⟩∧∀i W,J i W→W.cell? ⟨b',o'+j,none⟩=some (.string ⟨(d.2.1.getD j []).toArray⟩):=by
  intro j hj
  rcases hel with h|⟨b',o',h1,h2⟩
  ·rw[h] at hj;cases hj
  ·refine⟨b',o',h1,fun i W h=> ?_⟩
   have hg:d.2.1[j]? =some (d.2.1.getD j []):=by rw[List.getD_eq_getElem?_getD,List.getElem?_eq_getElem hj];rfl
   obtain⟨cs,k1,k2,k3,k4⟩:=QC h2 hg
   rw[show cs=[.string ⟨(d.2.1.getD j []).toArray⟩] from k4] at k2
   have k5:=k2 0 _ rfl
   have k6:=k3 0 (by decide)
   rw[Nat.add_zero,show j*Ty.str.cells=j from Nat.mul_one j] at k5 k6
   rw[(hrd i W h).2 _ _ k6]
   exact k5
 have q0:=aKg d
 have qm:=fun j=>aKh d (j:=j)
 have ql:=aKi d
 have qn:=aKf d
 generalize hn:d.2.1.length=n at*
 refine(callsIn_wide (n:=0)).1 (callsIn_of_wp Tryz.func92 rfl trivial ?_)
 simp only[Tryz.ntmps92,List.size_toArray,List.length_cons,List.length_nil,Nat.reduceAdd,Nat.reduceSub,Array.replicate_succ,Array.replicate_zero,List.push_toArray,List.append_toArray,List.nil_append,List.cons_append]
 have c0:=r0 0 W h0
 obtain⟨fn,tmps,assign,body,hy,hQ⟩:=hY 0 _ W q0 h0
 dsimp only[MG] at hy
 gi_wp2
 refine⟨rfl,hQ.mono ?_⟩
 clear hQ hy
 rintro e W1 (⟨rfl,hJ1⟩ |⟨rfl,hJx⟩)
 ·have s1:=r1 _ W1 hJ1
  gi_wp2
  gi_loopw [13] (fun i wr=> ∃k:Nat,k≤n∧i= .int .i64 k∧J (k+1) wr) (fun i _=>n- (RowKit.intOf i).toNat)
  case atStart=>exact⟨0,Nat.zero_le _,rfl,hJ1⟩
  case round=>
   obtain⟨k,hk,rfl,hJs⟩:=hrel
   by_cases hlt:k<n
   ·obtain⟨b',o',rfl,hce⟩:=re k hlt
    have hc':=hce _ _ hJs
    have hq:=qm k hlt
    clear re qm ql q0 hce
    generalize d.2.1.getD k []=x at hc' hq
    obtain⟨fn,tmps,assign,body,hy,hQ⟩:=hY _ _ wr hq hJs
    dsimp only[MG] at hy
    gi_wp2
    refine⟨rfl,hQ.mono ?_⟩
    clear hQ hy
    rintro e W2 (⟨rfl,hJ2⟩ |⟨rfl,hJx⟩)
    ·gi_wp2
     go_roundw
     case rel=>exact⟨k+1,by omega,by simp,hJ2⟩
     case measure=>
      show n- (k+1)<n-k
      omega
    ·gi_wp2
     refine bodyPost_ret (results_none rfl _ _ _) rfl ?_
     exact⟨⟨_,rfl⟩,.inr hJx⟩
   ·obtain rfl:k=n:=by omega
    have s1:=r1 _ _ hJs
    have s2:=r2 _ _ hJs
    obtain⟨fn,tmps,assign,body,hy,hQ⟩:=hY _ _ wr ql hJs
    dsimp only[MG] at hy
    gi_wp2
    refine⟨rfl,hQ.mono ?_⟩
    clear hQ hy
    rintro e W2 (⟨rfl,hJ2⟩ |⟨rfl,hJx⟩)
    ·gi_wp2
     go_end0
     exact⟨⟨_,rfl⟩,.inl (by rw[qn];exact hJ2)⟩
    ·gi_wp2
     go_end0
     exact⟨⟨_,rfl⟩,.inr hJx⟩
 ·gi_wp2
  refine bodyPost_ret (results_none rfl _ _ _) rfl ?_
  exact⟨⟨_,rfl⟩,.inr hJx⟩
end
end Go.Proofs.YtbbpilohihldiaaGreatDoor
namespace Go.Proofs.YtbbpilohihldiaaGreatDoor
open Go.RowKit Go.Shelf Go.Lib
set_option maxRecDepth 100000 in
set_option maxHeartbeats 4000000 in
theorem aKk {w:World}(hc:w.cell? ⟨5,15,none⟩=some (.int .u8 4)):
  Calls Tryz.prog 299 #[.int .u64 16] w fun e w'=>e= .returned (.int .i64 4)∧w'=w:=by
 go_enter Tryz.func299,Tryz.ntmps299
 have k0:bits BinOp.and IntKind.u64 16 (IntKind.u64.wrap (-16))=16:=by decide+kernel
 have k1:IntKind.u64.wrap (16*285870213051353865) /288230376151711744=15:=by decide+kernel
 go_wp2
 go_ret
 exact⟨rfl,rfl⟩
set_option maxRecDepth 100000 in
theorem g7 {w:World}(hc:w.cell? ⟨5,15,none⟩=some (.int .u8 4)):
  Calls Tryz.prog 295 #[.int .u64 16] w fun e w'=>e= .returned (.int .i64 4)∧w'=w:=by
 go_enter Tryz.func295,Tryz.ntmps295
 go_wp2_with fail
 refine(aKk hc).mono ?_
 rintro e w' ⟨rfl,rfl⟩
 go_wp2
 go_ret
 exact⟨rfl,rfl⟩
set_option maxRecDepth 100000 in
theorem aAT {w:World}:
  Calls Tryz.prog 294 #[.int .i64 16] w fun e w'=>e= .returned (.bool true)∧w'=w:=by
 have k0:bits BinOp.and IntKind.i64 16 15=0:=by decide+kernel
 go_enter Tryz.func294,Tryz.ntmps294
 go_wp2
 go_ret
 exact⟨rfl,rfl⟩
theorem aAU {w:World}{a:Addr}{v:Value}(h:w.cell? a=some v):a.block<w.heap.size:=by
 unfold World.cell? at h
 split at h
 ·rename_i hb;exact(Array.getElem?_eq_some_iff.1 hb).1
 ·cases h
def H9 (n:Nat):UInt8:=if n<10 then(48+n).toUInt8 else(87+n).toUInt8
theorem aKl (w:World) (d:UInt8):(convert 42 9 (.slice (some ⟨w.heap.size,64,none⟩) 1 1)).run Tryz.prog (w.alloc (.cells (Tryz.zeroCells285.setIfInBounds 64 (.int .u8 (d.toNat:Int))) 285))= .ok (.string ⟨#[d]⟩) (w.alloc (.cells (Tryz.zeroCells285.setIfInBounds 64 (.int .u8 (d.toNat:Int))) 285)):=by
 refine run_convert_bytes_back _ _ _ 5 ⟨w.heap.size,64,none⟩ 1 [d] Tryz.underlying42 Tryz.underlying5 Tryz.underlying9 fun j hj=> ?_
 have:j=0:=by simpa using hj
 subst this
 simp [Addr.add,World.cell?_alloc_new]
theorem X8: ∀u:Fin 16,(⟨#[48,49,50,51,52,53,54,55,56,57,97,98,99,100,101,102,103,104,105,106,107,108,109,110,111,112,113,114,115,116,117,118,119,120,121,122]⟩:ByteArray).data[u.val]? =some (H9 u.val):=by decide+kernel
set_option maxRecDepth 100000 in
set_option maxHeartbeats 4000000 in
theorem aKm {w:World}(hc:w.cell? ⟨5,15,none⟩=some (.int .u8 4)) (u:Nat) (hu:u<16):
  Calls Tryz.prog 285 #[.slice none 0 0,.int .u64 u,.int .i64 16,.bool false,.bool false] w fun e w'=>e= .returned (.tuple #[.slice none 0 0,.string ⟨#[H9 u]⟩])∧Below w.heap.size w w':=by
 have hc2:(w.alloc (.cells Tryz.zeroCells285 285)).cell? ⟨5,15,none⟩=some (.int .u8 4):=by
  rw[World.cell?_of_block (a:=⟨5,15,none⟩) (Below.heap_alloc _ _ _ (aAU hc))]
  exact hc
 go_enter Tryz.func285,Tryz.ntmps285
 go_wp2_with fail
 refine aAT.mono ?_
 rintro e w' ⟨rfl,rfl⟩
 go_wp2_with fail
 refine(g7 hc2).mono ?_
 rintro e w' ⟨rfl,rfl⟩
 go_wp2_with fail
 go_rounds 1
 rw[aKl]
 simp only[Result.andThen]
 rw[Oper.upon_value]
 go_wp2
 go_ret2
 refine⟨?_,(Below.refl _ _).alloc (Nat.le_refl _) _⟩
 have h:=X8 ⟨u,hu⟩
 obtain⟨h1,h2⟩:=Array.getElem?_eq_some_iff.1 h
 rw[←h2]
 rfl
theorem aKn (w:World) (d e:UInt8):(convert 42 9 (.slice (some ⟨w.heap.size,63,none⟩) 2 2)).run Tryz.prog (w.alloc (.cells ((Tryz.zeroCells285.setIfInBounds 64 (.int .u8 (e.toNat:Int))).setIfInBounds 63 (.int .u8 (d.toNat:Int))) 285))= .ok (.string ⟨#[d,e]⟩) (w.alloc (.cells ((Tryz.zeroCells285.setIfInBounds 64 (.int .u8 (e.toNat:Int))).setIfInBounds 63 (.int .u8 (d.toNat:Int))) 285)):=by
 refine run_convert_bytes_back _ _ _ 5 ⟨w.heap.size,63,none⟩ 2 [d,e] Tryz.underlying42 Tryz.underlying5 Tryz.underlying9 fun j hj=> ?_
 match j,hj with
 |0,_=>simp [Addr.add,World.cell?_alloc_new]
 |1,_=>simp [Addr.add,World.cell?_alloc_new]
theorem aKo: ∀u:Fin 256,bits BinOp.and IntKind.u64 (u.val:Int) 15=((u.val%16:Nat):Int):=by decide+kernel
set_option maxRecDepth 100000 in
set_option maxHeartbeats 4000000 in
theorem aKp {w:World}(hc:w.cell? ⟨5,15,none⟩=some (.int .u8 4)) (u:Nat) (hu:16≤u) (hu2:u<256):
  Calls Tryz.prog 285 #[.slice none 0 0,.int .u64 u,.int .i64 16,.bool false,.bool false] w fun e w'=>e= .returned (.tuple #[.slice none 0 0,.string ⟨#[H9 (u/16),H9 (u%16)]⟩])∧Below w.heap.size w w':=by
 have hc2:(w.alloc (.cells Tryz.zeroCells285 285)).cell? ⟨5,15,none⟩=some (.int .u8 4):=by
  rw[World.cell?_of_block (a:=⟨5,15,none⟩) (Below.heap_alloc _ _ _ (aAU hc))]
  exact hc
 have h15:=aKo ⟨u,hu2⟩
 have hm:u%16<16:=Nat.mod_lt _ (by decide)
 have hq:u/16<16:=by omega
 have hq2:((u:Int)) /16=((u/16:Nat):Int):=rfl
 dsimp only at h15
 have H15:=Lib.hid h15
 clear h15
 obtain⟨m,hmm⟩: ∃m,u%16=m:=⟨_,rfl⟩
 obtain⟨q,hqq⟩: ∃q,u/16=q:=⟨_,rfl⟩
 rw[hmm] at hm
 rw[hqq] at hq hq2
 have h15:=H15.out
 rw[hmm] at h15
 have HM:=Lib.hid hmm
 have HQ:=Lib.hid hqq
 clear hmm hqq H15
 go_enter Tryz.func285,Tryz.ntmps285
 go_wp2_with fail
 refine aAT.mono ?_
 rintro e w' ⟨rfl,rfl⟩
 go_wp2_with fail
 refine(g7 hc2).mono ?_
 rintro e w' ⟨rfl,rfl⟩
 go_wp2_with fail
 go_rounds 2
 rw[aKn]
 simp only[Result.andThen]
 rw[Oper.upon_value]
 go_wp2
 go_ret2
 refine⟨?_,(Below.refl _ _).alloc (Nat.le_refl _) _⟩
 have h:=X8 ⟨m,hm⟩
 obtain⟨h1,h2⟩:=Array.getElem?_eq_some_iff.1 h
 have k:=X8 ⟨q,hq⟩
 obtain⟨k1,k2⟩:=Array.getElem?_eq_some_iff.1 k
 rw[HM.out,HQ.out,←h2,←k2]
 rfl
def uA (c _b:Int):List UInt8:=if c<16 then[H9 c.toNat] else[H9 (c.toNat/16),H9 (c.toNat%16)]
theorem fb {w:World}(hc:w.cell? ⟨5,15,none⟩=some (.int .u8 4)) (u:Nat) (hu2:u<256):
  Calls Tryz.prog 285 #[.slice none 0 0,.int .u64 u,.int .i64 16,.bool false,.bool false] w fun e w'=>e= .returned (.tuple #[.slice none 0 0,.string ⟨(uA u 16).toArray⟩])∧Below w.heap.size w w':=by
 unfold uA
 by_cases h:(u:Int)<16
 ·rw[if_pos h];exact aKm hc u (by omega)
 ·rw[if_neg h];exact aKp hc u (by omega) hu2
set_option maxRecDepth 100000 in
theorem aKq {w:World}(hc:w.cell? ⟨5,15,none⟩=some (.int .u8 4)) (u:Nat) (hu2:u<256):
  Calls Tryz.prog 272 #[.int .i64 u,.int .i64 16] w fun e w'=>e= .returned (.string ⟨(uA u 16).toArray⟩)∧Below w.heap.size w w':=by
 obtain⟨s,hs⟩: ∃s,uA u 16=s:=⟨_,rfl⟩
 have hfb:=fb hc u hu2
 rw[hs] at hfb⊢
 clear hs
 have hk:IntKind.u64.wrap (u:Int)=u:=by rw[IntKind.wrap_u64];omega
 have hn: ¬(u:Int)<0:=by omega
 go_enter Tryz.func272,Tryz.ntmps272
 go_wp2_with fail
 refine hfb.mono ?_
 rintro e w' ⟨rfl,hb⟩
 go_wp2
 go_ret
 exact⟨rfl,hb⟩
set_option maxRecDepth 100000 in
theorem aAV {w:World}(hc:w.cell? ⟨5,15,none⟩=some (.int .u8 4)) (u:Nat) (hu2:u<256):
  Calls Tryz.prog 245 #[.int .i64 u,.int .i64 16] w fun e w'=>e= .returned (.string ⟨(uA u 16).toArray⟩)∧Below w.heap.size w w':=by
 obtain⟨s,hs⟩: ∃s,uA u 16=s:=⟨_,rfl⟩
 have hfb:=aKq hc u hu2
 rw[hs] at hfb⊢
 clear hs
 go_enter Tryz.func245,Tryz.ntmps245
 go_wp2_with fail
 refine hfb.mono ?_
 rintro e w' ⟨rfl,hb⟩
 go_wp2
 go_ret
 exact⟨rfl,hb⟩
#print axioms aAV
end Go.Proofs.YtbbpilohihldiaaGreatDoor
namespace Go.Proofs
open Go.RowKit Go.Lib
def Tryz.lays105_ren:Go.Shelf.Ren:=⟨fun|105=>246|212=>273|99=>136|165=>274|166=>53|170=>275|169=>54|263=>286|264=>287|206=>183|240=>93|241=>288|276=>133|277=>296|n=>n,fun|9=>9|3=>3|4=>4|20=>20|0=>0|46=>219|109=>266|5=>5|72=>84|76=>87|51=>241|146=>270|53=>243|148=>280|70=>82|37=>42|75=>86|127=>125|164=>168|80=>89|n=>n,fun|n=>n⟩
theorem Tryz.lays105:Go.Proofs.Lays.n105 Tryz.prog Tryz.lays105_ren:={
 mixed:=by kernel_rfl
 f99:=Tryz.func136.trans (congrArg some (by kernel_rfl))
 f105:=Tryz.func246.trans (congrArg some (by kernel_rfl))
 f165:=Tryz.func274.trans (congrArg some (by kernel_rfl))
 f166:=Tryz.func53.trans (congrArg some (by kernel_rfl))
 f169:=Tryz.func54.trans (congrArg some (by kernel_rfl))
 f170:=Tryz.func275.trans (congrArg some (by kernel_rfl))
 f206:=Tryz.func183.trans (congrArg some (by kernel_rfl))
 f212:=Tryz.func273.trans (congrArg some (by kernel_rfl))
 f240:=Tryz.func93.trans (congrArg some (by kernel_rfl))
 f241:=Tryz.func288.trans (congrArg some (by kernel_rfl))
 f263:=Tryz.func286.trans (congrArg some (by kernel_rfl))
 f264:=Tryz.func287.trans (congrArg some (by kernel_rfl))
 f276:=Tryz.func133.trans (congrArg some (by kernel_rfl))
 f277:=Tryz.func296.trans (congrArg some (by kernel_rfl))
 t0:=Tryz.underlying0
 a0:=Tryz.isAgg0
 z0:=Tryz.sizeOf0
 v0:=Tryz.zeroValue0
 t3:=Tryz.underlying3
 a3:=Tryz.isAgg3
 z3:=Tryz.sizeOf3
 v3:=Tryz.zeroValue3
 t4:=Tryz.underlying4
 a4:=Tryz.isAgg4
 z4:=Tryz.sizeOf4
 v4:=Tryz.zeroValue4
 t5:=Tryz.underlying5
 a5:=Tryz.isAgg5
 z5:=Tryz.sizeOf5
 v5:=Tryz.zeroValue5
 t9:=Tryz.underlying9
 a9:=Tryz.isAgg9
 z9:=Tryz.sizeOf9
 v9:=Tryz.zeroValue9
 t20:=Tryz.underlying20
 a20:=Tryz.isAgg20
 z20:=Tryz.sizeOf20
 v20:=Tryz.zeroValue20
 t37:=Tryz.underlying42
 a37:=Tryz.isAgg42
 z37:=Tryz.sizeOf42
 v37:=Tryz.zeroValue42
 t46:=Tryz.underlying219
 a46:=Tryz.isAgg219
 z46:=Tryz.sizeOf219
 v46:=Tryz.zeroValue219
 t51:=Tryz.underlying241
 a51:=Tryz.isAgg241
 z51:=Tryz.sizeOf241
 v51:=Tryz.zeroValue241
 t53:=Tryz.underlying243
 a53:=Tryz.isAgg243
 z53:=Tryz.sizeOf243
 v53:=Tryz.zeroValue243
 t70:=Tryz.underlying82
 a70:=Tryz.isAgg82
 z70:=Tryz.sizeOf82
 v70:=Tryz.zeroValue82
 t72:=Tryz.underlying84
 a72:=Tryz.isAgg84
 z72:=Tryz.sizeOf84
 v72:=Tryz.zeroValue84
 t75:=Tryz.underlying86
 a75:=Tryz.isAgg86
 z75:=Tryz.sizeOf86
 v75:=Tryz.zeroValue86
 t76:=Tryz.underlying87
 a76:=Tryz.isAgg87
 z76:=Tryz.sizeOf87
 v76:=Tryz.zeroValue87
 t109:=Tryz.underlying266
 a109:=Tryz.isAgg266
 z109:=Tryz.sizeOf266
 v109:=Tryz.zeroValue266
 t127:=Tryz.underlying125
 a127:=Tryz.isAgg125
 z127:=Tryz.sizeOf125
 v127:=Tryz.zeroValue125
 t146:=Tryz.underlying270
 a146:=Tryz.isAgg270
 z146:=Tryz.sizeOf270
 v146:=Tryz.zeroValue270
 t148:=Tryz.underlying280
 a148:=Tryz.isAgg280
 z148:=Tryz.sizeOf280
 v148:=Tryz.zeroValue280
 t164:=Tryz.underlying168
 a164:=Tryz.isAgg168
 z164:=Tryz.sizeOf168
 v164:=Tryz.zeroValue168}
theorem Tryz.Builder_Extra_105:Builder.Extra Tryz.prog Tryz.lays105_ren:={
 sizeBuilder:=by kernel_rfl
 liesBuilder:=by kernel_rfl
 t5:=Tryz.underlying5
 a5:=Tryz.isAgg5
 z5:=Tryz.sizeOf5
 v5:=Tryz.zeroValue5
 infoByte:=by kernel_rfl
 cellsByte:=by kernel_rfl
 sizeByte:=by kernel_rfl
 neB5:=by decide}
end Go.Proofs
namespace Go.Proofs.YtbbpilohihldiaaGreatDoor
open Vc Go.RowKit
def X9 (n:Int):Prop:=n=16
instance (n:Int):Decidable (X9 n):=inferInstanceAs (Decidable (n=16))
@[go_sem] def XA:List Slot→List Blk→Option Ret
 |[(.val (.int .i64) O,none),(.val (.int .i64) Z,none)],[]=>some ⟨[0≤O∧O<256∧X9 Z],[(.val .str (uA O Z),none)],[]⟩
 |_,_=>none
set_option maxRecDepth 100000 in
theorem aKr:wF Tryz.prog 245 XA:=by
 refine H8 (fun _ _=>rfl) fun g w args vals L r hT ha hC hs=> ?_
 unfold XA at hC
 split at hC
 ·rename_i c d
  cases hC
  obtain⟨h1,h2,h3⟩:=hs _ List.mem_cons_self
  obtain⟨va,_,rfl,ra,vb,_,rfl,rb,hv⟩:=ha
  obtain rfl:=tH ra.1
  obtain rfl:=tH rb.1
  cases hv
  obtain⟨u,rfl⟩: ∃u:Nat,c=((u:Nat):Int):=⟨Int.toNat c,(Int.toNat_of_nonneg h1).symm⟩
  have h2:(u:Int)<256:=h2
  obtain rfl:d=(16:Int):=h3
  have hcell:w.cell? ⟨5,15,none⟩=some (.int .u8 4):=(hT.2.2.2 _ List.mem_cons_self).2
  exact⟨rfl,rfl,(aAV hcell u (by omega)).mono fun e w' ⟨he,hb⟩=>⟨_,he,hb,D6 _ _ _,trivial⟩⟩
 ·cases hC
def HA (s:List UInt8) (c:Int):List UInt8:=Lib.repeatL s c.toNat
@[go_sem] def XB:List Slot→List Blk→Option Ret
 |[(.val .str O,none),(.val (.int .i64) Z,none)],[]=>some ⟨[0≤Z∧Z≤140737488355328∧(List.length O:Int)*Z≤140737488355328],[(.val .str (HA O Z),none)],[]⟩
 |_,_=>none
set_option maxRecDepth 100000 in
theorem aKs:wF Tryz.prog 246 XB:=by
 refine H8 (fun _ _=>rfl) fun g w args vals L r hT ha hC hs=> ?_
 unfold XB at hC
 split at hC
 ·rename_i s c
  cases hC
  obtain⟨h1,h2,h3⟩:=hs _ List.mem_cons_self
  obtain⟨va,_,rfl,ra,vb,_,rfl,rb,hv⟩:=ha
  obtain rfl:=vQ ra.1
  obtain rfl:=tH rb.1
  cases hv
  obtain⟨u,rfl⟩: ∃u:Nat,c=((u:Nat):Int):=⟨Int.toNat c,(Int.toNat_of_nonneg h1).symm⟩
  have h2:(u:Int)≤140737488355328:=h2
  have h3:((List.length s:Nat):Int)*(u:Int)≤140737488355328:=h3
  have h4:List.length s*u≤140737488355328:=by rw[←Int.natCast_mul] at h3;exact Int.ofNat_le.1 h3
  have h:=Any.strings_Repeat Tryz.lays105 Tryz.Builder_Extra_105 ⟨List.toArray s⟩ u w (by omega) (by show (List.toArray s).size*u≤_;rw[List.size_toArray];exact h4)
  exact⟨rfl,rfl,h.mono fun e w' ⟨he,hb⟩=>⟨_,he,hb,D6 _ _ _,trivial⟩⟩
 ·cases hC
def MH (_c:Int):List UInt8:=[]
@[go_sem] def XC:List Slot→List Blk→Option Ret
 |[(.val (.int .u8) O,none)],[]=>some ⟨[False],[(.val .str (MH O),none)],[]⟩
 |_,_=>none
set_option maxRecDepth 100000 in
theorem aKt:wF Tryz.prog 165 XC:=by
 refine H8 (fun _ _=>rfl) fun g w args vals L r hT ha hC hs=> ?_
 unfold XC at hC
 split at hC
 ·cases hC
  exact(hs _ List.mem_cons_self).elim
 ·cases hC
@[go_sem] def XD:List Slot→List Blk→Option Ret
 |[(.val (.int .u8) O,none)],[]=>some ⟨[False],[(.val .str (MH O),none)],[]⟩
 |_,_=>none
set_option maxRecDepth 100000 in
theorem aKu:wF Tryz.prog 202 XD:=by
 refine H8 (fun _ _=>rfl) fun g w args vals L r hT ha hC hs=> ?_
 unfold XD at hC
 split at hC
 ·cases hC
  exact(hs _ List.mem_cons_self).elim
 ·cases hC
end Go.Proofs.YtbbpilohihldiaaGreatDoor
namespace Go.Proofs.YtbbpilohihldiaaGreatDoor
open Vc
set_option maxRecDepth 100000
set_option maxHeartbeats 4000000
set_option linter.unusedSimpArgs false
set_option linter.unusedVariables false
noncomputable section
@[reducible,go_sem] def qQ:Ty:=(.pair .str (.pair .str (.pair .str (.pair (.list .str) (.pair (.list .str) (.pair (.int .i64) (.pair (.list (.pair .str (.pair .str .unit))) .unit)))))))
@[reducible,go_sem] def uW:Ty:=(.pair .str (.pair (.list .str) (.pair (.list (.pair .str (.pair .str .unit))) (.pair (.list qQ) .unit))))
@[reducible,go_sem] def uB:Ty:=(.pair .str (.pair (.list .str) (.pair .str .unit)))
@[reducible,go_sem] def uX:Ty:=(.pair .mref (.pair (.list (.int .u8)) .unit))
@[reducible,go_sem] def AZ:Ty:=(.pair .str (.pair (.int .i64) .unit))
@[reducible,go_sem] def JI:Ty:=(.pair (.int .i64) (.pair .str (.pair (.int .i64) (.pair (.int .i64) .unit))))
@[reducible,go_sem] def qI:Ty:=(.pair AZ (.pair JI (.pair (.int .i64) (.pair (.int .i64) (.pair uW (.pair .mp (.pair (.list (.int .i64)) (.pair (.int .i64) .unit))))))))
@[reducible,go_sem] def i0:Ty:=(.pair .str (.pair .str (.pair .str (.pair (.list .str) (.pair (.rl 9 .str) (.pair (.int .i64) (.pair (.list (.pair .str (.pair .str .unit))) .unit)))))))
@[reducible,go_sem] def rS:Ty:=(.pair i0 (.pair .bool (.pair .mp .unit)))
@[reducible,go_sem] def MI:Ty:=(.pair (.int .i64) (.pair .str .unit))
@[reducible,go_sem] def aAX:Ty:=(.pair qQ (.pair .bool (.pair .mp .unit)))
@[reducible] def pO:Type:=((List UInt8)×((List UInt8)×Unit))
@[reducible] def qR:Type:=((List UInt8)×((List UInt8)×((List UInt8)×((List (List UInt8))×((List (List UInt8))×(Int×((List pO)×Unit)))))))
@[reducible] def s9:Type:=((List UInt8)×((List (List UInt8))×((List UInt8)×Unit)))
@[reducible] def qM:Type:=(Int×((List UInt8)×(Int×(Int×Unit))))
@[reducible] def q9:Type:=((List UInt8)×((List (List UInt8))×((List pO)×((List qR)×Unit))))
@[reducible,go_sem] def qE:Nat×TI:=(9,⟨.str,0,0,false,[]⟩)
theorem qG:rI Tryz.prog qE.1 qE.2:=⟨by kernel_rfl,(show Tryz.prog.underlying _=_ from by kernel_rfl)⟩
@[reducible,go_sem] def sK:Nat×TI:=(23,⟨(.list .str),9,16,false,[]⟩)
theorem sU:rI Tryz.prog sK.1 sK.2:=⟨by kernel_rfl,(show _∧_∧_ from⟨by kernel_rfl,by kernel_rfl,by kernel_rfl⟩)⟩
@[reducible,go_sem] def EZ:Nat×TI:=(34,⟨uB,0,0,false,[(1,9,1)]⟩)
theorem JJ:rI Tryz.prog EZ.1 EZ.2:=⟨by kernel_rfl,(show ((_∧∃_,_∧_)∨_)∧_ from⟨.inl ⟨rfl,_,Tryz.underlying34,(show _∧_∧_∧_ from⟨rfl,by kernel_rfl,by kernel_rfl,(show _∧_∧_∧_ from⟨rfl,by kernel_rfl,by kernel_rfl,(show _∧_∧_∧_ from⟨rfl,by kernel_rfl,by kernel_rfl,trivial⟩)⟩)⟩)⟩,(fun h=>absurd h (by decide))⟩)⟩
@[reducible,go_sem] def C2:Nat×TI:=(37,⟨uB,0,0,false,[(1,9,1)]⟩)
theorem F0:rI Tryz.prog C2.1 C2.2:=⟨by kernel_rfl,(show ((_∧∃_,_∧_)∨_)∧_ from⟨.inl ⟨rfl,_,Tryz.underlying37,(show _∧_∧_∧_ from⟨rfl,by kernel_rfl,by kernel_rfl,(show _∧_∧_∧_ from⟨rfl,by kernel_rfl,by kernel_rfl,(show _∧_∧_∧_ from⟨rfl,by kernel_rfl,by kernel_rfl,trivial⟩)⟩)⟩)⟩,(fun h=>absurd h (by decide))⟩)⟩
@[reducible,go_sem] def C3:Nat×TI:=(25,⟨(.list qQ),55,128,false,[]⟩)
theorem F1:rI Tryz.prog C3.1 C3.2:=⟨by kernel_rfl,(show _∧_∧_ from⟨by kernel_rfl,by kernel_rfl,by kernel_rfl⟩)⟩
@[reducible,go_sem] def xC:Nat×TI:=(27,⟨uW,0,0,false,[(1,9,1),(2,149,2),(3,55,7)]⟩)
theorem yR:rI Tryz.prog xC.1 xC.2:=⟨by kernel_rfl,(show ((_∧∃_,_∧_)∨_)∧_ from⟨.inl ⟨rfl,_,Tryz.underlying27,(show _∧_∧_∧_ from⟨rfl,by kernel_rfl,by kernel_rfl,(show _∧_∧_∧_ from⟨rfl,by kernel_rfl,by kernel_rfl,(show _∧_∧_∧_ from⟨rfl,by kernel_rfl,by kernel_rfl,(show _∧_∧_∧_ from⟨rfl,by kernel_rfl,by kernel_rfl,trivial⟩)⟩)⟩)⟩)⟩,(fun h=>absurd h (by decide))⟩)⟩
@[reducible,go_sem] def wI:Nat×TI:=(55,⟨qQ,0,0,false,[(3,9,1),(4,9,1),(6,149,2)]⟩)
theorem y4:rI Tryz.prog wI.1 wI.2:=⟨by kernel_rfl,(show ((_∧∃_,_∧_)∨_)∧_ from⟨.inl ⟨rfl,_,Tryz.underlying55,(show _∧_∧_∧_ from⟨rfl,by kernel_rfl,by kernel_rfl,(show _∧_∧_∧_ from⟨rfl,by kernel_rfl,by kernel_rfl,(show _∧_∧_∧_ from⟨rfl,by kernel_rfl,by kernel_rfl,(show _∧_∧_∧_ from⟨rfl,by kernel_rfl,by kernel_rfl,(show _∧_∧_∧_ from⟨rfl,by kernel_rfl,by kernel_rfl,(show _∧_∧_∧_ from⟨rfl,by kernel_rfl,by kernel_rfl,(show _∧_∧_∧_ from⟨rfl,by kernel_rfl,by kernel_rfl,trivial⟩)⟩)⟩)⟩)⟩)⟩)⟩)⟩,(fun h=>absurd h (by decide))⟩)⟩
@[reducible,go_sem] def zN:Nat×TI:=(42,⟨(.list (.int .u8)),5,1,false,[]⟩)
theorem B0:rI Tryz.prog zN.1 zN.2:=⟨by kernel_rfl,(show _∧_∧_ from⟨by kernel_rfl,by kernel_rfl,by kernel_rfl⟩)⟩
@[reducible,go_sem] def DD:Nat×TI:=(84,⟨uX,0,0,false,[(1,5,1)]⟩)
theorem HB:rI Tryz.prog DD.1 DD.2:=⟨by kernel_rfl,(show ((_∧∃_,_∧_)∨_)∧_ from⟨.inl ⟨rfl,_,Tryz.underlying84,(show _∧_∧_∧_ from⟨rfl,by kernel_rfl,by kernel_rfl,(show _∧_∧_∧_ from⟨rfl,by kernel_rfl,by kernel_rfl,trivial⟩)⟩)⟩,(fun h=>absurd h (by decide))⟩)⟩
@[reducible,go_sem] def uC:Nat×TI:=(24,⟨(.list (.pair .str (.pair .str .unit))),149,32,false,[]⟩)
theorem uY:rI Tryz.prog uC.1 uC.2:=⟨by kernel_rfl,(show _∧_∧_ from⟨by kernel_rfl,by kernel_rfl,by kernel_rfl⟩)⟩
@[reducible,go_sem] def zO:Nat×TI:=(149,⟨(.pair .str (.pair .str .unit)),0,1,false,[]⟩)
theorem B1:rI Tryz.prog zO.1 zO.2:=⟨by kernel_rfl,(show ((_∧∃_,_∧_)∨_)∧_ from⟨.inl ⟨rfl,_,Tryz.underlying149,(show _∧_∧_∧_ from⟨rfl,by kernel_rfl,by kernel_rfl,(show _∧_∧_∧_ from⟨rfl,by kernel_rfl,by kernel_rfl,trivial⟩)⟩)⟩,(fun _=>⟨by kernel_rfl,1,by decide,(.struct rfl Tryz.underlying149 (by kernel_rfl) (.cons (by decide) rfl (by kernel_rfl) (by kernel_rfl) (.str Tryz.underlying9) (.cons (by decide) rfl (by kernel_rfl) (by kernel_rfl) (.str Tryz.underlying9) .nil)))⟩)⟩)⟩
@[reducible,go_sem] def sZ:Nat×TI:=(3,⟨(.int .i64),0,0,false,[]⟩)
theorem tJ:rI Tryz.prog sZ.1 sZ.2:=⟨by kernel_rfl,(show Tryz.prog.underlying _=_ from by kernel_rfl)⟩
@[reducible,go_sem] def C5:Nat×TI:=(4,⟨.bool,0,0,false,[]⟩)
theorem F2:rI Tryz.prog C5.1 C5.2:=⟨by kernel_rfl,(show Tryz.prog.underlying _=_ from by kernel_rfl)⟩
@[reducible,go_sem] def F3:Nat×TI:=(66,⟨.mp,9,4,false,[]⟩)
theorem JK:rI Tryz.prog F3.1 F3.2:=⟨by kernel_rfl,(show Tryz.prog.underlying _=_ from by kernel_rfl)⟩
@[reducible,go_sem] def yS:Nat×TI:=(5,⟨(.int .u8),0,0,false,[]⟩)
theorem A7:rI Tryz.prog yS.1 yS.2:=⟨by kernel_rfl,(show Tryz.prog.underlying _=_ from by kernel_rfl)⟩
@[reducible,go_sem] def JL:Nat×TI:=(21,⟨(.int .i32),0,0,false,[]⟩)
theorem RD:rI Tryz.prog JL.1 JL.2:=⟨by kernel_rfl,(show Tryz.prog.underlying _=_ from by kernel_rfl)⟩
@[reducible,go_sem] def RE:Nat×TI:=(60,⟨.ref,0,0,false,[]⟩)
theorem aAY:rI Tryz.prog RE.1 RE.2:=⟨by kernel_rfl,(show∃_,_ from⟨_,Tryz.underlying60⟩)⟩
@[reducible,go_sem] def vR:Nat×TI:=(69,⟨qI,0,0,false,[(9,9,1),(10,149,2),(11,55,7),(13,3,1)]⟩)
theorem xD:rI Tryz.prog vR.1 vR.2:=⟨by kernel_rfl,(show ((_∧∃_,_∧_)∨_)∧_ from⟨.inl ⟨rfl,_,Tryz.underlying69,(show _∧_∧_∧_ from⟨rfl,by kernel_rfl,by kernel_rfl,(show _∧_∧_∧_ from⟨rfl,by kernel_rfl,by kernel_rfl,(show _∧_∧_∧_ from⟨rfl,by kernel_rfl,by kernel_rfl,(show _∧_∧_∧_ from⟨rfl,by kernel_rfl,by kernel_rfl,(show _∧_∧_∧_ from⟨rfl,by kernel_rfl,by kernel_rfl,(show _∧_∧_∧_ from⟨rfl,by kernel_rfl,by kernel_rfl,(show _∧_∧_∧_ from⟨rfl,by kernel_rfl,by kernel_rfl,(show _∧_∧_∧_ from⟨rfl,by kernel_rfl,by kernel_rfl,trivial⟩)⟩)⟩)⟩)⟩)⟩)⟩)⟩)⟩,(fun h=>absurd h (by decide))⟩)⟩
@[reducible,go_sem] def F4:Nat×TI:=(28,⟨(.int .i64),0,0,false,[]⟩)
theorem JM:rI Tryz.prog F4.1 F4.2:=⟨by kernel_rfl,(show Tryz.prog.underlying _=_ from by kernel_rfl)⟩
@[reducible,go_sem] def RF:Nat×TI:=(24,⟨(.list (.pair .str (.pair .str .unit))),149,32,true,[]⟩)
theorem aAZ:rI Tryz.prog RF.1 RF.2:=⟨by kernel_rfl,(show _∧_∧_ from⟨by kernel_rfl,by kernel_rfl,by kernel_rfl⟩)⟩
@[reducible,go_sem] def xE:Nat×TI:=(65,⟨JI,0,1,false,[]⟩)
theorem yT:rI Tryz.prog xE.1 xE.2:=⟨by kernel_rfl,(show ((_∧∃_,_∧_)∨_)∧_ from⟨.inl ⟨rfl,_,Tryz.underlying65,(show _∧_∧_∧_ from⟨rfl,by kernel_rfl,by kernel_rfl,(show _∧_∧_∧_ from⟨rfl,by kernel_rfl,by kernel_rfl,(show _∧_∧_∧_ from⟨rfl,by kernel_rfl,by kernel_rfl,(show _∧_∧_∧_ from⟨rfl,by kernel_rfl,by kernel_rfl,trivial⟩)⟩)⟩)⟩)⟩,(fun _=>⟨by kernel_rfl,1,by decide,(.struct rfl Tryz.underlying65 (by kernel_rfl) (.cons (by decide) rfl (by kernel_rfl) (by kernel_rfl) (.int Tryz.underlying3) (.cons (by decide) rfl (by kernel_rfl) (by kernel_rfl) (.str Tryz.underlying9) (.cons (by decide) rfl (by kernel_rfl) (by kernel_rfl) (.int Tryz.underlying3) (.cons (by decide) rfl (by kernel_rfl) (by kernel_rfl) (.int Tryz.underlying3) .nil)))))⟩)⟩)⟩
@[reducible,go_sem] def zP:Nat×TI:=(204,⟨rS,0,0,false,[(3,9,1),(6,149,2)]⟩)
theorem B2:rI Tryz.prog zP.1 zP.2:=⟨by kernel_rfl,(show ((_∧∃_,_∧_)∨_)∧_ from⟨.inl ⟨rfl,_,Tryz.underlying204,(show _∧_∧_∧_ from⟨rfl,by kernel_rfl,by kernel_rfl,(show _∧_∧_∧_ from⟨rfl,by kernel_rfl,by kernel_rfl,(show _∧_∧_∧_ from⟨rfl,by kernel_rfl,by kernel_rfl,trivial⟩)⟩)⟩)⟩,(fun h=>absurd h (by decide))⟩)⟩
@[reducible,go_sem] def RG:Nat×TI:=(205,⟨.fn,0,0,false,[]⟩)
theorem aA0:rI Tryz.prog RG.1 RG.2:=⟨by kernel_rfl,(show∃_ _ _,_ from⟨_,_,_,Tryz.underlying205⟩)⟩
@[reducible,go_sem] def RH:Nat×TI:=(207,⟨.mp,9,205,false,[]⟩)
theorem aA1:rI Tryz.prog RH.1 RH.2:=⟨by kernel_rfl,(show Tryz.prog.underlying _=_ from by kernel_rfl)⟩
@[reducible,go_sem] def XE:Nat×TI:=(2,⟨(.int .i64),0,0,false,[]⟩)
theorem aKv:rI Tryz.prog XE.1 XE.2:=⟨by kernel_rfl,(show Tryz.prog.underlying _=_ from by kernel_rfl)⟩
@[reducible,go_sem] def RI:Nat×TI:=(241,⟨(.int .u32),0,0,false,[]⟩)
theorem aA2:rI Tryz.prog RI.1 RI.2:=⟨by kernel_rfl,(show Tryz.prog.underlying _=_ from by kernel_rfl)⟩
@[reducible,go_sem] def HC:Nat×TI:=(67,⟨(.list (.int .i64)),3,8,false,[]⟩)
theorem MJ:rI Tryz.prog HC.1 HC.2:=⟨by kernel_rfl,(show _∧_∧_ from⟨by kernel_rfl,by kernel_rfl,by kernel_rfl⟩)⟩
@[reducible,go_sem] def RJ:Nat×TI:=(74,⟨(.list MI),122,24,false,[]⟩)
theorem aA3:rI Tryz.prog RJ.1 RJ.2:=⟨by kernel_rfl,(show _∧_∧_ from⟨by kernel_rfl,by kernel_rfl,by kernel_rfl⟩)⟩
@[reducible,go_sem] def XF:Nat×TI:=(122,⟨MI,0,1,false,[]⟩)
theorem aKw:rI Tryz.prog XF.1 XF.2:=⟨by kernel_rfl,(show ((_∧∃_,_∧_)∨_)∧_ from⟨.inl ⟨rfl,_,Tryz.underlying122,(show _∧_∧_∧_ from⟨rfl,by kernel_rfl,by kernel_rfl,(show _∧_∧_∧_ from⟨rfl,by kernel_rfl,by kernel_rfl,trivial⟩)⟩)⟩,(fun _=>⟨by kernel_rfl,1,by decide,(.struct rfl Tryz.underlying122 (by kernel_rfl) (.cons (by decide) rfl (by kernel_rfl) (by kernel_rfl) (.int Tryz.underlying3) (.cons (by decide) rfl (by kernel_rfl) (by kernel_rfl) (.str Tryz.underlying9) .nil)))⟩)⟩)⟩
@[reducible,go_sem] def B3:Nat×TI:=(55,⟨i0,0,0,false,[(3,9,1),(6,149,2)]⟩)
theorem DE:rI Tryz.prog B3.1 B3.2:=⟨by kernel_rfl,(show ((_∧∃_,_∧_)∨_)∧_ from⟨.inl ⟨rfl,_,Tryz.underlying55,(show _∧_∧_∧_ from⟨rfl,by kernel_rfl,by kernel_rfl,(show _∧_∧_∧_ from⟨rfl,by kernel_rfl,by kernel_rfl,(show _∧_∧_∧_ from⟨rfl,by kernel_rfl,by kernel_rfl,(show _∧_∧_∧_ from⟨rfl,by kernel_rfl,by kernel_rfl,(show _∧_∧_∧_ from⟨rfl,by kernel_rfl,by kernel_rfl,(show _∧_∧_∧_ from⟨rfl,by kernel_rfl,by kernel_rfl,(show _∧_∧_∧_ from⟨rfl,by kernel_rfl,by kernel_rfl,trivial⟩)⟩)⟩)⟩)⟩)⟩)⟩)⟩,(fun h=>absurd h (by decide))⟩)⟩
@[reducible,go_sem] def JN:Nat×TI:=(202,⟨.ref,0,0,false,[]⟩)
theorem RK:rI Tryz.prog JN.1 JN.2:=⟨by kernel_rfl,(show∃_,_ from⟨_,Tryz.underlying202⟩)⟩
@[reducible,go_sem] def MK:Nat×TI:=(63,⟨AZ,0,1,false,[]⟩)
theorem XG:rI Tryz.prog MK.1 MK.2:=⟨by kernel_rfl,(show ((_∧∃_,_∧_)∨_)∧_ from⟨.inl ⟨rfl,_,Tryz.underlying63,(show _∧_∧_∧_ from⟨rfl,by kernel_rfl,by kernel_rfl,(show _∧_∧_∧_ from⟨rfl,by kernel_rfl,by kernel_rfl,trivial⟩)⟩)⟩,(fun _=>⟨by kernel_rfl,1,by decide,(.struct rfl Tryz.underlying63 (by kernel_rfl) (.cons (by decide) rfl (by kernel_rfl) (by kernel_rfl) (.str Tryz.underlying9) (.cons (by decide) rfl (by kernel_rfl) (by kernel_rfl) (.int Tryz.underlying3) .nil)))⟩)⟩)⟩
@[reducible,go_sem] def XH:Nat×TI:=(204,⟨aAX,0,0,false,[(3,9,1),(4,9,1),(6,149,2)]⟩)
theorem aKx:rI Tryz.prog XH.1 XH.2:=⟨by kernel_rfl,(show ((_∧∃_,_∧_)∨_)∧_ from⟨.inl ⟨rfl,_,Tryz.underlying204,(show _∧_∧_∧_ from⟨rfl,by kernel_rfl,by kernel_rfl,(show _∧_∧_∧_ from⟨rfl,by kernel_rfl,by kernel_rfl,(show _∧_∧_∧_ from⟨rfl,by kernel_rfl,by kernel_rfl,trivial⟩)⟩)⟩)⟩,(fun h=>absurd h (by decide))⟩)⟩
theorem pN:Tryz.prog.follows .mixedOrders=true:=by kernel_rfl
@[reducible,go_sem] def JO:Nat×Sig:=(135,⟨[.v,.v],WZ,[],[],none⟩)
theorem ML:pM Tryz.prog JO:=⟨aJI,fun _ h=>by cases h⟩
@[reducible,go_sem] def aA4:Nat×Sig:=(243,⟨[.v],X0,[],[],none⟩)
theorem aKy:pM Tryz.prog aA4:=⟨aJJ,fun _ h=>by cases h⟩
@[reducible,go_sem] def aA5:Nat×Sig:=(173,⟨[.v,.v],X1,[],[],none⟩)
theorem aKz:pM Tryz.prog aA5:=⟨aJM,fun _ h=>by cases h⟩
@[reducible,go_sem] def RL:Nat×Sig:=(93,⟨[.p uX [1]],X2,[],[],none⟩)
theorem XI:pM Tryz.prog RL:=⟨aJP,fun _ h=>by cases h⟩
@[reducible,go_sem] def MM:Nat×Sig:=(54,⟨[.p uX [1]],X4,[],[],none⟩)
theorem RM:pM Tryz.prog MM:=⟨aJX,fun _ h=>by cases h⟩
@[reducible,go_sem] def aA6:Nat×Sig:=(240,⟨[.r,.v,.v],X6,[],[],none⟩)
theorem aKA:pM Tryz.prog aA6:=⟨aJ6,fun _ h=>by cases h⟩
@[reducible,go_sem] def aA7:Nat×Sig:=(245,⟨[.v,.v],XA,[],[],none⟩)
theorem aKB:pM Tryz.prog aA7:=⟨aKr,fun _ h=>by cases h⟩
@[reducible,go_sem] def aA8:Nat×Sig:=(246,⟨[.v,.v],XB,[],[],none⟩)
theorem aKC:pM Tryz.prog aA8:=⟨aKs,fun _ h=>by cases h⟩
@[reducible,go_sem] def aA9:Nat×Sig:=(165,⟨[.v],XC,[],[],none⟩)
theorem aKD:pM Tryz.prog aA9:=⟨aKt,fun _ h=>by cases h⟩
@[reducible,go_sem] def aBa:Nat×Sig:=(202,⟨[.v],XD,[],[],none⟩)
theorem aKE:pM Tryz.prog aBa:=⟨aKu,fun _ h=>by cases h⟩
@[reducible,go_sem] def XJ:Nat×Sig:=(147,⟨[.v],g6,[],[],some aAD⟩)
theorem aKF:pM Tryz.prog XJ:=aJL
end
end Go.Proofs.YtbbpilohihldiaaGreatDoor
namespace Go.Proofs.YtbbpilohihldiaaGreatDoor
open Vc
theorem vJ {σ ρ:Type}(f:σ→Option (σ⊕ρ)) (x:σ):pQ f x=(f x).bind fun w=>match w with
  | .inl y=>pQ f y
  | .inr r=>some r:=by
 cases h:f x with
 |none=>
  cases h2:pQ f x with
  |none=>rfl
  |some r=>
   obtain⟨n,hn⟩:=R9 h2
   cases n with
   |zero=>cases hn
   |succ n=>unfold iter at hn;rw[h] at hn;cases hn
 |some w=>
  cases w with
  |inl y=>exact DC h
  |inr r=>exact tP h
theorem vS {t:Ty}{l:List t.den}{i:Nat}(h:i<l.length):pI t l (i:Int)=l[i]:=by
 unfold pI
 rw[Int.toNat_natCast,List.getD_eq_getElem?_getD,List.getElem?_eq_getElem h];rfl
theorem vT {l:List UInt8}{i:Nat}(h:i<l.length):pF l (i:Int)=(l[i].toNat:Int):=by
 unfold pF
 rw[Int.toNat_natCast,List.getD_eq_getElem?_getD,List.getElem?_eq_getElem h];rfl
def sL {β:Type}(f:Nat→β) (b:β):Option Nat→β
 |some k=>f k
 |none=>b
theorem XK {α ρ:Type}{f:Int→Option (Int⊕(Unit⊕ρ))}{l:List α}(p:α→Bool) (g:Nat→ρ)
  (hf: ∀(i:Nat) (h:i<l.length),f i=if p l[i]=true then some (.inr (.inr (g i))) else some (.inl (i+1)))
  (he:f l.length=some (.inr (.inl ()))): ∀(n j:Nat),j+n=l.length→pQ f j=some (sL (fun k=> .inr (g (j+k))) (.inl ()) ((l.drop j).findIdx? p))
 |0,j,hj=>by
  have:j=l.length:=by omega
  subst this
  rw[List.drop_length,vJ,he]
  rfl
 |n+1,j,hj=>by
  have hlt:j<l.length:=by omega
  rw[vJ,hf j hlt,List.drop_eq_getElem_cons hlt,List.findIdx?_cons]
  by_cases hp:p l[j]=true
  ·rw[if_pos hp,if_pos hp]
   rfl
  ·rw[if_neg hp,if_neg hp]
   show pQ f ((j:Int)+1)=_
   have:=XK p g hf he n (j+1) (by omega)
   rw[show ((j:Int)+1)=((j+1:Nat):Int) by omega,this]
   cases(l.drop (j+1)).findIdx? p with
   |none=>rfl
   |some k=>
    show some (Sum.inr (g (j+1+k)))=some (Sum.inr (g (j+(k+1))))
    rw[show j+1+k=j+(k+1) by omega]
theorem zQ {α ρ:Type}{f:Int→Option (Int⊕(Unit⊕ρ))}{l:List α}(p:α→Bool) (g:Nat→ρ)
  (hf: ∀(i:Nat) (h:i<l.length),f i=if p l[i]=true then some (.inr (.inr (g i))) else some (.inl (i+1)))
  (he:f l.length=some (.inr (.inl ()))):pQ f 0=some (sL (fun k=> .inr (g k)) (.inl ()) (l.findIdx? p)):=by
 have:=XK p g hf he l.length 0 (by omega)
 simpa using this
theorem aBb {s:List UInt8}{i:Nat}(h:i<s.length) (ha:s[i].toNat<128):sJ s i=(s[i].toNat:Int)∧wW s i=i+1:=by
 have h1:=Lib.decodeL_drop ⟨s.toArray⟩ i
 have h2:(⟨s.toArray⟩:ByteArray).data.toList.drop i=s[i]::s.drop (i+1):=by
  show s.drop i=_
  rw[List.drop_eq_getElem_cons h]
 rw[h2,Lib.decodeL_ascii _ _ ha] at h1
 unfold sJ wW UV
 rw[←h1,if_pos h]
 exact⟨rfl,rfl⟩
theorem aKG {n b0 b1 b2 b3:Nat}(h:128≤b0):128≤(Lib.decodeN n b0 b1 b2 b3).1:=by
 unfold Lib.decodeN
 repeat' split
 all_goals first|omega|(dsimp only;omega)
theorem aBc {s:List UInt8}{i:Nat}(h:i<s.length) (ha:128≤s[i].toNat):128≤sJ s i:=by
 unfold sJ
 rw[Lib.decode_at]
 have:(⟨s.toArray⟩:ByteArray).get! i=s[i]:=by
  show s.toArray[i]! =_
  simp [h]
 rw[this]
 exact Int.ofNat_le.2 (aKG ha)
theorem aBd {ρ:Type}{f:Nat→Option (Nat⊕(Unit⊕ρ))}{s:List UInt8}(p:Int→Bool) (g:Nat→ρ) (hb: ∀c,128≤c→p c=true)
  (hf: ∀(i:Nat) (h:i<s.length),f i=if p (sJ s i)=true then some (.inr (.inr (g i))) else some (.inl (wW s i)))
  (he:f s.length=some (.inr (.inl ()))): ∀(n j:Nat),j+n=s.length→pQ f j=some (sL (fun k=> .inr (g (j+k))) (.inl ()) ((s.drop j).findIdx? (fun b=>p b.toNat)))
 |0,j,hj=>by
  have:j=s.length:=by omega
  subst this
  rw[List.drop_length,vJ,he]
  rfl
 |n+1,j,hj=>by
  have hlt:j<s.length:=by omega
  rw[vJ,hf j hlt,List.drop_eq_getElem_cons hlt,List.findIdx?_cons]
  by_cases ha:s[j].toNat<128
  ·obtain⟨e1,e2⟩:=aBb hlt ha
   rw[e1,e2]
   by_cases hp:p (s[j].toNat:Int)=true
   ·rw[if_pos hp,if_pos hp]
    rfl
   ·rw[if_neg hp,if_neg hp]
    show pQ f (j+1)=_
    rw[aBd p g hb hf he n (j+1) (by omega)]
    cases(s.drop (j+1)).findIdx? (fun b=>p b.toNat) with
    |none=>rfl
    |some k=>
     show some (Sum.inr (g (j+1+k)))=some (Sum.inr (g (j+(k+1))))
     rw[show j+1+k=j+(k+1) by omega]
  ·rw[if_pos (hb _ (aBc hlt (by omega))),if_pos (hb _ (by omega))]
   rfl
theorem aBe {ρ:Type}{f:Nat→Option (Nat⊕(Unit⊕ρ))}{s:List UInt8}(p:Int→Bool) (g:Nat→ρ) (hb: ∀c,128≤c→p c=true)
  (hf: ∀(i:Nat) (h:i<s.length),f i=if p (sJ s i)=true then some (.inr (.inr (g i))) else some (.inl (wW s i)))
  (he:f s.length=some (.inr (.inl ()))):pQ f 0=some (sL (fun k=> .inr (g k)) (.inl ()) (s.findIdx? (fun b=>p b.toNat))):=by
 have:=aBd p g hb hf he s.length 0 (by omega)
 simpa using this
def fit {α:Type}(l:List α):Prop:=l.length≤1000000
end Go.Proofs.YtbbpilohihldiaaGreatDoor
namespace Go.Proofs.YtbbpilohihldiaaGreatDoor
open Vc
set_option maxRecDepth 100000
set_option maxHeartbeats 4000000
set_option linter.unusedSimpArgs false
set_option linter.unusedVariables false
noncomputable section
def aBf (O:s9):Unit:=
 ()
section
variable (O:s9)
@[reducible] def XL:List Slot:=[(.val uB O,none)]
@[reducible] def XM:List Blk:=[]
@[go_sem] def XN:Ret:=⟨[],[(.val uB (O.1,(O.2.1,(O.2.2.1,()))),none)],[]⟩
def aBg:List Slot→List Blk→Option Ret:=pS (V:=s9) (fun x=>XL x) (fun x=>XM) fun x=>XN x
@[go_sem] theorem aPt:aBg (no_index (XL O)) (no_index XM)=some (XN O):=pT (fun a0 b0 h1 h2=>by cases h1;cases h2;rfl) O
end
@[reducible,go_sem] def aBh:Nat×Sig:=(22,⟨[.v],aBg,[],[],none⟩)
theorem XO:Env Tryz.prog [qE,sK,EZ,C2] (pK []):=⟨⟨qG,⟨sU,⟨JJ,⟨F0,trivial⟩⟩⟩⟩,pV,pN⟩
theorem aKH:pM Tryz.prog aBh:=by
 refine pU XO Tryz.func22 (c:=_) rfl (N:=10) (by kernel_rfl) (ts:=[(2,some 37)]) rfl (fun _ _=>rfl) ?_
 intro O hs hrow
 dsimp only[XL,XM,XN,pP,enumH,pG,pL,pR,Nat.reduceAdd] at hs hrow⊢
 obtain⟨z0,hC0⟩: ∃z,(aBf O)=z:=⟨_,rfl⟩
 try rw[hC0]
 unfold aBf at hC0
 refine p4 XO ?_
 refine p4 XO ?_
 refine p8 ?_
 cases hC0
 exact⟨[],by rfl,by rfl,by rfl⟩
def MN (O:q9) (Z:(List UInt8)):Int→Option (Int⊕(Unit⊕(Int×Bool))):=fun aA=>
 if (decide (aA<(List.length O.2.2.2.1:Int)))=true then
  if 0≤aA∧aA<(List.length O.2.2.2.1:Int) then
   if (decide ((pI qQ O.2.2.2.1 aA).1=Z))=true then
    some (.inr (.inr ((aA,true))))
   else
    if p5 (aA+(1:Int)) then
     some (.inl (aA+(1:Int)))
    else none
  else none
 else
  some (.inr (.inl ()))
def DF (O:q9) (Z:(List UInt8)):Option (Int×Bool):=
 qW (pQ (MN O Z) (0:Int)) fun _=>
 some (((0:Int),false))
section
variable (O:q9) (Z:(List UInt8))
@[reducible] def XP:List Slot:=[(.val uW O,none),(.val .str Z,none)]
@[reducible] def XQ:List Blk:=[]
@[go_sem] def XR:Ret:=⟨[((DF O Z)).isSome=true],[(.val (.int .i64) ((val (DF O Z)).1),none),(.val .bool ((val (DF O Z)).2),none)],[]⟩
def aBi:List Slot→List Blk→Option Ret:=pS (V:=(q9×(List UInt8))) (fun x=>XP x.1 x.2) (fun x=>XQ) fun x=>XR x.1 x.2
@[go_sem] theorem aPu:aBi (no_index (XP O Z)) (no_index XQ)=some (XR O Z):=pT (fun⟨a0,a1⟩ ⟨b0,b1⟩ h1 h2=>by cases h1;cases h2;rfl) (O,Z)
end
@[reducible,go_sem] def aBj:Nat×Sig:=(37,⟨[.v,.v],aBi,[],[],none⟩)
theorem F5:Env Tryz.prog [qE,C3,xC,wI] (pK []):=⟨⟨qG,⟨F1,⟨yR,⟨y4,trivial⟩⟩⟩⟩,pV,pN⟩
theorem aKI:pM Tryz.prog aBj:=by
 refine pU F5 Tryz.func37 (c:=_) rfl (N:=23) (by kernel_rfl) (ts:=[(4,none),(5,none)]) rfl (fun _ _=>rfl) ?_
 intro⟨O,Z⟩ hs hrow
 dsimp only[XP,XQ,XR,pP,enumH,pG,pL,pR,Nat.reduceAdd] at hs hrow⊢
 have hz:=hs
 obtain⟨z0,hC0⟩:=Option.isSome_iff_exists.1 hz
 try rw[q7 hC0]
 clear hz hs
 unfold DF at hC0
 refine p4 F5 ?_
 refine pC ?_
 refine p4 F5 ?_
 refine q8 ?_
 obtain⟨y1,hy1,hC0⟩:=tE hC0
 refine rN 0 (fun s=> ∃v,y1= .inl v∧s=(fun _=>⟨[],[],0,23,0⟩) v) ?_ ?_
 ·refine rM hy1 (fun x=>⟨[(1,(.val .str Z,none)),(2,(.val .ref (some (0,0)),none)),(6,(.val (.int .i64) x,none))],[(0,.cells uW O [])],1,23,0⟩) ⟨[1,2,6],[(0,0)]⟩ (by rfl) ?_
  intro aA w1 n1 hC1 hN1
  unfold MN at hC1
  dsimp only at hC1⊢
  refine pC ?_
  refine p4 F5 ?_
  refine pB hC1 (fun hC1 hc1=> ?_) (fun hC1 hc1=> ?_)
  ·refine pJ (p9 (pC (q8 ?_)))
   obtain⟨hg1,hC1⟩:=p6 hC1
   refine p4 F5 ?_ (hp:=by exact hg1)
   refine pB hC1 (fun hC1 hc2=> ?_) (fun hC1 hc2=> ?_)
   ·refine p4 F5 ?_
    refine p8 (qC (pZ (tD (tC (qC (pZ ?_))))))
    cases hC1
    cases hN1
    dsimp only at hC0
    cases hC0
    exact⟨[],by rfl,by rfl,by rfl⟩
   ·refine pJ (pY (p9 ?_))
    obtain⟨hg2,hC1⟩:=p6 hC1
    refine pW F5 ?_ (hp:=by exact hg2)
    cases hC1
    exact qU ⟨⟨[1,2,6],[(0,0)]⟩,_,by rfl,hN1⟩
  ·refine rE (rJ (rG ?_))
   cases hC1
   cases hN1
   exact rF ⟨⟨[],[]⟩,_,rfl,by rfl⟩
 ·rintro _ ⟨v,rfl,rfl⟩
  dsimp only at hC0⊢
  refine rL (p9 ?_)
  refine p4 F5 ?_
  refine p8 ?_
  cases hC0
  exact⟨[],by rfl,by rfl,by rfl⟩
attribute [irreducible] DF
def aBk (O:s9):Unit:=
 ()
section
variable (O:s9)
@[reducible] def XS:List Slot:=[(.val uB O,none)]
@[reducible] def XT:List Blk:=[]
@[go_sem] def XU:Ret:=⟨[],[(.val .clo (some (92,[(0,0)])),none)],[.cells uB O []]⟩
def aBl:List Slot→List Blk→Option Ret:=pS (V:=s9) (fun x=>XS x) (fun x=>XT) fun x=>XU x
@[go_sem] theorem aPv:aBl (no_index (XS O)) (no_index XT)=some (XU O):=pT (fun a0 b0 h1 h2=>by cases h1;cases h2;rfl) O
end
@[reducible,go_sem] def aBm:Nat×Sig:=(50,⟨[.v],aBl,[],[],none⟩)
theorem XV:Env Tryz.prog [EZ] (pK []):=⟨⟨JJ,trivial⟩,pV,pN⟩
theorem aKJ:pM Tryz.prog aBm:=by
 refine pU XV Tryz.func50 (c:=_) rfl (N:=4) (by kernel_rfl) (ts:=[(2,none)]) rfl (fun _ _=>rfl) ?_
 intro O hs hrow
 dsimp only[XS,XT,XU,pP,enumH,pG,pL,pR,Nat.reduceAdd] at hs hrow⊢
 obtain⟨z0,hC0⟩: ∃z,(aBk O)=z:=⟨_,rfl⟩
 try rw[hC0]
 unfold aBk at hC0
 refine p4 XV ?_
 refine p4 XV ?_
 refine p8 ?_
 cases hC0
 exact⟨[(0,0)],by rfl,by rfl,by rfl⟩
def A8 (O:((List Int)×Unit)) (Z:(List UInt8)):Option Unit:=
 if List.length O.1+List.length Z≤140737488355328 then
  some (())
 else none
section
variable (O:(List UInt8)) (Z:((List Int)×Unit)) (aA:Nat)
@[reducible] def XW:List Slot:=[(.val .ref (some (0,0)),none),(.val .str O,none)]
@[reducible] def XX:List Blk:=[.cells uX ((some (0,0)),Z) [(1,1)],.grow 5 1 aA]
@[go_sem] def XY:Ret:=⟨[aA=(List.length Z.1),((A8 Z O)).isSome=true],[(.val (.int .i64) (List.length O:Int),none),(.any,none)],[.cells uX ((some (0,0)),((Z.1++rH O),())) [(1,1)],.grow 5 1 (List.length (Z.1++rH O))]⟩
def aBn:List Slot→List Blk→Option Ret:=pS (V:=((List UInt8)×((List Int)×Unit)×Nat)) (fun x=>XW x.1) (fun x=>XX x.2.1 x.2.2) fun x=>XY x.1 x.2.1 x.2.2
@[go_sem] theorem aPw:aBn (no_index (XW O)) (no_index (XX Z aA))=some (XY O Z aA):=pT (fun⟨a0,a1,a2⟩ ⟨b0,b1,b2⟩ h1 h2=>by cases h1;cases h2;rfl) (O,Z,aA)
end
@[reducible,go_sem] def RN:Nat×Sig:=(53,⟨[.p uX [1],.v],aBn,[],[],none⟩)
theorem MO:Env Tryz.prog [qE,zN,DD] (pK [RL]):=⟨⟨qG,⟨B0,⟨HB,trivial⟩⟩⟩,pA XI pV,pN⟩
theorem XZ:pM Tryz.prog RN:=by
 refine pU MO Tryz.func53 (c:=_) rfl (N:=19) (by kernel_rfl) (ts:=[(4,none),(5,none)]) rfl (fun _ _=>rfl) ?_
 intro⟨O,Z,aA⟩ hs hrow
 dsimp only[XW,XX,XY,pP,enumH,pG,pL,pR,Nat.reduceAdd] at hs hrow⊢
 obtain⟨rfl,hz⟩:=hs
 obtain⟨z0,hC0⟩:=Option.isSome_iff_exists.1 hz
 try rw[q7 hC0]
 clear hz
 unfold A8 at hC0
 refine p4 MO ?_
 refine p4 MO ?_ (hp:=by exact(by first|exact rfl|exact trivial))
 obtain⟨hg1,hC0⟩:=p6 hC0
 refine p4 MO ?_ (hp:=by exact And.intro (by first|exact rfl|exact trivial) (hg1))
 refine p4 MO ?_
 refine p8 ?_
 cases hC0
 exact⟨[(0,0),(1,1)],by rfl,by rfl,by rfl⟩
attribute [irreducible] A8
def F6 (O:(List (List UInt8))):(Int×Int)→Option ((Int×Int)⊕Int):=fun(Z,aA)=>
 if ((decide (aA<(List.length O:Int)))&&(decide (Z<(1099511627776:Int))))=true then
  if 0≤aA∧aA<(List.length O:Int) then
   if p5 (Z+(List.length (pI .str O aA):Int)) then
    if p5 (aA+(1:Int)) then
     some (.inl ((Z+(List.length (pI .str O aA):Int)),(aA+(1:Int))))
    else none
   else none
  else none
 else
  some (.inr Z)
def F7 (O:(List pO)):(Int×Int)→Option ((Int×Int)⊕Int):=fun(Z,aA)=>
 if ((decide (aA<(List.length O:Int)))&&(decide (Z<(1099511627776:Int))))=true then
  if 0≤aA∧aA<(List.length O:Int) then
   if p5 (Z+(List.length ((pI (.pair .str (.pair .str .unit)) O aA).1):Int)) then
    if 0≤aA∧aA<(List.length O:Int) then
     if p5 ((Z+(List.length ((pI (.pair .str (.pair .str .unit)) O aA).1):Int))+(List.length ((pI (.pair .str (.pair .str .unit)) O aA).2.1):Int)) then
      if p5 (aA+(1:Int)) then
       some (.inl (((Z+(List.length ((pI (.pair .str (.pair .str .unit)) O aA).1):Int))+(List.length ((pI (.pair .str (.pair .str .unit)) O aA).2.1):Int)),(aA+(1:Int))))
      else none
     else none
    else none
   else none
  else none
 else
  some (.inr Z)
def vU (O:(List (List UInt8))) (Z:(List pO)):Option Int:=
 if p5 ((List.length O:Int)+(List.length Z:Int)) then
  qD (pQ (F6 O) (((List.length O:Int)+(List.length Z:Int)),(0:Int))) fun aA=>
  qD (pQ (F7 Z) (aA,(0:Int))) fun aB=>
  some (aB)
 else none
section
variable (O:(List (List UInt8))) (Z:(List pO))
@[reducible] def Y0:List Slot:=[(.val (.list .str) O,none),(.val (.list (.pair .str (.pair .str .unit))) Z,none)]
@[reducible] def Y1:List Blk:=[]
@[go_sem] def Y2:Ret:=⟨[((vU O Z)).isSome=true],[(.val (.int .i64) (val (vU O Z)),none)],[]⟩
def aBo:List Slot→List Blk→Option Ret:=pS (V:=((List (List UInt8))×(List pO))) (fun x=>Y0 x.1 x.2) (fun x=>Y1) fun x=>Y2 x.1 x.2
@[go_sem] theorem aPx:aBo (no_index (Y0 O Z)) (no_index Y1)=some (Y2 O Z):=pT (fun⟨a0,a1⟩ ⟨b0,b1⟩ h1 h2=>by cases h1;cases h2;rfl) (O,Z)
end
@[reducible,go_sem] def Y3:Nat×Sig:=(57,⟨[.v,.v],aBo,[],[],none⟩)
theorem A9:Env Tryz.prog [qE,sK,uC,zO] (pK []):=⟨⟨qG,⟨sU,⟨uY,⟨B1,trivial⟩⟩⟩⟩,pV,pN⟩
theorem aBp:pM Tryz.prog Y3:=by
 refine pU A9 Tryz.func57 (c:=_) rfl (N:=56) (by kernel_rfl) (ts:=[(4,none)]) rfl (fun _ _=>rfl) ?_
 intro⟨O,Z⟩ hs hrow
 dsimp only[Y0,Y1,Y2,pP,enumH,pG,pL,pR,Nat.reduceAdd] at hs hrow⊢
 have hz:=hs
 obtain⟨z0,hC0⟩:=Option.isSome_iff_exists.1 hz
 try rw[q7 hC0]
 clear hz hs
 unfold vU at hC0
 refine p4 A9 ?_
 obtain⟨hg1,hC0⟩:=p6 hC0
 refine p4 A9 ?_ (hp:=by exact hg1)
 refine pC ?_
 refine p4 A9 ?_
 refine q8 ?_
 obtain⟨aA,hy1,hC0⟩:=p7 hC0
 refine rN 0 (fun s=>s=(fun x=>⟨[(1,(.val (.list (.pair .str (.pair .str .unit))) Z,none)),(5,(.val (.int .i64) x,none))],[],0,56,0⟩) aA) ?_ ?_
 ·refine rM hy1 (fun x=>⟨[(0,(.val (.list .str) O,none)),(1,(.val (.list (.pair .str (.pair .str .unit))) Z,none)),(5,(.val (.int .i64) x.1,none)),(6,(.val (.int .i64) x.2,none))],[],0,56,0⟩) ⟨[0,1,5,6],[]⟩ (by rfl) ?_
  intro x1 w1 n1 hC1 hN1
  obtain⟨aB,aC⟩:=x1
  unfold F6 at hC1
  dsimp only at hC1⊢
  refine pC ?_
  refine p4 A9 ?_ (hp:=by exact And.intro (fun hh=>hh) ((fun hh=>qH hh)))
  refine pB hC1 (fun hC1 hc1=> ?_) (fun hC1 hc1=> ?_)
  ·refine pJ (p9 (pC (q8 ?_)))
   obtain⟨hg2,hC1⟩:=p6 hC1
   obtain⟨hg3,hC1⟩:=p6 hC1
   refine pW A9 ?_ (hp:=by exact And.intro hg2 (hg3))
   refine pY (p9 ?_)
   obtain⟨hg4,hC1⟩:=p6 hC1
   refine pW A9 ?_ (hp:=by exact hg4)
   cases hC1
   exact qU ⟨⟨[0,1,5,6],[]⟩,_,by rfl,hN1⟩
  ·refine rE (rJ (rG ?_))
   cases hC1
   cases hN1
   exact rF ⟨⟨[1,5],[]⟩,by rfl⟩
 ·rintro _ rfl
  dsimp only at hC0⊢
  refine rL (p9 (pC ?_))
  refine p4 A9 ?_
  refine q8 ?_
  obtain⟨aD,hy1,hC0⟩:=p7 hC0
  refine rN 2 (fun s=>s=(fun x=>⟨[(5,(.val (.int .i64) x,none))],[],0,56,0⟩) aD) ?_ ?_
  ·refine rM hy1 (fun x=>⟨[(1,(.val (.list (.pair .str (.pair .str .unit))) Z,none)),(5,(.val (.int .i64) x.1,none)),(7,(.val (.int .i64) x.2,none))],[],0,56,0⟩) ⟨[1,5,7],[]⟩ (by rfl) ?_
   intro x1 w1 n1 hC1 hN1
   obtain⟨aE,aF⟩:=x1
   unfold F7 at hC1
   dsimp only at hC1⊢
   refine pC ?_
   refine p4 A9 ?_ (hp:=by exact And.intro (fun hh=>hh) ((fun hh=>qH hh)))
   refine pB hC1 (fun hC1 hc2=> ?_) (fun hC1 hc2=> ?_)
   ·refine pJ (p9 (pC (q8 ?_)))
    obtain⟨hg5,hC1⟩:=p6 hC1
    obtain⟨hg6,hC1⟩:=p6 hC1
    obtain⟨hg7,hC1⟩:=p6 hC1
    obtain⟨hg8,hC1⟩:=p6 hC1
    refine AX A9 ?_ (hp:=by exact And.intro hg5 (And.intro hg6 (And.intro hg7 (hg8))))
    refine pY (p9 ?_)
    obtain⟨hg9,hC1⟩:=p6 hC1
    refine pW A9 ?_ (hp:=by exact hg9)
    cases hC1
    exact qU ⟨⟨[1,5,7],[]⟩,_,by rfl,hN1⟩
   ·refine rE (rJ (rG ?_))
    cases hC1
    cases hN1
    exact rF ⟨⟨[5],[]⟩,by rfl⟩
  ·rintro _ rfl
   dsimp only at hC0⊢
   refine rL (p9 ?_)
   refine p4 A9 ?_
   refine p8 ?_
   cases hC0
   exact⟨[],by rfl,by rfl,by rfl⟩
attribute [irreducible] vU
end
end Go.Proofs.YtbbpilohihldiaaGreatDoor
namespace Go.Proofs.YtbbpilohihldiaaGreatDoor
open Vc
set_option maxRecDepth 100000
set_option maxHeartbeats 4000000
set_option linter.unusedSimpArgs false
set_option linter.unusedVariables false
noncomputable section
def DG (O:s9):Option Unit:=
 if (List.length ([O.1]:List (List UInt8))+List.length O.2.1)*16≤140737488355328 then
  if (List.length (([O.1]:List (List UInt8))++O.2.1)+List.length ([O.2.2.1]:List (List UInt8)))*16≤140737488355328 then
   some (())
  else none
 else none
section
variable (O:s9)
@[reducible] def Y4:List Slot:=[(.val uB O,none)]
@[reducible] def Y5:List Blk:=[]
@[go_sem] def Y6:Ret:=⟨[((DG O)).isSome=true],[(.val (.list .str) ((([O.1]:List (List UInt8))++O.2.1)++([O.2.2.1]:List (List UInt8))),some 0)],[.grow 9 1 (List.length ((([O.1]:List (List UInt8))++O.2.1)++([O.2.2.1]:List (List UInt8))))]⟩
def aBq:List Slot→List Blk→Option Ret:=pS (V:=s9) (fun x=>Y4 x) (fun x=>Y5) fun x=>Y6 x
@[go_sem] theorem aPy:aBq (no_index (Y4 O)) (no_index Y5)=some (Y6 O):=pT (fun a0 b0 h1 h2=>by cases h1;cases h2;rfl) O
end
@[reducible,go_sem] def Y7:Nat×Sig:=(91,⟨[.v],aBq,[],[],none⟩)
theorem Y8:Env Tryz.prog [qE,sK,C2] (pK []):=⟨⟨qG,⟨sU,⟨F0,trivial⟩⟩⟩,pV,pN⟩
theorem aBr:pM Tryz.prog Y7:=by
 refine pU Y8 Tryz.func91 (c:=_) rfl (N:=13) (by kernel_rfl) (ts:=[(2,none)]) rfl (fun _ _=>rfl) ?_
 intro O hs hrow
 dsimp only[Y4,Y5,Y6,pP,enumH,pG,pL,pR,Nat.reduceAdd] at hs hrow⊢
 have hz:=hs
 obtain⟨z0,hC0⟩:=Option.isSome_iff_exists.1 hz
 try rw[q7 hC0]
 clear hz hs
 unfold DG at hC0
 refine p4 Y8 ?_
 obtain⟨hg1,hC0⟩:=p6 hC0
 obtain⟨hg2,hC0⟩:=p6 hC0
 refine tV Y8 ?_ (hp:=by exact And.intro (by first|exact rfl|exact trivial) (And.intro hg1 (And.intro (by first|exact rfl|exact trivial) (hg2))))
 refine p8 ?_
 cases hC0
 exact⟨[(0,128)],by rfl,by rfl,by rfl⟩
attribute [irreducible] DG
def aBs:Unit:=
 ()
section
@[reducible] def Y9:List Slot:=[]
@[reducible] def YA:List Blk:=[]
@[go_sem] def YB:Ret:=⟨[],[(.val (.list .str) ([([110,101,119]:List UInt8),([102,117,122,122,121]:List UInt8),([116,114,97,110,115,108,97,116,101,100]:List UInt8),([114,101,118,105,101,119,101,100]:List UInt8),([111,98,115,111,108,101,116,101]:List UInt8)]:List (List UInt8)),some 0)],[.grow 9 1 (List.length ([([110,101,119]:List UInt8),([102,117,122,122,121]:List UInt8),([116,114,97,110,115,108,97,116,101,100]:List UInt8),([114,101,118,105,101,119,101,100]:List UInt8),([111,98,115,111,108,101,116,101]:List UInt8)]:List (List UInt8)))]⟩
def aBt:List Slot→List Blk→Option Ret:=pS (V:=Unit) (fun x=>Y9) (fun x=>YA) fun x=>YB
@[go_sem] theorem aPz:aBt (no_index Y9) (no_index YA)=some YB:=pT (fun _ _ h1 h2=>by cases h1;cases h2;rfl) ()
end
@[reducible,go_sem] def MP:Nat×Sig:=(111,⟨[],aBt,[],[],none⟩)
theorem YC:Env Tryz.prog [sK] (pK []):=⟨⟨sU,trivial⟩,pV,pN⟩
theorem YD:pM Tryz.prog MP:=by
 refine pU YC Tryz.func111 (c:=_) rfl (N:=2) (by kernel_rfl) (ts:=[(0,none)]) rfl (fun _ _=>rfl) ?_
 intro⟨⟩ hs hrow
 dsimp only[Y9,YA,YB,pP,enumH,pG,pL,pR,Nat.reduceAdd] at hs hrow⊢
 obtain⟨z0,hC0⟩: ∃z,aBs=z:=⟨_,rfl⟩
 try rw[hC0]
 unfold aBs at hC0
 refine p4 YC ?_
 refine p4 YC ?_
 refine p8 ?_
 cases hC0
 exact⟨[(0,32)],by rfl,by rfl,by rfl⟩
def DH (O:Int):Option Unit:=
 if 0≤O∧O<(List.length ([([110,101,119]:List UInt8),([102,117,122,122,121]:List UInt8),([116,114,97,110,115,108,97,116,101,100]:List UInt8),([114,101,118,105,101,119,101,100]:List UInt8),([111,98,115,111,108,101,116,101]:List UInt8)]:List (List UInt8)):Int) then
  some (())
 else none
section
variable (O:Int)
@[reducible] def YE:List Slot:=[(.val (.int .i64) O,none)]
@[reducible] def YF:List Blk:=[]
@[go_sem] def YG:Ret:=⟨[((DH O)).isSome=true],[(.val .str (pI .str ([([110,101,119]:List UInt8),([102,117,122,122,121]:List UInt8),([116,114,97,110,115,108,97,116,101,100]:List UInt8),([114,101,118,105,101,119,101,100]:List UInt8),([111,98,115,111,108,101,116,101]:List UInt8)]:List (List UInt8)) O),none)],[]⟩
def aBu:List Slot→List Blk→Option Ret:=pS (V:=Int) (fun x=>YE x) (fun x=>YF) fun x=>YG x
@[go_sem] theorem aPA:aBu (no_index (YE O)) (no_index YF)=some (YG O):=pT (fun a0 b0 h1 h2=>by cases h1;cases h2;rfl) O
end
@[reducible,go_sem] def aBv:Nat×Sig:=(113,⟨[.v],aBu,[],[],none⟩)
theorem RO:Env Tryz.prog [qE,sK] (pK []):=⟨⟨qG,⟨sU,trivial⟩⟩,pV,pN⟩
theorem aKK:pM Tryz.prog aBv:=by
 refine pU RO Tryz.func113 (c:=_) rfl (N:=9) (by kernel_rfl) (ts:=[(2,none)]) rfl (fun _ _=>rfl) ?_
 intro O hs hrow
 dsimp only[YE,YF,YG,pP,enumH,pG,pL,pR,Nat.reduceAdd] at hs hrow⊢
 have hz:=hs
 obtain⟨z0,hC0⟩:=Option.isSome_iff_exists.1 hz
 try rw[q7 hC0]
 clear hz hs
 unfold DH at hC0
 refine p4 RO ?_
 refine p4 RO ?_
 obtain⟨hg1,hC0⟩:=p6 hC0
 refine p4 RO ?_ (hp:=by exact hg1)
 refine p8 ?_
 cases hC0
 exact⟨[],by rfl,by rfl,by rfl⟩
attribute [irreducible] DH
end
end Go.Proofs.YtbbpilohihldiaaGreatDoor
namespace Go.Proofs.YtbbpilohihldiaaGreatDoor
open Vc
set_option maxRecDepth 100000
set_option maxHeartbeats 4000000
set_option linter.unusedSimpArgs false
set_option linter.unusedVariables false
noncomputable section
def MQ (O:(List UInt8)):Nat→Option (Nat⊕(Unit⊕Bool)):=fun Z=>
 if (decide (Z<List.length O))=true then
  if (decide (Z<List.length O))=true then
   if (((((decide ((sJ O Z)<(97:Int)))||(decide ((122:Int)<(sJ O Z))))&&((decide ((sJ O Z)<(65:Int)))||(decide ((90:Int)<(sJ O Z)))))&&((decide ((sJ O Z)<(48:Int)))||(decide ((57:Int)<(sJ O Z)))))&&(!decide ((sJ O Z)=(45:Int))))=true then
    some (.inr (.inr (false)))
   else
    some (.inl (wW O Z))
  else none
 else
  some (.inr (.inl ()))
def DI (O:(List UInt8)):Option Bool:=
 qW (pQ (MQ O) 0) fun _=>
 some (((decide ((1:Int)≤(List.length O:Int)))&&(decide ((List.length O:Int)≤(40:Int)))))
section
variable (O:(List UInt8))
@[reducible] def YH:List Slot:=[(.val .str O,none)]
@[reducible] def YI:List Blk:=[]
@[go_sem] def YJ:Ret:=⟨[((DI O)).isSome=true],[(.val .bool (val (DI O)),none)],[]⟩
def aBw:List Slot→List Blk→Option Ret:=pS (V:=(List UInt8)) (fun x=>YH x) (fun x=>YI) fun x=>YJ x
@[go_sem] theorem aPB:aBw (no_index (YH O)) (no_index YI)=some (YJ O):=pT (fun a0 b0 h1 h2=>by cases h1;cases h2;rfl) O
end
@[reducible,go_sem] def YK:Nat×Sig:=(106,⟨[.v],aBw,[],[],none⟩)
theorem F8:Env Tryz.prog [qE] (pK []):=⟨⟨qG,trivial⟩,pV,pN⟩
theorem aBx:pM Tryz.prog YK:=by
 refine pU F8 Tryz.func106 (c:=_) rfl (N:=44) (by kernel_rfl) (ts:=[(2,none)]) rfl (fun _ _=>rfl) ?_
 intro O hs hrow
 dsimp only[YH,YI,YJ,pP,enumH,pG,pL,pR,Nat.reduceAdd] at hs hrow⊢
 have hz:=hs
 obtain⟨z0,hC0⟩:=Option.isSome_iff_exists.1 hz
 try rw[q7 hC0]
 clear hz hs
 unfold DI at hC0
 refine p4 F8 ?_
 refine pC ?_
 refine p4 F8 ?_
 refine q8 ?_
 obtain⟨y1,hy1,hC0⟩:=tE hC0
 refine rN 0 (fun s=> ∃v,y1= .inl v∧s=(fun _=>⟨[(0,(.val .str O,none))],[],0,44,0⟩) v) ?_ ?_
 ·refine rM hy1 (fun x=>⟨[(0,(.val .str O,none)),(6,(.val .ref (some (0,0)),none))],[(0,.iter O x)],1,44,0⟩) ⟨[0,6],[(0,64)]⟩ (by rfl) ?_
  intro Z w1 n1 hC1 hN1
  unfold MQ at hC1
  dsimp only at hC1⊢
  refine p4 F8 ?_
  refine pC ?_
  refine pB hC1 (fun hC1 hc1=> ?_) (fun hC1 hc1=> ?_)
  ·refine pJ (p9 (q8 ?_))
   obtain⟨hg1,hC1⟩:=p6 hC1
   refine p4 F8 ?_ (hp:=by exact hg1)
   refine p4 F8 ?_ (hp:=by exact And.intro (fun hh=>hh) (And.intro (fun hh=>rW hh) (And.intro (fun hh=>hh) (And.intro (fun hh=>hh) (And.intro (fun hh=>hh) (And.intro (fun hh=>hh) (And.intro (fun hG hh=>C1 hG hh) (And.intro (fun hh=>qH hh) (And.intro (fun hh=>hh) (And.intro (fun hh=>hh) (And.intro (fun hh=>hh) (And.intro (fun hh=>hh) (And.intro (fun hG hh=>C1 hG hh) (And.intro (fun hh=>qH hh) (And.intro (fun hh=>hh) ((fun hh=>qH hh)))))))))))))))))
   refine pB hC1 (fun hC1 hc2=> ?_) (fun hC1 hc2=> ?_)
   ·refine p4 F8 ?_
    refine p8 (qC (tD (tC (qC (pZ ?_)))))
    cases hC1
    cases hN1
    dsimp only at hC0
    cases hC0
    exact⟨[],by rfl,by rfl,by rfl⟩
   ·refine pJ (pY ?_)
    cases hC1
    exact qU ⟨⟨[0,6],[(0,0)]⟩,_,by rfl,hN1⟩
  ·refine rE (rJ (rG ?_))
   cases hC1
   cases hN1
   exact rF ⟨⟨[0],[]⟩,_,rfl,by rfl⟩
 ·rintro _ ⟨v,rfl,rfl⟩
  dsimp only at hC0⊢
  refine rL (p9 ?_)
  refine p4 F8 ?_ (hp:=by exact And.intro (fun hh=>hh) (And.intro (fun hh=>hh) ((fun hh=>qH hh))))
  refine p8 ?_
  cases hC0
  exact⟨[],by rfl,by rfl,by rfl⟩
attribute [irreducible] DI
def aBy (O:Int):Unit:=
 ()
section
variable (O:Int)
@[reducible] def YL:List Slot:=[(.val (.int .u8) O,none)]
@[reducible] def YM:List Blk:=[]
@[go_sem] def YN:Ret:=⟨[],[(.val .bool (((decide ((97:Int)≤O))&&(decide (O≤(122:Int))))||((decide ((65:Int)≤O))&&(decide (O≤(90:Int))))),none)],[]⟩
def aBz:List Slot→List Blk→Option Ret:=pS (V:=Int) (fun x=>YL x) (fun x=>YM) fun x=>YN x
@[go_sem] theorem aPC:aBz (no_index (YL O)) (no_index YM)=some (YN O):=pT (fun a0 b0 h1 h2=>by cases h1;cases h2;rfl) O
end
@[reducible,go_sem] def YO:Nat×Sig:=(120,⟨[.v],aBz,[],[],none⟩)
theorem YP:Env Tryz.prog [] (pK []):=⟨trivial,pV,pN⟩
theorem aBA:pM Tryz.prog YO:=by
 refine pU YP Tryz.func120 (c:=_) rfl (N:=17) (by kernel_rfl) (ts:=[(2,none)]) rfl (fun _ _=>rfl) ?_
 intro O hs hrow
 dsimp only[YL,YM,YN,pP,enumH,pG,pL,pR,Nat.reduceAdd] at hs hrow⊢
 obtain⟨z0,hC0⟩: ∃z,(aBy O)=z:=⟨_,rfl⟩
 try rw[hC0]
 unfold aBy at hC0
 refine p4 YP ?_
 refine p4 YP ?_ (hp:=by exact And.intro (fun hh=>hh) (And.intro (fun hh=>qH hh) (And.intro (fun hh=>hh) (And.intro (fun hh=>hh) (And.intro (fun hh=>hh) (And.intro (fun hh=>hh) (And.intro (fun hG hh=>C0 hG hh) ((fun hh=>rW hh)))))))))
 refine p8 ?_
 cases hC0
 exact⟨[],by rfl,by rfl,by rfl⟩
def aBB (O:Int):Unit:=
 ()
section
variable (O:Int)
@[reducible] def YQ:List Slot:=[(.val (.int .i32) O,none)]
@[reducible] def YR:List Blk:=[]
@[go_sem] def YS:Ret:=⟨[],[(.val .bool ((decide ((127:Int)<O))||(((((!(((decide ((97:Int)≤(IntKind.wrap .u8 O)))&&(decide ((IntKind.wrap .u8 O)≤(122:Int))))||((decide ((65:Int)≤(IntKind.wrap .u8 O)))&&(decide ((IntKind.wrap .u8 O)≤(90:Int))))))&&((decide (O<(48:Int)))||(decide ((57:Int)<O))))&&(!decide (O=(45:Int))))&&(!decide (O=(95:Int))))&&(!decide (O=(46:Int))))),none)],[]⟩
def aBC:List Slot→List Blk→Option Ret:=pS (V:=Int) (fun x=>YQ x) (fun x=>YR) fun x=>YS x
@[go_sem] theorem aPD:aBC (no_index (YQ O)) (no_index YR)=some (YS O):=pT (fun a0 b0 h1 h2=>by cases h1;cases h2;rfl) O
end
@[reducible,go_sem] def aBD:Nat×Sig:=(122,⟨[.v],aBC,[],[],none⟩)
theorem YT:Env Tryz.prog [yS,JL] (pK [YO]):=⟨⟨A7,⟨RD,trivial⟩⟩,pA aBA pV,pN⟩
theorem aKL:pM Tryz.prog aBD:=by
 refine pU YT Tryz.func122 (c:=_) rfl (N:=31) (by kernel_rfl) (ts:=[(2,none)]) rfl (fun _ _=>rfl) ?_
 intro O hs hrow
 dsimp only[YQ,YR,YS,pP,enumH,pG,pL,pR,Nat.reduceAdd] at hs hrow⊢
 obtain⟨z0,hC0⟩: ∃z,(aBB O)=z:=⟨_,rfl⟩
 try rw[hC0]
 unfold aBB at hC0
 refine p4 YT ?_
 refine p4 YT ?_ (hp:=by exact And.intro (fun hh=>hh) (And.intro (fun hh=>hh) (And.intro (fun hh=>hh) (And.intro (fun hh=>hh) (And.intro (fun hh=>hh) (And.intro (fun hh=>hh) (And.intro (fun hh=>hh) (And.intro (fun hh=>hh) (And.intro (fun hG hh=>C1 hG hh) (And.intro (fun hh=>hh) (And.intro (fun hG hh=>C0 hG hh) (And.intro (fun hh=>hh) (And.intro (fun hh=>hh) (And.intro (fun hh=>hh) (And.intro (fun hG hh=>C0 hG hh) (And.intro (fun hh=>hh) (And.intro (fun hh=>hh) (And.intro (fun hh=>hh) (And.intro (fun hG hh=>C0 hG hh) (And.intro (fun hh=>hh) (And.intro (fun hh=>hh) (And.intro (fun hh=>hh) (And.intro (fun hG hh=>C0 hG hh) ((fun hh=>rW hh)))))))))))))))))))))))))
 refine p8 ?_
 cases hC0
 exact⟨[],by rfl,by rfl,by rfl⟩
def aBE (O:(List UInt8)):Unit:=
 ()
section
variable (O:(List UInt8))
@[reducible] def YU:List Slot:=[(.val .str O,none)]
@[reducible] def YV:List Blk:=[]
@[go_sem] def YW:Ret:=⟨[],[(.val .bool false,none)],[]⟩
def aBF:List Slot→List Blk→Option Ret:=pS (V:=(List UInt8)) (fun x=>YU x) (fun x=>YV) fun x=>YW
@[go_sem] theorem aPE:aBF (no_index (YU O)) (no_index YV)=some YW:=pT (fun a0 b0 h1 h2=>by cases h1;cases h2;rfl) O
end
@[reducible,go_sem] def RP:Nat×Sig:=(125,⟨[.v],aBF,[],[],none⟩)
theorem YX:Env Tryz.prog [] (pK []):=⟨trivial,pV,pN⟩
theorem YY:pM Tryz.prog RP:=by
 refine pU YX Tryz.func125 (c:=_) rfl (N:=3) (by kernel_rfl) (ts:=[(2,none)]) rfl (fun _ _=>rfl) ?_
 intro O hs hrow
 dsimp only[YU,YV,YW,pP,enumH,pG,pL,pR,Nat.reduceAdd] at hs hrow⊢
 obtain⟨z0,hC0⟩: ∃z,(aBE O)=z:=⟨_,rfl⟩
 try rw[hC0]
 unfold aBE at hC0
 refine p4 YX ?_
 refine p4 YX ?_
 refine p8 ?_
 cases hC0
 exact⟨[],by rfl,by rfl,by rfl⟩
def aBG (O:(List UInt8)):Unit:=
 ()
section
variable (O:(List UInt8))
@[reducible] def YZ:List Slot:=[(.val .str O,none)]
@[reducible] def Z0:List Blk:=[]
@[go_sem] def Z1:Ret:=⟨[],[(.val .bool ((!decide (O=([]:List UInt8)))&&(decide ((List.length O:Int)≤(200:Int)))),none)],[]⟩
def aBH:List Slot→List Blk→Option Ret:=pS (V:=(List UInt8)) (fun x=>YZ x) (fun x=>Z0) fun x=>Z1 x
@[go_sem] theorem aPF:aBH (no_index (YZ O)) (no_index Z0)=some (Z1 O):=pT (fun a0 b0 h1 h2=>by cases h1;cases h2;rfl) O
end
@[reducible,go_sem] def aBI:Nat×Sig:=(127,⟨[.v],aBH,[],[],none⟩)
theorem Z2:Env Tryz.prog [qE] (pK []):=⟨⟨qG,trivial⟩,pV,pN⟩
theorem aKM:pM Tryz.prog aBI:=by
 refine pU Z2 Tryz.func127 (c:=_) rfl (N:=10) (by kernel_rfl) (ts:=[(2,none)]) rfl (fun _ _=>rfl) ?_
 intro O hs hrow
 dsimp only[YZ,Z0,Z1,pP,enumH,pG,pL,pR,Nat.reduceAdd] at hs hrow⊢
 obtain⟨z0,hC0⟩: ∃z,(aBG O)=z:=⟨_,rfl⟩
 try rw[hC0]
 unfold aBG at hC0
 refine p4 Z2 ?_
 refine p4 Z2 ?_ (hp:=by exact And.intro (fun hh=>hh) (And.intro (fun hh=>hh) ((fun hh=>qH hh))))
 refine p8 ?_
 cases hC0
 exact⟨[],by rfl,by rfl,by rfl⟩
def aBJ (O:(List UInt8)) (Z:((List UInt8)×(Int×Unit))) (aA:qM) (aB:Int) (aC:Int) (aD:q9) (aE:((List Int)×(Int×Unit))) (aF:(List ((List UInt8)×Bool))):Unit:=
 ()
section
variable (O:(List UInt8)) (Z:((List UInt8)×(Int×Unit))) (aA:qM) (aB:Int) (aC:Int) (aD:q9) (aE:((List Int)×(Int×Unit))) (aF:Nat) (aG:Nat) (aH:(List ((List UInt8)×Bool)))
@[reducible] def Z3:List Slot:=[(.val .str O,none),(.val .ref (some (0,0)),none)]
@[reducible] def Z4:List Blk:=[.cells .ref (some (1,0)) [],.cells qI (Z,(aA,(aB,(aC,(aD,((some 4),aE)))))) [(11,2),(13,3)],.grow 55 7 aF,.grow 3 1 aG,.map .str .bool aH]
@[go_sem] def Z5:Ret:=⟨[aF=(List.length aD.2.2.2.1),aG=(List.length aE.1)],[(.val .bool (qP .str .bool aH O),none)],[.cells .ref (some (1,0)) [],.cells qI ((Z.1,(Z.2.1,())),((aA.1,(aA.2.1,(aA.2.2.1,(aA.2.2.2.1,())))),(aB,(aC,((aD.1,(aD.2.1,(aD.2.2.1,(aD.2.2.2.1,())))),((some 4),(aE.1,(aE.2.1,())))))))) [(11,2),(13,3)],.grow 55 7 (List.length aD.2.2.2.1),.grow 3 1 (List.length aE.1),.map .str .bool aH]⟩
def aBK:List Slot→List Blk→Option Ret:=pS (V:=((List UInt8)×((List UInt8)×(Int×Unit))×qM×Int×Int×q9×((List Int)×(Int×Unit))×Nat×Nat×(List ((List UInt8)×Bool)))) (fun x=>Z3 x.1) (fun x=>Z4 x.2.1 x.2.2.1 x.2.2.2.1 x.2.2.2.2.1 x.2.2.2.2.2.1 x.2.2.2.2.2.2.1 x.2.2.2.2.2.2.2.1 x.2.2.2.2.2.2.2.2.1 x.2.2.2.2.2.2.2.2.2) fun x=>Z5 x.1 x.2.1 x.2.2.1 x.2.2.2.1 x.2.2.2.2.1 x.2.2.2.2.2.1 x.2.2.2.2.2.2.1 x.2.2.2.2.2.2.2.1 x.2.2.2.2.2.2.2.2.1 x.2.2.2.2.2.2.2.2.2
@[go_sem] theorem aPG:aBK (no_index (Z3 O)) (no_index (Z4 Z aA aB aC aD aE aF aG aH))=some (Z5 O Z aA aB aC aD aE aF aG aH):=pT (fun⟨a0,a1,a2,a3,a4,a5,a6,a7,a8,a9⟩ ⟨b0,b1,b2,b3,b4,b5,b6,b7,b8,b9⟩ h1 h2=>by cases h1;cases h2;rfl) (O,Z,aA,aB,aC,aD,aE,aF,aG,aH)
end
@[reducible,go_sem] def aBL:Nat×Sig:=(128,⟨[.v,.p .ref []],aBK,[(0,0,.p qI [11,13]),(1,12,.m)],[0,1,2,3,4],none⟩)
theorem Z6:Env Tryz.prog [C5,qE,RE,F3,vR] (pK []):=⟨⟨F2,⟨qG,⟨aAY,⟨JK,⟨xD,trivial⟩⟩⟩⟩⟩,pV,pN⟩
theorem aKN:pM Tryz.prog aBL:=by
 refine pU Z6 Tryz.func128 (c:=_) rfl (N:=10) (by kernel_rfl) (ts:=[(3,none)]) rfl (fun _ _=>rfl) ?_
 intro⟨O,Z,aA,aB,aC,aD,aE,aF,aG,aH⟩ hs hrow
 dsimp only[Z3,Z4,Z5,pP,enumH,pG,pL,pR,Nat.reduceAdd] at hs hrow⊢
 obtain⟨rfl,rfl⟩:=hs
 obtain⟨z0,hC0⟩: ∃z,(aBJ O Z aA aB aC aD aE aH)=z:=⟨_,rfl⟩
 try rw[hC0]
 unfold aBJ at hC0
 refine p4 Z6 ?_
 refine p4 Z6 ?_
 refine p8 ?_
 cases hC0
 exact⟨[(0,0),(1,1),(2,2),(3,3),(4,4)],by rfl,by rfl,by rfl⟩
def aBM (O:Int):Unit:=
 ()
section
variable (O:Int)
@[reducible] def Z7:List Slot:=[(.val (.int .i64) O,none)]
@[reducible] def Z8:List Blk:=[]
@[go_sem] def Z9:Ret:=⟨[],[(.val .bool ((decide ((1:Int)≤O))&&(decide (O≤(4:Int)))),none)],[]⟩
def aBN:List Slot→List Blk→Option Ret:=pS (V:=Int) (fun x=>Z7 x) (fun x=>Z8) fun x=>Z9 x
@[go_sem] theorem aPH:aBN (no_index (Z7 O)) (no_index Z8)=some (Z9 O):=pT (fun a0 b0 h1 h2=>by cases h1;cases h2;rfl) O
end
@[reducible,go_sem] def RQ:Nat×Sig:=(164,⟨[.v],aBN,[],[],none⟩)
theorem ZA:Env Tryz.prog [] (pK []):=⟨trivial,pV,pN⟩
theorem ZB:pM Tryz.prog RQ:=by
 refine pU ZA Tryz.func164 (c:=_) rfl (N:=9) (by kernel_rfl) (ts:=[(2,none)]) rfl (fun _ _=>rfl) ?_
 intro O hs hrow
 dsimp only[Z7,Z8,Z9,pP,enumH,pG,pL,pR,Nat.reduceAdd] at hs hrow⊢
 obtain⟨z0,hC0⟩: ∃z,(aBM O)=z:=⟨_,rfl⟩
 try rw[hC0]
 unfold aBM at hC0
 refine p4 ZA ?_
 refine p4 ZA ?_ (hp:=by exact And.intro (fun hh=>hh) ((fun hh=>qH hh)))
 refine p8 ?_
 cases hC0
 exact⟨[],by rfl,by rfl,by rfl⟩
end
end Go.Proofs.YtbbpilohihldiaaGreatDoor
namespace Go.Proofs.YtbbpilohihldiaaGreatDoor
open Vc
set_option maxRecDepth 100000
set_option maxHeartbeats 4000000
set_option linter.unusedSimpArgs false
set_option linter.unusedVariables false
noncomputable section
def aBO (O:Int):Unit:=
 ()
section
variable (O:Int)
@[reducible] def ZC:List Slot:=[(.val (.int .i64) O,none)]
@[reducible] def ZD:List Blk:=[]
@[go_sem] def ZE:Ret:=⟨[],[(.val .bool ((decide ((1:Int)≤O))&&(decide (O≤(4:Int)))),none)],[]⟩
def aBP:List Slot→List Blk→Option Ret:=pS (V:=Int) (fun x=>ZC x) (fun x=>ZD) fun x=>ZE x
@[go_sem] theorem aPI:aBP (no_index (ZC O)) (no_index ZD)=some (ZE O):=pT (fun a0 b0 h1 h2=>by cases h1;cases h2;rfl) O
end
@[reducible,go_sem] def aBQ:Nat×Sig:=(167,⟨[.v],aBP,[],[],none⟩)
theorem ZF:Env Tryz.prog [] (pK []):=⟨trivial,pV,pN⟩
theorem aKO:pM Tryz.prog aBQ:=by
 refine pU ZF Tryz.func167 (c:=_) rfl (N:=9) (by kernel_rfl) (ts:=[(2,none)]) rfl (fun _ _=>rfl) ?_
 intro O hs hrow
 dsimp only[ZC,ZD,ZE,pP,enumH,pG,pL,pR,Nat.reduceAdd] at hs hrow⊢
 obtain⟨z0,hC0⟩: ∃z,(aBO O)=z:=⟨_,rfl⟩
 try rw[hC0]
 unfold aBO at hC0
 refine p4 ZF ?_
 refine p4 ZF ?_ (hp:=by exact And.intro (fun hh=>hh) ((fun hh=>qH hh)))
 refine p8 ?_
 cases hC0
 exact⟨[],by rfl,by rfl,by rfl⟩
end
end Go.Proofs.YtbbpilohihldiaaGreatDoor
namespace Go.Proofs.YtbbpilohihldiaaGreatDoor
open Vc
set_option maxRecDepth 100000
set_option maxHeartbeats 4000000
set_option linter.unusedSimpArgs false
set_option linter.unusedVariables false
noncomputable section
def JS (O:(List UInt8)):Nat→Option (Nat⊕(Unit⊕Bool)):=fun Z=>
 if (decide (Z<List.length O))=true then
  if (decide (Z<List.length O))=true then
   if (decide (Z<List.length O))=true then
    if ((decide ((97:Int)≤(sJ O Z)))&&(decide ((sJ O Z)≤(122:Int))))=true then
     some (.inl (wW O Z))
    else
     if ((decide ((0:Int)<((Z:Nat):Int)))&&(((((decide ((48:Int)≤(sJ O Z)))&&(decide ((sJ O Z)≤(57:Int))))||(decide ((sJ O Z)=(45:Int))))||(decide ((sJ O Z)=(95:Int))))||(decide ((sJ O Z)=(46:Int)))))=true then
      some (.inl (wW O Z))
     else
      some (.inr (.inr (false)))
   else none
  else none
 else
  some (.inr (.inl ()))
def AA (O:(List UInt8)):Option Bool:=
 qW (pQ (JS O) 0) fun _=>
 some (((decide ((1:Int)≤(List.length O:Int)))&&(decide ((List.length O:Int)≤(40:Int)))))
section
variable (O:(List UInt8))
@[reducible] def ZG:List Slot:=[(.val .str O,none)]
@[reducible] def ZH:List Blk:=[]
@[go_sem] def ZI:Ret:=⟨[((AA O)).isSome=true],[(.val .bool (val (AA O)),none)],[]⟩
def aBR:List Slot→List Blk→Option Ret:=pS (V:=(List UInt8)) (fun x=>ZG x) (fun x=>ZH) fun x=>ZI x
@[go_sem] theorem aPJ:aBR (no_index (ZG O)) (no_index ZH)=some (ZI O):=pT (fun a0 b0 h1 h2=>by cases h1;cases h2;rfl) O
end
@[reducible,go_sem] def HD:Nat×Sig:=(162,⟨[.v],aBR,[],[],none⟩)
theorem C6:Env Tryz.prog [qE] (pK []):=⟨⟨qG,trivial⟩,pV,pN⟩
theorem RW:pM Tryz.prog HD:=by
 refine pU C6 Tryz.func162 (c:=_) rfl (N:=51) (by kernel_rfl) (ts:=[(2,none)]) rfl (fun _ _=>rfl) ?_
 intro O hs hrow
 dsimp only[ZG,ZH,ZI,pP,enumH,pG,pL,pR,Nat.reduceAdd] at hs hrow⊢
 have hz:=hs
 obtain⟨z0,hC0⟩:=Option.isSome_iff_exists.1 hz
 try rw[q7 hC0]
 clear hz hs
 unfold AA at hC0
 refine p4 C6 ?_
 refine pC ?_
 refine p4 C6 ?_
 refine q8 ?_
 obtain⟨y1,hy1,hC0⟩:=tE hC0
 refine rN 0 (fun s=> ∃v,y1= .inl v∧s=(fun _=>⟨[(0,(.val .str O,none))],[],0,51,0⟩) v) ?_ ?_
 ·refine rM hy1 (fun x=>⟨[(0,(.val .str O,none)),(7,(.val .ref (some (0,0)),none))],[(0,.iter O x)],1,51,0⟩) ⟨[0,7],[(0,64)]⟩ (by rfl) ?_
  intro Z w1 n1 hC1 hN1
  unfold JS at hC1
  dsimp only at hC1⊢
  refine p4 C6 ?_
  refine pC ?_
  refine pB hC1 (fun hC1 hc1=> ?_) (fun hC1 hc1=> ?_)
  ·refine pJ (p9 (q8 ?_))
   obtain⟨hg1,hC1⟩:=p6 hC1
   obtain⟨hg2,hC1⟩:=p6 hC1
   refine p4 C6 ?_ (hp:=by exact And.intro hg1 (hg2))
   refine p4 C6 ?_ (hp:=by exact And.intro (fun hh=>hh) ((fun hh=>qH hh)))
   refine q8 ?_
   refine p4 C6 ?_
   refine pB hC1 (fun hC1 hc2=> ?_) (fun hC1 hc2=> ?_)
   ·refine pJ (pY (pY ?_))
    cases hC1
    exact qU ⟨⟨[0,7],[(0,0)]⟩,_,by rfl,hN1⟩
   ·refine p4 C6 ?_ (hp:=by exact And.intro (fun hh=>hh) (And.intro (fun hh=>hh) (And.intro (fun hh=>hh) (And.intro (fun hh=>hh) (And.intro (fun hG hh=>C0 hG hh) (And.intro (fun hh=>hh) (And.intro (fun hh=>hh) (And.intro (fun hh=>hh) (And.intro (fun hG hh=>C1 hG hh) (And.intro (fun hh=>hh) (And.intro (fun hh=>hh) (And.intro (fun hh=>hh) (And.intro (fun hG hh=>C1 hG hh) (And.intro (fun hh=>hh) (And.intro (fun hh=>hh) (And.intro (fun hh=>hh) (And.intro (fun hG hh=>C1 hG hh) ((fun hh=>qH hh)))))))))))))))))))
    refine pB hC1 (fun hC1 hc3=> ?_) (fun hC1 hc3=> ?_)
    ·refine pJ (pY (pY ?_))
     cases hC1
     exact qU ⟨⟨[0,7],[(0,0)]⟩,_,by rfl,hN1⟩
    ·refine p4 C6 ?_
     refine p8 (qC (qC (tD (tC (qC (pZ ?_))))))
     cases hC1
     cases hN1
     dsimp only at hC0
     cases hC0
     exact⟨[],by rfl,by rfl,by rfl⟩
  ·refine rE (rJ (rG ?_))
   cases hC1
   cases hN1
   exact rF ⟨⟨[0],[]⟩,_,rfl,by rfl⟩
 ·rintro _ ⟨v,rfl,rfl⟩
  dsimp only at hC0⊢
  refine rL (p9 ?_)
  refine p4 C6 ?_ (hp:=by exact And.intro (fun hh=>hh) (And.intro (fun hh=>hh) ((fun hh=>qH hh))))
  refine p8 ?_
  cases hC0
  exact⟨[],by rfl,by rfl,by rfl⟩
attribute [irreducible] AA
def MR (O:(List (List UInt8))):Int→Option (Int⊕(Unit⊕Bool)):=fun Z=>
 if (decide (Z<(List.length O:Int)))=true then
  if 0≤Z∧Z<(List.length O:Int) then
   (AA (pI .str O Z)).bind fun aA=>
   if ((((!aA)==false)&&((decide ((0:Int)<Z))==true))=true→p5 (Z- (1:Int))) then
    if ((((!aA)==false)&&((decide ((0:Int)<Z))==true))=true→0≤(Z- (1:Int))∧(Z- (1:Int))<(List.length O:Int)) then
     if ((!aA)||((decide ((0:Int)<Z))&&(!Op.bytesLess (pI .str O (Z- (1:Int))) (pI .str O Z))))=true then
      some (.inr (.inr (false)))
     else
      if p5 (Z+(1:Int)) then
       some (.inl (Z+(1:Int)))
      else none
    else none
   else none
  else none
 else
  some (.inr (.inl ()))
def DJ (O:(List (List UInt8))):Option Bool:=
 qW (pQ (MR O) (0:Int)) fun _=>
 some ((decide ((List.length O:Int)≤(20:Int))))
section
variable (O:(List (List UInt8)))
@[reducible] def ZJ:List Slot:=[(.val (.list .str) O,none)]
@[reducible] def ZK:List Blk:=[]
@[go_sem] def ZL:Ret:=⟨[((DJ O)).isSome=true],[(.val .bool (val (DJ O)),none)],[]⟩
def aBS:List Slot→List Blk→Option Ret:=pS (V:=(List (List UInt8))) (fun x=>ZJ x) (fun x=>ZK) fun x=>ZL x
@[go_sem] theorem aPK:aBS (no_index (ZJ O)) (no_index ZK)=some (ZL O):=pT (fun a0 b0 h1 h2=>by cases h1;cases h2;rfl) O
end
@[reducible,go_sem] def aBT:Nat×Sig:=(163,⟨[.v],aBS,[],[],none⟩)
theorem DK:Env Tryz.prog [qE,sK] (pK [HD]):=⟨⟨qG,⟨sU,trivial⟩⟩,pA RW pV,pN⟩
theorem aKP:pM Tryz.prog aBT:=by
 refine pU DK Tryz.func163 (c:=_) rfl (N:=32) (by kernel_rfl) (ts:=[(2,none)]) rfl (fun _ _=>rfl) ?_
 intro O hs hrow
 dsimp only[ZJ,ZK,ZL,pP,enumH,pG,pL,pR,Nat.reduceAdd] at hs hrow⊢
 have hz:=hs
 obtain⟨z0,hC0⟩:=Option.isSome_iff_exists.1 hz
 try rw[q7 hC0]
 clear hz hs
 unfold DJ at hC0
 refine p4 DK ?_
 refine pC ?_
 refine p4 DK ?_
 refine q8 ?_
 obtain⟨y1,hy1,hC0⟩:=tE hC0
 refine rN 0 (fun s=> ∃v,y1= .inl v∧s=(fun _=>⟨[(0,(.val (.list .str) O,none))],[],0,32,0⟩) v) ?_ ?_
 ·refine rM hy1 (fun x=>⟨[(0,(.val (.list .str) O,none)),(5,(.val (.list .str) O,none)),(6,(.val (.int .i64) (List.length O:Int),none)),(7,(.val (.int .i64) x,none))],[],0,32,0⟩) ⟨[0,5,6,7],[]⟩ (by rfl) ?_
  intro Z w1 n1 hC1 hN1
  unfold MR at hC1
  dsimp only at hC1⊢
  refine p4 DK ?_
  refine pC ?_
  refine pB hC1 (fun hC1 hc1=> ?_) (fun hC1 hc1=> ?_)
  ·refine pJ (p9 (pC (q8 ?_)))
   obtain⟨hg1,hC1⟩:=p6 hC1
   refine p4 DK ?_ (hp:=by exact hg1)
   obtain⟨aA,hv2,hw2,hC1⟩:=pE hC1
   try simp only[go_sem] at hw2
   obtain⟨hg3,hC1⟩:=p6 hC1
   obtain⟨hg4,hC1⟩:=p6 hC1
   refine p4 DK ?_ (hp:=by exact And.intro (pD hv2) (And.intro (fun hh=>hh) (And.intro (fun hh=>hh) (And.intro (fun hh=>hh) (And.intro hg3 (And.intro (fun hh=>hh) (And.intro (fun hh=>hh) (And.intro hg4 (And.intro (fun hh=>hh) (And.intro (fun hh=>hh) (And.intro (fun hh=>hh) (And.intro (fun hh=>hh) (And.intro (fun hG hh=>C0 hG hh) ((fun hh=>rW hh))))))))))))))) (h:=by simp only[go_sem,hw2];rfl)
   refine pB hC1 (fun hC1 hc2=> ?_) (fun hC1 hc2=> ?_)
   ·refine p4 DK ?_
    refine p8 (qC (pZ (tD (tC (qC (pZ ?_))))))
    cases hC1
    cases hN1
    dsimp only at hC0
    cases hC0
    exact⟨[],by rfl,by rfl,by rfl⟩
   ·refine pJ (pY (p9 ?_))
    obtain⟨hg5,hC1⟩:=p6 hC1
    refine pW DK ?_ (hp:=by exact hg5)
    cases hC1
    exact qU ⟨⟨[0,5,6,7],[]⟩,_,by rfl,hN1⟩
  ·refine rE (rJ (rG ?_))
   cases hC1
   cases hN1
   exact rF ⟨⟨[0],[]⟩,_,rfl,by rfl⟩
 ·rintro _ ⟨v,rfl,rfl⟩
  dsimp only at hC0⊢
  refine rL (p9 ?_)
  refine p4 DK ?_
  refine p8 ?_
  cases hC0
  exact⟨[],by rfl,by rfl,by rfl⟩
attribute [irreducible] DJ
def aBU (O:Int):Unit:=
 ()
section
variable (O:Int)
@[reducible] def ZM:List Slot:=[(.val (.int .u8) O,none)]
@[reducible] def ZN:List Blk:=[]
@[go_sem] def ZO:Ret:=⟨[],[(.val .bool ((decide ((97:Int)≤O))&&(decide (O≤(122:Int)))),none)],[]⟩
def aBV:List Slot→List Blk→Option Ret:=pS (V:=Int) (fun x=>ZM x) (fun x=>ZN) fun x=>ZO x
@[go_sem] theorem aPL:aBV (no_index (ZM O)) (no_index ZN)=some (ZO O):=pT (fun a0 b0 h1 h2=>by cases h1;cases h2;rfl) O
end
@[reducible,go_sem] def ZP:Nat×Sig:=(169,⟨[.v],aBV,[],[],none⟩)
theorem ZQ:Env Tryz.prog [] (pK []):=⟨trivial,pV,pN⟩
theorem aBW:pM Tryz.prog ZP:=by
 refine pU ZQ Tryz.func169 (c:=_) rfl (N:=9) (by kernel_rfl) (ts:=[(2,none)]) rfl (fun _ _=>rfl) ?_
 intro O hs hrow
 dsimp only[ZM,ZN,ZO,pP,enumH,pG,pL,pR,Nat.reduceAdd] at hs hrow⊢
 obtain⟨z0,hC0⟩: ∃z,(aBU O)=z:=⟨_,rfl⟩
 try rw[hC0]
 unfold aBU at hC0
 refine p4 ZQ ?_
 refine p4 ZQ ?_ (hp:=by exact And.intro (fun hh=>hh) ((fun hh=>qH hh)))
 refine p8 ?_
 cases hC0
 exact⟨[],by rfl,by rfl,by rfl⟩
end
end Go.Proofs.YtbbpilohihldiaaGreatDoor
namespace Go.Proofs.YtbbpilohihldiaaGreatDoor
open Vc
set_option maxRecDepth 100000
set_option maxHeartbeats 4000000
set_option linter.unusedSimpArgs false
set_option linter.unusedVariables false
noncomputable section
def aBX (O:Int):Unit:=
 ()
section
variable (O:Int)
@[reducible] def ZR:List Slot:=[(.val (.int .u8) O,none)]
@[reducible] def ZS:List Blk:=[]
@[go_sem] def ZT:Ret:=⟨[],[(.val .bool ((decide ((48:Int)≤O))&&(decide (O≤(57:Int)))),none)],[]⟩
def aBY:List Slot→List Blk→Option Ret:=pS (V:=Int) (fun x=>ZR x) (fun x=>ZS) fun x=>ZT x
@[go_sem] theorem aPM:aBY (no_index (ZR O)) (no_index ZS)=some (ZT O):=pT (fun a0 b0 h1 h2=>by cases h1;cases h2;rfl) O
end
@[reducible,go_sem] def ZU:Nat×Sig:=(170,⟨[.v],aBY,[],[],none⟩)
theorem ZV:Env Tryz.prog [] (pK []):=⟨trivial,pV,pN⟩
theorem aBZ:pM Tryz.prog ZU:=by
 refine pU ZV Tryz.func170 (c:=_) rfl (N:=9) (by kernel_rfl) (ts:=[(2,none)]) rfl (fun _ _=>rfl) ?_
 intro O hs hrow
 dsimp only[ZR,ZS,ZT,pP,enumH,pG,pL,pR,Nat.reduceAdd] at hs hrow⊢
 obtain⟨z0,hC0⟩: ∃z,(aBX O)=z:=⟨_,rfl⟩
 try rw[hC0]
 unfold aBX at hC0
 refine p4 ZV ?_
 refine p4 ZV ?_ (hp:=by exact And.intro (fun hh=>hh) ((fun hh=>qH hh)))
 refine p8 ?_
 cases hC0
 exact⟨[],by rfl,by rfl,by rfl⟩
def aB0 (O:((List UInt8)×(Int×Unit))) (Z:qM) (aA:Int) (aB:Int) (aC:q9) (aD:((List Int)×(Int×Unit))) (aE:Int) (aF:(List UInt8)) (aG:(List ((List UInt8)×Bool))):Unit:=
 ()
section
variable (O:Int) (Z:(List UInt8)) (aA:((List UInt8)×(Int×Unit))) (aB:qM) (aC:Int) (aD:Int) (aE:q9) (aF:((List Int)×(Int×Unit))) (aG:Nat) (aH:Nat) (aI:(List ((List UInt8)×Bool)))
@[reducible] def ZW:List Slot:=[(.val .ref (some (0,0)),none),(.val (.int .i64) O,none),(.val .str Z,none)]
@[reducible] def ZX:List Blk:=[.cells qI (aA,(aB,(aC,(aD,(aE,((some 3),aF)))))) [(11,1),(13,2)],.grow 55 7 aG,.grow 3 1 aH,.map .str .bool aI]
@[go_sem] def ZY:Ret:=⟨[aG=(List.length aE.2.2.2.1),aH=(List.length aF.1)],[(.val .bool (((decide (aD=(0:Int)))&&(decide (aB.1=O)))&&(decide (aB.2.1=Z))),none)],[.cells qI ((aA.1,(aA.2.1,())),((aB.1,(aB.2.1,(aB.2.2.1,(aB.2.2.2.1,())))),(aC,(aD,((aE.1,(aE.2.1,(aE.2.2.1,(aE.2.2.2.1,())))),((some 3),(aF.1,(aF.2.1,())))))))) [(11,1),(13,2)],.grow 55 7 (List.length aE.2.2.2.1),.grow 3 1 (List.length aF.1),.map .str .bool aI]⟩
def aB1:List Slot→List Blk→Option Ret:=pS (V:=(Int×(List UInt8)×((List UInt8)×(Int×Unit))×qM×Int×Int×q9×((List Int)×(Int×Unit))×Nat×Nat×(List ((List UInt8)×Bool)))) (fun x=>ZW x.1 x.2.1) (fun x=>ZX x.2.2.1 x.2.2.2.1 x.2.2.2.2.1 x.2.2.2.2.2.1 x.2.2.2.2.2.2.1 x.2.2.2.2.2.2.2.1 x.2.2.2.2.2.2.2.2.1 x.2.2.2.2.2.2.2.2.2.1 x.2.2.2.2.2.2.2.2.2.2) fun x=>ZY x.1 x.2.1 x.2.2.1 x.2.2.2.1 x.2.2.2.2.1 x.2.2.2.2.2.1 x.2.2.2.2.2.2.1 x.2.2.2.2.2.2.2.1 x.2.2.2.2.2.2.2.2.1 x.2.2.2.2.2.2.2.2.2.1 x.2.2.2.2.2.2.2.2.2.2
@[go_sem] theorem aPN:aB1 (no_index (ZW O Z)) (no_index (ZX aA aB aC aD aE aF aG aH aI))=some (ZY O Z aA aB aC aD aE aF aG aH aI):=pT (fun⟨a0,a1,a2,a3,a4,a5,a6,a7,a8,a9,a10⟩ ⟨b0,b1,b2,b3,b4,b5,b6,b7,b8,b9,b10⟩ h1 h2=>by cases h1;cases h2;rfl) (O,Z,aA,aB,aC,aD,aE,aF,aG,aH,aI)
end
@[reducible,go_sem] def aB2:Nat×Sig:=(176,⟨[.p qI [11,13],.v,.v],aB1,[(0,12,.m)],[0,1,2,3],none⟩)
theorem ZZ:Env Tryz.prog [sZ,qE,F4,xE,vR] (pK []):=⟨⟨tJ,⟨qG,⟨JM,⟨yT,⟨xD,trivial⟩⟩⟩⟩⟩,pV,pN⟩
theorem aKQ:pM Tryz.prog aB2:=by
 refine pU ZZ Tryz.func176 (c:=_) rfl (N:=30) (by kernel_rfl) (ts:=[(6,none)]) rfl (fun _ _=>rfl) ?_
 intro⟨O,Z,aA,aB,aC,aD,aE,aF,aG,aH,aI⟩ hs hrow
 dsimp only[ZW,ZX,ZY,pP,enumH,pG,pL,pR,Nat.reduceAdd] at hs hrow⊢
 obtain⟨rfl,rfl⟩:=hs
 obtain⟨z0,hC0⟩: ∃z,(aB0 aA aB aC aD aE aF O Z aI)=z:=⟨_,rfl⟩
 try rw[hC0]
 unfold aB0 at hC0
 refine p4 ZZ ?_
 refine p4 ZZ ?_ (hp:=by exact And.intro (fun hh=>hh) (And.intro (fun hh=>hh) (And.intro (fun hh=>hh) (And.intro (fun hh=>hh) (And.intro (fun hh=>hh) (And.intro (fun hh=>hh) (And.intro (fun hh=>qH hh) (And.intro (fun hh=>hh) (And.intro (fun hh=>hh) (And.intro (fun hh=>hh) (And.intro (fun hh=>hh) (And.intro (fun hh=>hh) (And.intro (fun hh=>hh) ((fun hh=>qH hh)))))))))))))))
 refine p8 ?_
 cases hC0
 exact⟨[(0,0),(1,1),(2,2),(3,3)],by rfl,by rfl,by rfl⟩
def sM (O:((List UInt8)×(Int×Unit))) (Z:qM) (aA:Int) (aB:Int) (aC:q9) (aD:((List Int)×(Int×Unit))) (aE:Int) (aF:(List ((List UInt8)×Bool))):(Int×Int):=
 if (decide (aB=(0:Int)))=true then
  (Z.2.2.1,aE)
 else
  (aA,aB)
section
variable (O:Int) (Z:((List UInt8)×(Int×Unit))) (aA:qM) (aB:Int) (aC:Int) (aD:q9) (aE:((List Int)×(Int×Unit))) (aF:Nat) (aG:Nat) (aH:(List ((List UInt8)×Bool)))
@[reducible] def a0a:List Slot:=[(.val .ref (some (0,0)),none),(.val (.int .i64) O,none)]
@[reducible] def a0b:List Blk:=[.cells qI (Z,(aA,(aB,(aC,(aD,((some 3),aE)))))) [(11,1),(13,2)],.grow 55 7 aF,.grow 3 1 aG,.map .str .bool aH]
@[go_sem] def a0c:Ret:=⟨[aF=(List.length aD.2.2.2.1),aG=(List.length aE.1)],[],[.cells qI ((Z.1,(Z.2.1,())),((aA.1,(aA.2.1,(aA.2.2.1,(aA.2.2.2.1,())))),((sM Z aA aB aC aD aE O aH).1,((sM Z aA aB aC aD aE O aH).2,((aD.1,(aD.2.1,(aD.2.2.1,(aD.2.2.2.1,())))),((some 3),(aE.1,(aE.2.1,())))))))) [(11,1),(13,2)],.grow 55 7 (List.length aD.2.2.2.1),.grow 3 1 (List.length aE.1),.map .str .bool aH]⟩
def aB3:List Slot→List Blk→Option Ret:=pS (V:=(Int×((List UInt8)×(Int×Unit))×qM×Int×Int×q9×((List Int)×(Int×Unit))×Nat×Nat×(List ((List UInt8)×Bool)))) (fun x=>a0a x.1) (fun x=>a0b x.2.1 x.2.2.1 x.2.2.2.1 x.2.2.2.2.1 x.2.2.2.2.2.1 x.2.2.2.2.2.2.1 x.2.2.2.2.2.2.2.1 x.2.2.2.2.2.2.2.2.1 x.2.2.2.2.2.2.2.2.2) fun x=>a0c x.1 x.2.1 x.2.2.1 x.2.2.2.1 x.2.2.2.2.1 x.2.2.2.2.2.1 x.2.2.2.2.2.2.1 x.2.2.2.2.2.2.2.1 x.2.2.2.2.2.2.2.2.1 x.2.2.2.2.2.2.2.2.2
@[go_sem] theorem aPO:aB3 (no_index (a0a O)) (no_index (a0b Z aA aB aC aD aE aF aG aH))=some (a0c O Z aA aB aC aD aE aF aG aH):=pT (fun⟨a0,a1,a2,a3,a4,a5,a6,a7,a8,a9⟩ ⟨b0,b1,b2,b3,b4,b5,b6,b7,b8,b9⟩ h1 h2=>by cases h1;cases h2;rfl) (O,Z,aA,aB,aC,aD,aE,aF,aG,aH)
end
@[reducible,go_sem] def xF:Nat×Sig:=(177,⟨[.p qI [11,13],.v],aB3,[(0,12,.m)],[1,2,3],none⟩)
theorem a0d:Env Tryz.prog [sZ,F4,xE,vR] (pK []):=⟨⟨tJ,⟨JM,⟨yT,⟨xD,trivial⟩⟩⟩⟩,pV,pN⟩
theorem C7:pM Tryz.prog xF:=by
 refine pU a0d Tryz.func177 (c:=_) rfl (N:=21) (by kernel_rfl) (ts:=[]) rfl (fun _ _=>rfl) ?_
 intro⟨O,Z,aA,aB,aC,aD,aE,aF,aG,aH⟩ hs hrow
 dsimp only[a0a,a0b,a0c,pP,enumH,pG,pL,pR,Nat.reduceAdd] at hs hrow⊢
 obtain⟨rfl,rfl⟩:=hs
 obtain⟨z0,hC0⟩: ∃z,(sM Z aA aB aC aD aE O aH)=z:=⟨_,rfl⟩
 try rw[hC0]
 unfold sM at hC0
 refine p4 a0d ?_
 refine pB hC0 (fun hC0 hc1=> ?_) (fun hC0 hc1=> ?_)
 ·refine pW a0d ?_
  cases hC0
  exact⟨[(0,0),(1,1),(2,2),(3,3)],by rfl,by rfl,by rfl⟩
 ·refine pJ ?_
  cases hC0
  exact⟨[(0,0),(1,1),(2,2),(3,3)],by rfl,by rfl,by rfl⟩
def uZ (O:(List UInt8)) (Z:(List UInt8)) (aA:(List UInt8)) (aB:(List (List UInt8))) (aC:(Int×((List pO)×Unit))) (aD:Bool) (aE:(List (List UInt8))) (aF:(List ((List UInt8)×Bool))):(List ((List UInt8)×(Option Nat))):=
 if aD=true then
  (rR .str .fn ([102,108,97,103]:List UInt8) (some 218) (rR .str .fn ([115,116,97,116,101]:List UInt8) (some 217) (rR .str .fn ([116,97,114,103,101,116]:List UInt8) (some 216) (rR .str .fn ([115,111,117,114,99,101]:List UInt8) (some 215) (rR .str .fn ([102,105,101,108,100]:List UInt8) (some 214) (rR .str .fn ([99,111,109,109,101,110,116]:List UInt8) (some 213) ([]:List ((List UInt8)×(Option Nat)))))))))
 else
  (rR .str .fn ([102,105,101,108,100]:List UInt8) (some 214) (rR .str .fn ([99,111,109,109,101,110,116]:List UInt8) (some 213) ([]:List ((List UInt8)×(Option Nat)))))
section
variable (O:(List UInt8)) (Z:(List UInt8)) (aA:(List UInt8)) (aB:(List (List UInt8))) (aC:Nat) (aD:(Int×((List pO)×Unit))) (aE:Bool) (aF:Nat) (aG:Nat) (aH:(List (List UInt8))) (aI:Nat) (aJ:(List ((List UInt8)×Bool)))
@[reducible] def a0e:List Slot:=[(.val .ref (some (0,0)),none)]
@[reducible] def a0f:List Blk:=[.cells rS ((O,(Z,(aA,(aB,((some (3,aC)),aD))))),(aE,((some 4),()))) [(3,1),(6,2)],.grow 9 1 aF,.grow 149 2 aG,.row 9 .str aH aI,.map .str .bool aJ]
@[go_sem] def a0g:Ret:=⟨[aF=(List.length aB),aG=(List.length aD.2.1),aC=aI],[(.val .mp (some 5),none)],[.cells rS ((O,(Z,(aA,(aB,((some (3,(List.length aH))),(aD.1,(aD.2.1,()))))))),(aE,((some 4),()))) [(3,1),(6,2)],.grow 9 1 (List.length aB),.grow 149 2 (List.length aD.2.1),.row 9 .str aH (List.length aH),.map .str .bool aJ,.map .str .fn (uZ O Z aA aB aD aE aH aJ)]⟩
def aB4:List Slot→List Blk→Option Ret:=pS (V:=((List UInt8)×(List UInt8)×(List UInt8)×(List (List UInt8))×Nat×(Int×((List pO)×Unit))×Bool×Nat×Nat×(List (List UInt8))×Nat×(List ((List UInt8)×Bool)))) (fun x=>a0e) (fun x=>a0f x.1 x.2.1 x.2.2.1 x.2.2.2.1 x.2.2.2.2.1 x.2.2.2.2.2.1 x.2.2.2.2.2.2.1 x.2.2.2.2.2.2.2.1 x.2.2.2.2.2.2.2.2.1 x.2.2.2.2.2.2.2.2.2.1 x.2.2.2.2.2.2.2.2.2.2.1 x.2.2.2.2.2.2.2.2.2.2.2) fun x=>a0g x.1 x.2.1 x.2.2.1 x.2.2.2.1 x.2.2.2.2.1 x.2.2.2.2.2.1 x.2.2.2.2.2.2.1 x.2.2.2.2.2.2.2.1 x.2.2.2.2.2.2.2.2.1 x.2.2.2.2.2.2.2.2.2.1 x.2.2.2.2.2.2.2.2.2.2.1 x.2.2.2.2.2.2.2.2.2.2.2
@[go_sem] theorem aPP:aB4 (no_index a0e) (no_index (a0f O Z aA aB aC aD aE aF aG aH aI aJ))=some (a0g O Z aA aB aC aD aE aF aG aH aI aJ):=pT (fun⟨a0,a1,a2,a3,a4,a5,a6,a7,a8,a9,a10,a11⟩ ⟨b0,b1,b2,b3,b4,b5,b6,b7,b8,b9,b10,b11⟩ h1 h2=>by cases h1;cases h2;rfl) (O,Z,aA,aB,aC,aD,aE,aF,aG,aH,aI,aJ)
end
@[reducible,go_sem] def a0h:Nat×Sig:=(179,⟨[.p rS [3,6]],aB4,[(0,4,.r),(0,8,.m)],[0,1,2,3,4],none⟩)
theorem aB5:Env Tryz.prog [] (pK []):=⟨trivial,pV,pN⟩
theorem JT:Env Tryz.prog [C5,qE,zP,RG,RH] (pK []):=⟨⟨F2,⟨qG,⟨B2,⟨aA0,⟨aA1,trivial⟩⟩⟩⟩⟩,aB5.Γ,pN⟩
theorem aKR:pM Tryz.prog a0h:=by
 refine pU aB5 Tryz.func179 (c:=_) rfl (N:=15) (by kernel_rfl) (ts:=[(2,none)]) rfl (fun _ _=>rfl) ?_
 intro⟨O,Z,aA,aB,aC,aD,aE,aF,aG,aH,aI,aJ⟩ hs hrow
 dsimp only[a0e,a0f,a0g,pP,enumH,pG,pL,pR,Nat.reduceAdd] at hs hrow⊢
 obtain⟨rfl,rfl,rfl⟩:=hs
 obtain⟨rfl,_⟩:=hrow
 obtain⟨z0,hC0⟩: ∃z,(uZ O Z aA aB aD aE aH aJ)=z:=⟨_,rfl⟩
 try rw[hC0]
 unfold uZ at hC0
 refine p4 JT ?_
 refine p4 JT ?_
 refine pC ?_
 refine p4 JT ?_
 refine pB hC0 (fun hC0 hc1=> ?_) (fun hC0 hc1=> ?_)
 ·refine pW JT ?_
  refine p9 ?_
  refine p4 JT ?_
  refine p8 ?_
  cases hC0
  exact⟨[(0,0),(1,1),(2,2),(3,3),(4,4),(5,37)],by rfl,by rfl,by rfl⟩
 ·refine pJ (p9 ?_)
  refine p4 JT ?_
  refine p8 ?_
  cases hC0
  exact⟨[(0,0),(1,1),(2,2),(3,3),(4,4),(5,37)],by rfl,by rfl,by rfl⟩
def JU (O:(List UInt8)) (Z:(List UInt8)):Option Unit:=
 if (((decide ((List.length Z:Int)≤(List.length O:Int)))==true)=true→0≤(0:Int)∧(0:Int)≤(List.length Z:Int)∧(List.length Z:Int)≤(List.length O:Int)) then
  some (())
 else none
section
variable (O:(List UInt8)) (Z:(List UInt8))
@[reducible] def a0i:List Slot:=[(.val .str O,none),(.val .str Z,none)]
@[reducible] def a0j:List Blk:=[]
@[go_sem] def a0k:Ret:=⟨[((JU O Z)).isSome=true],[(.val .bool ((decide ((List.length Z:Int)≤(List.length O:Int)))&&(decide ((pH O (0:Int) (List.length Z:Int))=Z))),none)],[]⟩
def aB6:List Slot→List Blk→Option Ret:=pS (V:=((List UInt8)×(List UInt8))) (fun x=>a0i x.1 x.2) (fun x=>a0j) fun x=>a0k x.1 x.2
@[go_sem] theorem aPQ:aB6 (no_index (a0i O Z)) (no_index a0j)=some (a0k O Z):=pT (fun⟨a0,a1⟩ ⟨b0,b1⟩ h1 h2=>by cases h1;cases h2;rfl) (O,Z)
end
@[reducible,go_sem] def a0l:Nat×Sig:=(183,⟨[.v,.v],aB6,[],[],none⟩)
theorem a0m:Env Tryz.prog [qE] (pK []):=⟨⟨qG,trivial⟩,pV,pN⟩
theorem aB7:pM Tryz.prog a0l:=by
 refine pU a0m Tryz.func183 (c:=_) rfl (N:=18) (by kernel_rfl) (ts:=[(4,none)]) rfl (fun _ _=>rfl) ?_
 intro⟨O,Z⟩ hs hrow
 dsimp only[a0i,a0j,a0k,pP,enumH,pG,pL,pR,Nat.reduceAdd] at hs hrow⊢
 have hz:=hs
 obtain⟨z0,hC0⟩:=Option.isSome_iff_exists.1 hz
 try rw[q7 hC0]
 clear hz hs
 unfold JU at hC0
 refine p4 a0m ?_
 obtain⟨hg1,hC0⟩:=p6 hC0
 refine p4 a0m ?_ (hp:=by exact And.intro (fun hh=>hh) (And.intro (fun hh=>hh) (And.intro (fun hh=>hh) (And.intro hg1 (And.intro (fun hh=>hh) (And.intro (fun hh=>hh) ((fun hh=>qH hh))))))))
 refine p8 ?_
 cases hC0
 exact⟨[],by rfl,by rfl,by rfl⟩
attribute [irreducible] JU
def JV (O:(List UInt8)) (Z:(List UInt8)):Option ((List UInt8)×Bool):=
 (JU O Z).bind fun aA=>
 if (!((decide ((List.length Z:Int)≤(List.length O:Int)))&&(decide ((pH O (0:Int) (List.length Z:Int))=Z))))=true then
  some ((O,false))
 else
  if 0≤(List.length Z:Int)∧(List.length Z:Int)≤(List.length O:Int)∧(List.length O:Int)≤(List.length O:Int) then
   some (((pH O (List.length Z:Int) (List.length O:Int)),true))
  else none
section
variable (O:(List UInt8)) (Z:(List UInt8))
@[reducible] def a0n:List Slot:=[(.val .str O,none),(.val .str Z,none)]
@[reducible] def a0o:List Blk:=[]
@[go_sem] def a0p:Ret:=⟨[((JV O Z)).isSome=true],[(.val .str ((val (JV O Z)).1),none),(.val .bool ((val (JV O Z)).2),none)],[]⟩
def aB8:List Slot→List Blk→Option Ret:=pS (V:=((List UInt8)×(List UInt8))) (fun x=>a0n x.1 x.2) (fun x=>a0o) fun x=>a0p x.1 x.2
@[go_sem] theorem aPR:aB8 (no_index (a0n O Z)) (no_index a0o)=some (a0p O Z):=pT (fun⟨a0,a1⟩ ⟨b0,b1⟩ h1 h2=>by cases h1;cases h2;rfl) (O,Z)
end
@[reducible,go_sem] def aB9:Nat×Sig:=(184,⟨[.v,.v],aB8,[],[],none⟩)
theorem MS:Env Tryz.prog [qE] (pK [a0l]):=⟨⟨qG,trivial⟩,pA aB7 pV,pN⟩
theorem aKS:pM Tryz.prog aB9:=by
 refine pU MS Tryz.func184 (c:=_) rfl (N:=15) (by kernel_rfl) (ts:=[(4,none),(5,none)]) rfl (fun _ _=>rfl) ?_
 intro⟨O,Z⟩ hs hrow
 dsimp only[a0n,a0o,a0p,pP,enumH,pG,pL,pR,Nat.reduceAdd] at hs hrow⊢
 have hz:=hs
 obtain⟨z0,hC0⟩:=Option.isSome_iff_exists.1 hz
 try rw[q7 hC0]
 clear hz hs
 unfold JV at hC0
 refine p4 MS ?_
 refine pC ?_
 obtain⟨aA,hv1,hw1,hC0⟩:=pE hC0
 try simp only[go_sem] at hw1
 refine p4 MS ?_ (hp:=by exact(pD hv1)) (h:=by simp only[go_sem,hw1];rfl)
 refine pB hC0 (fun hC0 hc1=> ?_) (fun hC0 hc1=> ?_)
 ·refine p4 MS ?_
  refine p8 (pZ ?_)
  cases hC0
  exact⟨[],by rfl,by rfl,by rfl⟩
 ·refine pJ (p9 ?_)
  obtain⟨hg2,hC0⟩:=p6 hC0
  refine p4 MS ?_ (hp:=by exact hg2)
  refine p8 ?_
  cases hC0
  exact⟨[],by rfl,by rfl,by rfl⟩
attribute [irreducible] JV
end
end Go.Proofs.YtbbpilohihldiaaGreatDoor
namespace Go.Proofs.YtbbpilohihldiaaGreatDoor
open Vc
set_option maxRecDepth 100000
set_option maxHeartbeats 4000000
set_option linter.unusedSimpArgs false
set_option linter.unusedVariables false
noncomputable section
def MT (O:(List (List UInt8))) (Z:(List UInt8)):Int→Option (Int⊕(Unit⊕Int)):=fun aA=>
 if (decide (aA<(List.length O:Int)))=true then
  if 0≤aA∧aA<(List.length O:Int) then
   if (decide (Z=(pI .str O aA)))=true then
    some (.inr (.inr (aA)))
   else
    if p5 (aA+(1:Int)) then
     some (.inl (aA+(1:Int)))
    else none
  else none
 else
  some (.inr (.inl ()))
def zR (O:(List (List UInt8))) (Z:(List UInt8)):Option Int:=
 qW (pQ (MT O Z) (0:Int)) fun _=>
 some ((-1:Int))
section
variable (O:(List (List UInt8))) (Z:(List UInt8))
@[reducible] def a0q:List Slot:=[(.val (.list .str) O,none),(.val .str Z,none)]
@[reducible] def a0r:List Blk:=[]
@[go_sem] def a0s:Ret:=⟨[((zR O Z)).isSome=true],[(.val (.int .i64) (val (zR O Z)),none)],[]⟩
def aCa:List Slot→List Blk→Option Ret:=pS (V:=((List (List UInt8))×(List UInt8))) (fun x=>a0q x.1 x.2) (fun x=>a0r) fun x=>a0s x.1 x.2
@[go_sem] theorem aPS:aCa (no_index (a0q O Z)) (no_index a0r)=some (a0s O Z):=pT (fun⟨a0,a1⟩ ⟨b0,b1⟩ h1 h2=>by cases h1;cases h2;rfl) (O,Z)
end
@[reducible,go_sem] def RX:Nat×Sig:=(193,⟨[.v,.v],aCa,[],[],none⟩)
theorem DL:Env Tryz.prog [qE,sK] (pK []):=⟨⟨qG,⟨sU,trivial⟩⟩,pV,pN⟩
theorem aCb:pM Tryz.prog RX:=by
 refine pU DL Tryz.func193 (c:=_) rfl (N:=19) (by kernel_rfl) (ts:=[(4,none)]) rfl (fun _ _=>rfl) ?_
 intro⟨O,Z⟩ hs hrow
 dsimp only[a0q,a0r,a0s,pP,enumH,pG,pL,pR,Nat.reduceAdd] at hs hrow⊢
 have hz:=hs
 obtain⟨z0,hC0⟩:=Option.isSome_iff_exists.1 hz
 try rw[q7 hC0]
 clear hz hs
 unfold zR at hC0
 refine p4 DL ?_
 refine pC ?_
 refine p4 DL ?_
 refine q8 ?_
 obtain⟨y1,hy1,hC0⟩:=tE hC0
 refine rN 0 (fun s=> ∃v,y1= .inl v∧s=(fun _=>⟨[],[],0,19,0⟩) v) ?_ ?_
 ·refine rM hy1 (fun x=>⟨[(0,(.val (.list .str) O,none)),(1,(.val .str Z,none)),(7,(.val (.int .i64) (List.length O:Int),none)),(8,(.val (.int .i64) x,none))],[],0,19,0⟩) ⟨[0,1,7,8],[]⟩ (by rfl) ?_
  intro aA w1 n1 hC1 hN1
  unfold MT at hC1
  dsimp only at hC1⊢
  refine p4 DL ?_
  refine pC ?_
  refine pB hC1 (fun hC1 hc1=> ?_) (fun hC1 hc1=> ?_)
  ·refine pJ (p9 (pC (q8 ?_)))
   refine p4 DL ?_
   obtain⟨hg1,hC1⟩:=p6 hC1
   refine p4 DL ?_ (hp:=by exact hg1)
   refine pB hC1 (fun hC1 hc2=> ?_) (fun hC1 hc2=> ?_)
   ·refine p4 DL ?_
    refine p8 (qC (pZ (tD (tC (qC (pZ ?_))))))
    cases hC1
    cases hN1
    dsimp only at hC0
    cases hC0
    exact⟨[],by rfl,by rfl,by rfl⟩
   ·refine pJ (pY (p9 ?_))
    obtain⟨hg2,hC1⟩:=p6 hC1
    refine pW DL ?_ (hp:=by exact hg2)
    cases hC1
    exact qU ⟨⟨[0,1,7,8],[]⟩,_,by rfl,hN1⟩
  ·refine rE (rJ (rG ?_))
   cases hC1
   cases hN1
   exact rF ⟨⟨[],[]⟩,_,rfl,by rfl⟩
 ·rintro _ ⟨v,rfl,rfl⟩
  dsimp only at hC0⊢
  refine rL (p9 ?_)
  refine p4 DL ?_
  refine p8 ?_
  cases hC0
  exact⟨[],by rfl,by rfl,by rfl⟩
attribute [irreducible] zR
def MU (O:(List UInt8)):Option Unit:=
 if List.length O≤9223372036854775807 then
  some (())
 else none
section
variable (O:(List UInt8))
@[reducible] def a0t:List Slot:=[(.val .str O,none)]
@[reducible] def a0u:List Blk:=[]
@[go_sem] def a0v:Ret:=⟨[((MU O)).isSome=true],[(.val .bool (Lib.validD O),none)],[]⟩
def aCc:List Slot→List Blk→Option Ret:=pS (V:=(List UInt8)) (fun x=>a0t x) (fun x=>a0u) fun x=>a0v x
@[go_sem] theorem aPT:aCc (no_index (a0t O)) (no_index a0u)=some (a0v O):=pT (fun a0 b0 h1 h2=>by cases h1;cases h2;rfl) O
end
@[reducible,go_sem] def aCd:Nat×Sig:=(198,⟨[.v],aCc,[],[],none⟩)
theorem a0w:Env Tryz.prog [] (pK [aA4]):=⟨trivial,pA aKy pV,pN⟩
theorem aKT:pM Tryz.prog aCd:=by
 refine pU a0w Tryz.func198 (c:=_) rfl (N:=5) (by kernel_rfl) (ts:=[(2,none)]) rfl (fun _ _=>rfl) ?_
 intro O hs hrow
 dsimp only[a0t,a0u,a0v,pP,enumH,pG,pL,pR,Nat.reduceAdd] at hs hrow⊢
 have hz:=hs
 obtain⟨z0,hC0⟩:=Option.isSome_iff_exists.1 hz
 try rw[q7 hC0]
 clear hz hs
 unfold MU at hC0
 refine p4 a0w ?_
 obtain⟨hg1,hC0⟩:=p6 hC0
 refine p4 a0w ?_ (hp:=by exact hg1)
 refine p8 ?_
 cases hC0
 exact⟨[],by rfl,by rfl,by rfl⟩
attribute [irreducible] MU
def aCe (O:Int):Unit:=
 ()
section
variable (O:Int)
@[reducible] def a0x:List Slot:=[(.val (.int .u8) O,none)]
@[reducible] def a0y:List Blk:=[]
@[go_sem] def a0z:Ret:=⟨[],[(.val .bool ((decide (O<(32:Int)))||(decide (O=(127:Int)))),none)],[]⟩
def aCf:List Slot→List Blk→Option Ret:=pS (V:=Int) (fun x=>a0x x) (fun x=>a0y) fun x=>a0z x
@[go_sem] theorem aPU:aCf (no_index (a0x O)) (no_index a0y)=some (a0z O):=pT (fun a0 b0 h1 h2=>by cases h1;cases h2;rfl) O
end
@[reducible,go_sem] def aCg:Nat×Sig:=(199,⟨[.v],aCf,[],[],none⟩)
theorem a0A:Env Tryz.prog [] (pK []):=⟨trivial,pV,pN⟩
theorem aKU:pM Tryz.prog aCg:=by
 refine pU a0A Tryz.func199 (c:=_) rfl (N:=9) (by kernel_rfl) (ts:=[(2,none)]) rfl (fun _ _=>rfl) ?_
 intro O hs hrow
 dsimp only[a0x,a0y,a0z,pP,enumH,pG,pL,pR,Nat.reduceAdd] at hs hrow⊢
 obtain⟨z0,hC0⟩: ∃z,(aCe O)=z:=⟨_,rfl⟩
 try rw[hC0]
 unfold aCe at hC0
 refine p4 a0A ?_
 refine p4 a0A ?_ (hp:=by exact And.intro (fun hh=>hh) ((fun hh=>rW hh)))
 refine p8 ?_
 cases hC0
 exact⟨[],by rfl,by rfl,by rfl⟩
def MV (O:Int) (Z:Int):Option Unit:=
 if 0≤(IntKind.wrap .i64 O)∧(IntKind.wrap .i64 O)<256∧X9 (16:Int) then
  if p5 (Z- (List.length (uA (IntKind.wrap .i64 O) (16:Int)):Int)) then
   if 0≤(Z- (List.length (uA (IntKind.wrap .i64 O) (16:Int)):Int))∧(Z- (List.length (uA (IntKind.wrap .i64 O) (16:Int)):Int))≤140737488355328∧(List.length ([48]:List UInt8):Int)*(Z- (List.length (uA (IntKind.wrap .i64 O) (16:Int)):Int))≤140737488355328 then
    if (((HA ([48]:List UInt8) (Z- (List.length (uA (IntKind.wrap .i64 O) (16:Int)):Int)))++(uA (IntKind.wrap .i64 O) (16:Int))).length:Int)≤9223372036854775807 then
     some (())
    else none
   else none
  else none
 else none
section
variable (O:Int) (Z:Int)
@[reducible] def a0B:List Slot:=[(.val (.int .u8) O,none),(.val (.int .i64) Z,none)]
@[reducible] def a0C:List Blk:=[]
@[go_sem] def a0D:Ret:=⟨[((MV O Z)).isSome=true],[(.val .str ((HA ([48]:List UInt8) (Z- (List.length (uA (IntKind.wrap .i64 O) (16:Int)):Int)))++(uA (IntKind.wrap .i64 O) (16:Int))),none)],[]⟩
def aCh:List Slot→List Blk→Option Ret:=pS (V:=(Int×Int)) (fun x=>a0B x.1 x.2) (fun x=>a0C) fun x=>a0D x.1 x.2
@[go_sem] theorem aPV:aCh (no_index (a0B O Z)) (no_index a0C)=some (a0D O Z):=pT (fun⟨a0,a1⟩ ⟨b0,b1⟩ h1 h2=>by cases h1;cases h2;rfl) (O,Z)
end
@[reducible,go_sem] def aCi:Nat×Sig:=(201,⟨[.v,.v],aCh,[],[],none⟩)
theorem RY:Env Tryz.prog [XE,yS,qE] (pK [aA7,aA8]):=⟨⟨aKv,⟨A7,⟨qG,trivial⟩⟩⟩,pA aKB (pA aKC pV),pN⟩
theorem aKV:pM Tryz.prog aCi:=by
 refine pU RY Tryz.func201 (c:=_) rfl (N:=16) (by kernel_rfl) (ts:=[(4,none)]) rfl (fun _ _=>rfl) ?_
 intro⟨O,Z⟩ hs hrow
 dsimp only[a0B,a0C,a0D,pP,enumH,pG,pL,pR,Nat.reduceAdd] at hs hrow⊢
 have hz:=hs
 obtain⟨z0,hC0⟩:=Option.isSome_iff_exists.1 hz
 try rw[q7 hC0]
 clear hz hs
 unfold MV at hC0
 refine p4 RY ?_
 obtain⟨hg1,hC0⟩:=p6 hC0
 refine p4 RY ?_ (hp:=by exact hg1)
 obtain⟨hg2,hC0⟩:=p6 hC0
 obtain⟨hg3,hC0⟩:=p6 hC0
 obtain⟨hg4,hC0⟩:=p6 hC0
 refine p4 RY ?_ (hp:=by exact And.intro hg2 (And.intro hg3 (hg4)))
 refine p8 ?_
 cases hC0
 exact⟨[],by rfl,by rfl,by rfl⟩
attribute [irreducible] MV
def MW (O:Int) (Z:(List UInt8)):Int→Option (Int⊕(Unit⊕Bool)):=fun aA=>
 if (decide (aA<(List.length Z:Int)))=true then
  if 0≤aA∧aA<(List.length Z:Int) then
   if (decide ((pF Z aA)=O))=true then
    some (.inr (.inr (true)))
   else
    if p5 (aA+(1:Int)) then
     some (.inl (aA+(1:Int)))
    else none
  else none
 else
  some (.inr (.inl ()))
def yU (O:Int) (Z:(List UInt8)):Option Bool:=
 qW (pQ (MW O Z) (0:Int)) fun _=>
 some (false)
section
variable (O:Int) (Z:(List UInt8))
@[reducible] def a0E:List Slot:=[(.val (.int .u8) O,none),(.val .str Z,none)]
@[reducible] def a0F:List Blk:=[]
@[go_sem] def a0G:Ret:=⟨[((yU O Z)).isSome=true],[(.val .bool (val (yU O Z)),none)],[]⟩
def aCj:List Slot→List Blk→Option Ret:=pS (V:=(Int×(List UInt8))) (fun x=>a0E x.1 x.2) (fun x=>a0F) fun x=>a0G x.1 x.2
@[go_sem] theorem aPW:aCj (no_index (a0E O Z)) (no_index a0F)=some (a0G O Z):=pT (fun⟨a0,a1⟩ ⟨b0,b1⟩ h1 h2=>by cases h1;cases h2;rfl) (O,Z)
end
@[reducible,go_sem] def aCk:Nat×Sig:=(203,⟨[.v,.v],aCj,[],[],none⟩)
theorem F9:Env Tryz.prog [qE] (pK []):=⟨⟨qG,trivial⟩,pV,pN⟩
theorem aKW:pM Tryz.prog aCk:=by
 refine pU F9 Tryz.func203 (c:=_) rfl (N:=17) (by kernel_rfl) (ts:=[(4,none)]) rfl (fun _ _=>rfl) ?_
 intro⟨O,Z⟩ hs hrow
 dsimp only[a0E,a0F,a0G,pP,enumH,pG,pL,pR,Nat.reduceAdd] at hs hrow⊢
 have hz:=hs
 obtain⟨z0,hC0⟩:=Option.isSome_iff_exists.1 hz
 try rw[q7 hC0]
 clear hz hs
 unfold yU at hC0
 refine p4 F9 ?_
 refine pC ?_
 refine p4 F9 ?_
 refine q8 ?_
 obtain⟨y1,hy1,hC0⟩:=tE hC0
 refine rN 0 (fun s=> ∃v,y1= .inl v∧s=(fun _=>⟨[],[],0,17,0⟩) v) ?_ ?_
 ·refine rM hy1 (fun x=>⟨[(0,(.val (.int .u8) O,none)),(1,(.val .str Z,none)),(5,(.val (.int .i64) x,none))],[],0,17,0⟩) ⟨[0,1,5],[]⟩ (by rfl) ?_
  intro aA w1 n1 hC1 hN1
  unfold MW at hC1
  dsimp only at hC1⊢
  refine pC ?_
  refine p4 F9 ?_
  refine pB hC1 (fun hC1 hc1=> ?_) (fun hC1 hc1=> ?_)
  ·refine pJ (p9 (pC (q8 ?_)))
   obtain⟨hg1,hC1⟩:=p6 hC1
   refine p4 F9 ?_ (hp:=by exact hg1)
   refine pB hC1 (fun hC1 hc2=> ?_) (fun hC1 hc2=> ?_)
   ·refine p4 F9 ?_
    refine p8 (qC (pZ (tD (tC (qC (pZ ?_))))))
    cases hC1
    cases hN1
    dsimp only at hC0
    cases hC0
    exact⟨[],by rfl,by rfl,by rfl⟩
   ·refine pJ (pY (p9 ?_))
    obtain⟨hg2,hC1⟩:=p6 hC1
    refine pW F9 ?_ (hp:=by exact hg2)
    cases hC1
    exact qU ⟨⟨[0,1,5],[]⟩,_,by rfl,hN1⟩
  ·refine rE (rJ (rG ?_))
   cases hC1
   cases hN1
   exact rF ⟨⟨[],[]⟩,_,rfl,by rfl⟩
 ·rintro _ ⟨v,rfl,rfl⟩
  dsimp only at hC0⊢
  refine rL (p9 ?_)
  refine p4 F9 ?_
  refine p8 ?_
  cases hC0
  exact⟨[],by rfl,by rfl,by rfl⟩
attribute [irreducible] yU
def MX (O:Int):Option Unit:=
 if 0≤(IntKind.wrap .i64 (Int.tdiv O (16:Int)))∧(IntKind.wrap .i64 (Int.tdiv O (16:Int)))<(List.length ([48,49,50,51,52,53,54,55,56,57,97,98,99,100,101,102]:List UInt8):Int) then
  if 0≤(Int.tmod O (16:Int))∧(Int.tmod O (16:Int))<(List.length ([48,49,50,51,52,53,54,55,56,57,97,98,99,100,101,102]:List UInt8):Int) then
   some (())
  else none
 else none
section
variable (O:Int)
@[reducible] def a0H:List Slot:=[(.val (.int .i64) O,none)]
@[reducible] def a0I:List Blk:=[]
@[go_sem] def a0J:Ret:=⟨[((MX O)).isSome=true],[(.val .str (qY ([(pF ([48,49,50,51,52,53,54,55,56,57,97,98,99,100,101,102]:List UInt8) (IntKind.wrap .i64 (Int.tdiv O (16:Int)))),(pF ([48,49,50,51,52,53,54,55,56,57,97,98,99,100,101,102]:List UInt8) (Int.tmod O (16:Int)))]:List Int)),none)],[]⟩
def aCl:List Slot→List Blk→Option Ret:=pS (V:=Int) (fun x=>a0H x) (fun x=>a0I) fun x=>a0J x
@[go_sem] theorem aPX:aCl (no_index (a0H O)) (no_index a0I)=some (a0J O):=pT (fun a0 b0 h1 h2=>by cases h1;cases h2;rfl) O
end
@[reducible,go_sem] def aCm:Nat×Sig:=(204,⟨[.v],aCl,[],[],none⟩)
theorem a0K:Env Tryz.prog [yS,qE,zN] (pK []):=⟨⟨A7,⟨qG,⟨B0,trivial⟩⟩⟩,pV,pN⟩
theorem aKX:pM Tryz.prog aCm:=by
 refine pU a0K Tryz.func204 (c:=_) rfl (N:=11) (by kernel_rfl) (ts:=[(2,none)]) rfl (fun _ _=>rfl) ?_
 intro O hs hrow
 dsimp only[a0H,a0I,a0J,pP,enumH,pG,pL,pR,Nat.reduceAdd] at hs hrow⊢
 have hz:=hs
 obtain⟨z0,hC0⟩:=Option.isSome_iff_exists.1 hz
 try rw[q7 hC0]
 clear hz hs
 unfold MX at hC0
 refine p4 a0K ?_
 obtain⟨hg1,hC0⟩:=p6 hC0
 obtain⟨hg2,hC0⟩:=p6 hC0
 refine tV a0K ?_ (hp:=by exact And.intro (show (16:Int)≠0 from by decide) (And.intro hg1 (And.intro (show (16:Int)≠0 from by decide) (hg2))))
 refine p8 ?_
 cases hC0
 exact⟨[],by rfl,by rfl,by rfl⟩
attribute [irreducible] MX
end
end Go.Proofs.YtbbpilohihldiaaGreatDoor
namespace Go.Proofs.YtbbpilohihldiaaGreatDoor
open Vc
set_option maxRecDepth 100000
set_option maxHeartbeats 4000000
set_option linter.unusedSimpArgs false
set_option linter.unusedVariables false
noncomputable section
def aCn (O:Int):Unit:=
 ()
section
variable (O:Int)
@[reducible] def a0L:List Slot:=[(.val (.int .i64) O,none)]
@[reducible] def a0M:List Blk:=[]
@[go_sem] def a0N:Ret:=⟨[],[(.val .bool (((decide ((0:Int)≤O))&&(decide (O≤(1114111:Int))))&&((decide (O<(55296:Int)))||(decide ((57343:Int)<O)))),none)],[]⟩
def aCo:List Slot→List Blk→Option Ret:=pS (V:=Int) (fun x=>a0L x) (fun x=>a0M) fun x=>a0N x
@[go_sem] theorem aPY:aCo (no_index (a0L O)) (no_index a0M)=some (a0N O):=pT (fun a0 b0 h1 h2=>by cases h1;cases h2;rfl) O
end
@[reducible,go_sem] def a0O:Nat×Sig:=(205,⟨[.v],aCo,[],[],none⟩)
theorem a0P:Env Tryz.prog [] (pK []):=⟨trivial,pV,pN⟩
theorem aCp:pM Tryz.prog a0O:=by
 refine pU a0P Tryz.func205 (c:=_) rfl (N:=17) (by kernel_rfl) (ts:=[(2,none)]) rfl (fun _ _=>rfl) ?_
 intro O hs hrow
 dsimp only[a0L,a0M,a0N,pP,enumH,pG,pL,pR,Nat.reduceAdd] at hs hrow⊢
 obtain⟨z0,hC0⟩: ∃z,(aCn O)=z:=⟨_,rfl⟩
 try rw[hC0]
 unfold aCn at hC0
 refine p4 a0P ?_
 refine p4 a0P ?_ (hp:=by exact And.intro (fun hh=>hh) (And.intro (fun hh=>qH hh) (And.intro (fun hh=>hh) (And.intro (fun hh=>hh) (And.intro (fun hh=>hh) (And.intro (fun hh=>hh) (And.intro (fun hG hh=>C1 hG hh) ((fun hh=>qH hh)))))))))
 refine p8 ?_
 cases hC0
 exact⟨[],by rfl,by rfl,by rfl⟩
def yV (O:Int):Option (List UInt8):=
 if (decide (O<(128:Int)))=true then
  some ((qY ([(IntKind.wrap .u8 O)]:List Int)))
 else
  if (decide (O<(2048:Int)))=true then
   if p5 ((192:Int)+(IntKind.wrap .i64 (Int.tdiv O (64:Int)))) then
    if p5 ((128:Int)+(Int.tmod O (64:Int))) then
     some ((qY ([(IntKind.wrap .u8 ((192:Int)+(IntKind.wrap .i64 (Int.tdiv O (64:Int))))),(IntKind.wrap .u8 ((128:Int)+(Int.tmod O (64:Int))))]:List Int)))
    else none
   else none
  else
   if (decide (O<(65536:Int)))=true then
    if p5 ((224:Int)+(IntKind.wrap .i64 (Int.tdiv O (4096:Int)))) then
     if p5 ((128:Int)+(Int.tmod (IntKind.wrap .i64 (Int.tdiv O (64:Int))) (64:Int))) then
      if p5 ((128:Int)+(Int.tmod O (64:Int))) then
       some ((qY ([(IntKind.wrap .u8 ((224:Int)+(IntKind.wrap .i64 (Int.tdiv O (4096:Int))))),(IntKind.wrap .u8 ((128:Int)+(Int.tmod (IntKind.wrap .i64 (Int.tdiv O (64:Int))) (64:Int)))),(IntKind.wrap .u8 ((128:Int)+(Int.tmod O (64:Int))))]:List Int)))
      else none
     else none
    else none
   else
    if p5 ((240:Int)+(IntKind.wrap .i64 (Int.tdiv O (262144:Int)))) then
     if p5 ((128:Int)+(Int.tmod (IntKind.wrap .i64 (Int.tdiv O (4096:Int))) (64:Int))) then
      if p5 ((128:Int)+(Int.tmod (IntKind.wrap .i64 (Int.tdiv O (64:Int))) (64:Int))) then
       if p5 ((128:Int)+(Int.tmod O (64:Int))) then
        some ((qY ([(IntKind.wrap .u8 ((240:Int)+(IntKind.wrap .i64 (Int.tdiv O (262144:Int))))),(IntKind.wrap .u8 ((128:Int)+(Int.tmod (IntKind.wrap .i64 (Int.tdiv O (4096:Int))) (64:Int)))),(IntKind.wrap .u8 ((128:Int)+(Int.tmod (IntKind.wrap .i64 (Int.tdiv O (64:Int))) (64:Int)))),(IntKind.wrap .u8 ((128:Int)+(Int.tmod O (64:Int))))]:List Int)))
       else none
      else none
     else none
    else none
section
variable (O:Int)
@[reducible] def a0Q:List Slot:=[(.val (.int .i64) O,none)]
@[reducible] def a0R:List Blk:=[]
@[go_sem] def a0S:Ret:=⟨[((yV O)).isSome=true],[(.val .str (val (yV O)),none)],[]⟩
def aCq:List Slot→List Blk→Option Ret:=pS (V:=Int) (fun x=>a0Q x) (fun x=>a0R) fun x=>a0S x
@[go_sem] theorem aPZ:aCq (no_index (a0Q O)) (no_index a0R)=some (a0S O):=pT (fun a0 b0 h1 h2=>by cases h1;cases h2;rfl) O
end
@[reducible,go_sem] def a0T:Nat×Sig:=(206,⟨[.v],aCq,[],[],none⟩)
theorem DM:Env Tryz.prog [sZ,yS,qE,zN] (pK []):=⟨⟨tJ,⟨A7,⟨qG,⟨B0,trivial⟩⟩⟩⟩,pV,pN⟩
theorem aCr:pM Tryz.prog a0T:=by
 refine pU DM Tryz.func206 (c:=_) rfl (N:=61) (by kernel_rfl) (ts:=[(2,none)]) rfl (fun _ _=>rfl) ?_
 intro O hs hrow
 dsimp only[a0Q,a0R,a0S,pP,enumH,pG,pL,pR,Nat.reduceAdd] at hs hrow⊢
 have hz:=hs
 obtain⟨z0,hC0⟩:=Option.isSome_iff_exists.1 hz
 try rw[q7 hC0]
 clear hz hs
 unfold yV at hC0
 refine p4 DM ?_
 refine pC (q8 ?_)
 refine p4 DM ?_
 refine pB hC0 (fun hC0 hc1=> ?_) (fun hC0 hc1=> ?_)
 ·refine p4 DM ?_
  refine p8 (qC (pZ ?_))
  cases hC0
  exact⟨[],by rfl,by rfl,by rfl⟩
 ·refine p4 DM ?_
  refine pB hC0 (fun hC0 hc2=> ?_) (fun hC0 hc2=> ?_)
  ·obtain⟨hg1,hC0⟩:=p6 hC0
   obtain⟨hg2,hC0⟩:=p6 hC0
   refine p4 DM ?_ (hp:=by exact And.intro (show (64:Int)≠0 from by decide) (And.intro hg1 (And.intro (show (64:Int)≠0 from by decide) (hg2))))
   refine p8 (qC (pZ ?_))
   cases hC0
   exact⟨[],by rfl,by rfl,by rfl⟩
  ·refine p4 DM ?_
   refine pB hC0 (fun hC0 hc3=> ?_) (fun hC0 hc3=> ?_)
   ·obtain⟨hg3,hC0⟩:=p6 hC0
    obtain⟨hg4,hC0⟩:=p6 hC0
    obtain⟨hg5,hC0⟩:=p6 hC0
    refine p4 DM ?_ (hp:=by exact And.intro (show (4096:Int)≠0 from by decide) (And.intro hg3 (And.intro (show (64:Int)≠0 from by decide) (And.intro (show (64:Int)≠0 from by decide) (And.intro hg4 (And.intro (show (64:Int)≠0 from by decide) (hg5)))))))
    refine p8 (qC (pZ ?_))
    cases hC0
    exact⟨[],by rfl,by rfl,by rfl⟩
   ·refine pJ (pY (p9 ?_))
    obtain⟨hg6,hC0⟩:=p6 hC0
    obtain⟨hg7,hC0⟩:=p6 hC0
    obtain⟨hg8,hC0⟩:=p6 hC0
    obtain⟨hg9,hC0⟩:=p6 hC0
    refine p4 DM ?_ (hp:=by exact And.intro (show (262144:Int)≠0 from by decide) (And.intro hg6 (And.intro (show (4096:Int)≠0 from by decide) (And.intro (show (64:Int)≠0 from by decide) (And.intro hg7 (And.intro (show (64:Int)≠0 from by decide) (And.intro (show (64:Int)≠0 from by decide) (And.intro hg8 (And.intro (show (64:Int)≠0 from by decide) (hg9))))))))))
    refine p8 ?_
    cases hC0
    exact⟨[],by rfl,by rfl,by rfl⟩
attribute [irreducible] yV
def B4 (O:(List UInt8)) (Z:Int):(Int×Int)→Option ((Int×Int)⊕(Int⊕(Int×Int))):=fun(aA,aB)=>
 if (decide (aB<Z))=true then
  if 0≤aB∧aB<(List.length O:Int) then
   if (((decide ((pF O aB)<(128:Int)))==false)=true→0≤aB∧aB<(List.length O:Int)) then
    if ((decide ((pF O aB)<(128:Int)))||(decide ((191:Int)<(pF O aB))))=true then
     some (.inr (.inr (((65533:Int),(1:Int)))))
    else
     if p5 ((64:Int)*aA) then
      if 0≤aB∧aB<(List.length O:Int) then
       if p5 (((64:Int)*aA)+(IntKind.wrap .i64 (pF O aB))) then
        if p5 ((((64:Int)*aA)+(IntKind.wrap .i64 (pF O aB)))- (128:Int)) then
         if p5 (aB+(1:Int)) then
          some (.inl (((((64:Int)*aA)+(IntKind.wrap .i64 (pF O aB)))- (128:Int)),(aB+(1:Int))))
         else none
        else none
       else none
      else none
     else none
   else none
  else none
 else
  some (.inr (.inl aA))
def FA (O:(List UInt8)):Option (Int×Int):=
 if 0≤(0:Int)∧(0:Int)<(List.length O:Int) then
  qW (σ:=(Int×Int)) (
    if (decide ((IntKind.wrap .i64 (pF O (0:Int)))<(128:Int)))=true then
     some (.inr (((IntKind.wrap .i64 (pF O (0:Int))),(1:Int))))
    else
     if ((decide ((192:Int)≤(IntKind.wrap .i64 (pF O (0:Int)))))&&(decide ((IntKind.wrap .i64 (pF O (0:Int)))<(224:Int))))=true then
      if p5 ((IntKind.wrap .i64 (pF O (0:Int)))- (192:Int)) then
       some (.inl (((IntKind.wrap .i64 (pF O (0:Int)))- (192:Int)),(2:Int)))
      else none
     else
      if ((decide ((224:Int)≤(IntKind.wrap .i64 (pF O (0:Int)))))&&(decide ((IntKind.wrap .i64 (pF O (0:Int)))<(240:Int))))=true then
       if p5 ((IntKind.wrap .i64 (pF O (0:Int)))- (224:Int)) then
        some (.inl (((IntKind.wrap .i64 (pF O (0:Int)))- (224:Int)),(3:Int)))
       else none
      else
       if ((decide ((240:Int)≤(IntKind.wrap .i64 (pF O (0:Int)))))&&(decide ((IntKind.wrap .i64 (pF O (0:Int)))<(248:Int))))=true then
        if p5 ((IntKind.wrap .i64 (pF O (0:Int)))- (240:Int)) then
         some (.inl (((IntKind.wrap .i64 (pF O (0:Int)))- (240:Int)),(4:Int)))
        else none
       else
        some (.inr (((65533:Int),(1:Int))))
   ) fun(Z,aA)=>
  if (decide ((List.length O:Int)<aA))=true then
   some (((65533:Int),(1:Int)))
  else
   qW (pQ (B4 O aA) (Z,(1:Int))) fun aB=>
   if (((!(((decide ((0:Int)≤aB))&&(decide (aB≤(1114111:Int))))&&((decide (aB<(55296:Int)))||(decide ((57343:Int)<aB)))))==false)=true→((yV aB)).isSome=true) then
    if (((!(((decide ((0:Int)≤aB))&&(decide (aB≤(1114111:Int))))&&((decide (aB<(55296:Int)))||(decide ((57343:Int)<aB)))))==false)=true→0≤(0:Int)∧(0:Int)≤aA∧aA≤(List.length O:Int)) then
     if ((!(((decide ((0:Int)≤aB))&&(decide (aB≤(1114111:Int))))&&((decide (aB<(55296:Int)))||(decide ((57343:Int)<aB)))))||(!decide ((val (yV aB))=(pH O (0:Int) aA))))=true then
      some (((65533:Int),(1:Int)))
     else
      some ((aB,aA))
    else none
   else none
 else none
section
variable (O:(List UInt8))
@[reducible] def a0U:List Slot:=[(.val .str O,none)]
@[reducible] def a0V:List Blk:=[]
@[go_sem] def a0W:Ret:=⟨[((FA O)).isSome=true],[(.val (.int .i64) ((val (FA O)).1),none),(.val (.int .i64) ((val (FA O)).2),none)],[]⟩
def aCs:List Slot→List Blk→Option Ret:=pS (V:=(List UInt8)) (fun x=>a0U x) (fun x=>a0V) fun x=>a0W x
@[go_sem] theorem aP0:aCs (no_index (a0U O)) (no_index a0V)=some (a0W O):=pT (fun a0 b0 h1 h2=>by cases h1;cases h2;rfl) O
end
@[reducible,go_sem] def aCt:Nat×Sig:=(207,⟨[.v],aCs,[],[],none⟩)
theorem uD:Env Tryz.prog [sZ,yS,qE] (pK [a0O,a0T]):=⟨⟨tJ,⟨A7,⟨qG,trivial⟩⟩⟩,pA aCp (pA aCr pV),pN⟩
theorem aKY:pM Tryz.prog aCt:=by
 refine pU uD Tryz.func207 (c:=_) rfl (N:=81) (by kernel_rfl) (ts:=[(2,none),(3,none)]) rfl (fun _ _=>rfl) ?_
 intro O hs hrow
 dsimp only[a0U,a0V,a0W,pP,enumH,pG,pL,pR,Nat.reduceAdd] at hs hrow⊢
 have hz:=hs
 obtain⟨z0,hC0⟩:=Option.isSome_iff_exists.1 hz
 try rw[q7 hC0]
 clear hz hs
 unfold FA at hC0
 refine p4 uD ?_
 obtain⟨hg1,hC0⟩:=p6 hC0
 refine p4 uD ?_ (hp:=by exact hg1)
 refine pC ?_
 obtain⟨y1,hC1,hC0⟩:=tE hC0
 refine wH (fun s=> ∃v,y1= .inl v∧s=(fun x=>⟨[(0,(.val .str O,none)),(4,(.val (.int .i64) x.1,none)),(5,(.val (.int .i64) x.2,none))],[],0,81,0⟩) v) ?_ ?_
 ·refine q8 ?_
  refine p4 uD ?_
  refine pB hC1 (fun hC1 hc1=> ?_) (fun hC1 hc1=> ?_)
  ·refine p4 uD ?_
   refine p8 (qC (aAt (pZ ?_)))
   cases hC1
   dsimp only at hC0
   cases hC0
   exact⟨[],by rfl,by rfl,by rfl⟩
  ·refine p4 uD ?_ (hp:=by exact And.intro (fun hh=>hh) ((fun hh=>qH hh)))
   refine pB hC1 (fun hC1 hc2=> ?_) (fun hC1 hc2=> ?_)
   ·obtain⟨hg2,hC1⟩:=p6 hC1
    refine pW uD ?_ (hp:=by exact hg2)
    refine pY ?_
    cases hC1
    exact rV ⟨⟨[0,4,5],[]⟩,_,rfl,by rfl⟩
   ·refine p4 uD ?_ (hp:=by exact And.intro (fun hh=>hh) ((fun hh=>qH hh)))
    refine pB hC1 (fun hC1 hc3=> ?_) (fun hC1 hc3=> ?_)
    ·obtain⟨hg3,hC1⟩:=p6 hC1
     refine pW uD ?_ (hp:=by exact hg3)
     refine pY ?_
     cases hC1
     exact rV ⟨⟨[0,4,5],[]⟩,_,rfl,by rfl⟩
    ·refine p4 uD ?_ (hp:=by exact And.intro (fun hh=>hh) ((fun hh=>qH hh)))
     refine pB hC1 (fun hC1 hc4=> ?_) (fun hC1 hc4=> ?_)
     ·obtain⟨hg4,hC1⟩:=p6 hC1
      refine pW uD ?_ (hp:=by exact hg4)
      refine pY ?_
      cases hC1
      exact rV ⟨⟨[0,4,5],[]⟩,_,rfl,by rfl⟩
     ·refine p4 uD ?_
      refine p8 (qC (aAt (pZ ?_)))
      cases hC1
      dsimp only at hC0
      cases hC0
      exact⟨[],by rfl,by rfl,by rfl⟩
 ·rintro _ ⟨v,rfl,rfl⟩
  obtain⟨Z,aA⟩:=v
  dsimp only at hC0⊢
  refine p9 (pC ?_)
  refine p4 uD ?_
  refine pB hC0 (fun hC0 hc5=> ?_) (fun hC0 hc5=> ?_)
  ·refine p4 uD ?_
   refine p8 (pZ ?_)
   cases hC0
   exact⟨[],by rfl,by rfl,by rfl⟩
  ·refine pJ (p9 (pC ?_))
   refine p4 uD ?_
   refine q8 ?_
   obtain⟨y1,hy1,hC0⟩:=tE hC0
   refine rN 1 (fun s=> ∃v,y1= .inl v∧s=(fun x=>⟨[(0,(.val .str O,none)),(4,(.val (.int .i64) x,none)),(5,(.val (.int .i64) aA,none))],[],0,81,0⟩) v) ?_ ?_
   ·refine rM hy1 (fun x=>⟨[(0,(.val .str O,none)),(4,(.val (.int .i64) x.1,none)),(5,(.val (.int .i64) aA,none)),(6,(.val (.int .i64) x.2,none))],[],0,81,0⟩) ⟨[0,4,5,6],[]⟩ (by rfl) ?_
    intro x1 w1 n1 hC1 hN1
    obtain⟨aB,aC⟩:=x1
    unfold B4 at hC1
    dsimp only at hC1⊢
    refine pC ?_
    refine p4 uD ?_
    refine pB hC1 (fun hC1 hc6=> ?_) (fun hC1 hc6=> ?_)
    ·refine pJ (p9 (pC (q8 (pC ?_))))
     obtain⟨hg5,hC1⟩:=p6 hC1
     obtain⟨hg6,hC1⟩:=p6 hC1
     refine p4 uD ?_ (hp:=by exact And.intro hg5 (And.intro (fun hh=>hh) (And.intro (fun hh=>hh) (And.intro hg6 (And.intro (fun hh=>hh) ((fun hh=>rW hh)))))))
     refine pB hC1 (fun hC1 hc7=> ?_) (fun hC1 hc7=> ?_)
     ·refine p4 uD ?_
      refine p8 (pZ (qC (pZ (tD (tC (qC (pZ ?_)))))))
      cases hC1
      cases hN1
      dsimp only at hC0
      cases hC0
      exact⟨[],by rfl,by rfl,by rfl⟩
     ·refine pJ (p9 ?_)
      obtain⟨hg7,hC1⟩:=p6 hC1
      obtain⟨hg8,hC1⟩:=p6 hC1
      obtain⟨hg9,hC1⟩:=p6 hC1
      obtain⟨hg10,hC1⟩:=p6 hC1
      refine pW uD ?_ (hp:=by exact And.intro hg7 (And.intro hg8 (And.intro hg9 (hg10))))
      refine pY (p9 ?_)
      obtain⟨hg11,hC1⟩:=p6 hC1
      refine pW uD ?_ (hp:=by exact hg11)
      cases hC1
      exact qU ⟨⟨[0,4,5,6],[]⟩,_,by rfl,hN1⟩
    ·refine rE (rJ (rG ?_))
     cases hC1
     cases hN1
     exact rF ⟨⟨[0,4,5],[]⟩,_,rfl,by rfl⟩
   ·rintro _ ⟨aD,rfl,rfl⟩
    dsimp only at hC0⊢
    refine rL (p9 (pC ?_))
    obtain⟨hg12,hC0⟩:=p6 hC0
    obtain⟨hg13,hC0⟩:=p6 hC0
    refine tV uD ?_ (hp:=by exact And.intro (fun hh=>hh) (And.intro hg12 (And.intro (fun hh=>hh) (And.intro (fun hh=>hh) (And.intro hg13 (And.intro (fun hh=>hh) (And.intro (fun hh=>hh) ((fun hh=>rW hh)))))))))
    refine pB hC0 (fun hC0 hc8=> ?_) (fun hC0 hc8=> ?_)
    ·refine p4 uD ?_
     refine p8 (pZ ?_)
     cases hC0
     exact⟨[],by rfl,by rfl,by rfl⟩
    ·refine pJ (p9 ?_)
     refine p4 uD ?_
     refine p8 ?_
     cases hC0
     exact⟨[],by rfl,by rfl,by rfl⟩
attribute [irreducible] FA
def HE (O:Int) (Z:Int):Bool:=
 if (decide (O=(1:Int)))=true then
  (decide (Z=(10:Int)))
 else
  qK (σ:=Bool) (
    if (decide (O=(2:Int)))=true then
     (decide (O=(2:Int)))
    else
     (decide (O=(3:Int)))
   ) fun aA=>
  if aA=true then
   ((decide (Z=(10:Int)))||(decide (Z=(34:Int))))
  else
   ((decide (Z=(60:Int)))||(decide (Z=(34:Int))))
section
variable (O:Int) (Z:Int)
@[reducible] def a0X:List Slot:=[(.val (.int .i64) O,none),(.val (.int .u8) Z,none)]
@[reducible] def a0Y:List Blk:=[]
@[go_sem] def a0Z:Ret:=⟨[],[(.val .bool (HE O Z),none)],[]⟩
def aCu:List Slot→List Blk→Option Ret:=pS (V:=(Int×Int)) (fun x=>a0X x.1 x.2) (fun x=>a0Y) fun x=>a0Z x.1 x.2
@[go_sem] theorem aP1:aCu (no_index (a0X O Z)) (no_index a0Y)=some (a0Z O Z):=pT (fun⟨a0,a1⟩ ⟨b0,b1⟩ h1 h2=>by cases h1;cases h2;rfl) (O,Z)
end
@[reducible,go_sem] def aCv:Nat×Sig:=(211,⟨[.v,.v],aCu,[],[],none⟩)
theorem DN:Env Tryz.prog [] (pK []):=⟨trivial,pV,pN⟩
theorem aKZ:pM Tryz.prog aCv:=by
 refine pU DN Tryz.func211 (c:=_) rfl (N:=25) (by kernel_rfl) (ts:=[(4,none)]) rfl (fun _ _=>rfl) ?_
 intro⟨O,Z⟩ hs hrow
 dsimp only[a0X,a0Y,a0Z,pP,enumH,pG,pL,pR,Nat.reduceAdd] at hs hrow⊢
 obtain⟨z0,hC0⟩: ∃z,(HE O Z)=z:=⟨_,rfl⟩
 try rw[hC0]
 unfold HE at hC0
 refine p4 DN ?_
 refine pC ?_
 refine p4 DN ?_
 refine q8 ?_
 refine p4 DN ?_
 refine pB hC0 (fun hC0 hc1=> ?_) (fun hC0 hc1=> ?_)
 ·refine p4 DN ?_
  refine p8 (qC (pZ ?_))
  cases hC0
  exact⟨[],by rfl,by rfl,by rfl⟩
 ·refine pC ?_
  refine p4 DN ?_
  obtain⟨aA,hC1,hC0⟩:=u6 hC0
  refine wH (fun s=>s=(fun x=>⟨[(1,(.val (.int .u8) Z,none)),(10,(.val .bool x,none))],[],0,25,0⟩) aA) ?_ ?_
  ·refine pB hC1 (fun hC1 hc2=> ?_) (fun hC1 hc2=> ?_)
   ·refine pJ ?_
    cases hC1
    exact rV ⟨⟨[1,10],[]⟩,by rfl⟩
   ·refine pW DN ?_
    cases hC1
    exact rV ⟨⟨[1,10],[]⟩,by rfl⟩
  ·rintro _ rfl
   dsimp only at hC0⊢
   refine p9 ?_
   refine pB hC0 (fun hC0 hc3=> ?_) (fun hC0 hc3=> ?_)
   ·refine p4 DN ?_ (hp:=by exact And.intro (fun hh=>hh) ((fun hh=>rW hh)))
    refine p8 (qC (pZ ?_))
    cases hC0
    exact⟨[],by rfl,by rfl,by rfl⟩
   ·refine pJ (pY (p9 ?_))
    refine p4 DN ?_ (hp:=by exact And.intro (fun hh=>hh) ((fun hh=>rW hh)))
    refine p8 ?_
    cases hC0
    exact⟨[],by rfl,by rfl,by rfl⟩
def HF (O:((List Int)×Unit)) (Z:Int):Option Unit:=
 if (List.length O.1+List.length ([Z]:List Int))*1≤140737488355328 then
  some (())
 else none
section
variable (O:Int) (Z:((List Int)×Unit)) (aA:Nat)
@[reducible] def a00:List Slot:=[(.val .ref (some (0,0)),none),(.val (.int .u8) O,none)]
@[reducible] def a01:List Blk:=[.cells uX ((some (0,0)),Z) [(1,1)],.grow 5 1 aA]
@[go_sem] def a02:Ret:=⟨[aA=(List.length Z.1),((HF Z O)).isSome=true],[(.any,none)],[.cells uX ((some (0,0)),((Z.1++([O]:List Int)),())) [(1,1)],.grow 5 1 (List.length (Z.1++([O]:List Int)))]⟩
def aCw:List Slot→List Blk→Option Ret:=pS (V:=(Int×((List Int)×Unit)×Nat)) (fun x=>a00 x.1) (fun x=>a01 x.2.1 x.2.2) fun x=>a02 x.1 x.2.1 x.2.2
@[go_sem] theorem aP2:aCw (no_index (a00 O)) (no_index (a01 Z aA))=some (a02 O Z aA):=pT (fun⟨a0,a1,a2⟩ ⟨b0,b1,b2⟩ h1 h2=>by cases h1;cases h2;rfl) (O,Z,aA)
end
@[reducible,go_sem] def aCx:Nat×Sig:=(212,⟨[.p uX [1],.v],aCw,[],[],none⟩)
theorem MY:Env Tryz.prog [zN,DD] (pK [RL]):=⟨⟨B0,⟨HB,trivial⟩⟩,pA XI pV,pN⟩
theorem aK0:pM Tryz.prog aCx:=by
 refine pU MY Tryz.func212 (c:=_) rfl (N:=17) (by kernel_rfl) (ts:=[(4,none)]) rfl (fun _ _=>rfl) ?_
 intro⟨O,Z,aA⟩ hs hrow
 dsimp only[a00,a01,a02,pP,enumH,pG,pL,pR,Nat.reduceAdd] at hs hrow⊢
 obtain⟨rfl,hz⟩:=hs
 obtain⟨z0,hC0⟩:=Option.isSome_iff_exists.1 hz
 try rw[q7 hC0]
 clear hz
 unfold HF at hC0
 refine p4 MY ?_
 refine p4 MY ?_ (hp:=by exact(by first|exact rfl|exact trivial))
 obtain⟨hg1,hC0⟩:=p6 hC0
 refine p4 MY ?_ (hp:=by exact And.intro (by first|exact rfl|exact trivial) (hg1))
 refine p4 MY ?_
 refine p8 ?_
 cases hC0
 exact⟨[(0,0),(1,1)],by rfl,by rfl,by rfl⟩
attribute [irreducible] HF
end
end Go.Proofs.YtbbpilohihldiaaGreatDoor
namespace Go.Proofs.YtbbpilohihldiaaGreatDoor
open Vc
set_option maxRecDepth 100000
set_option maxHeartbeats 4000000
set_option linter.unusedSimpArgs false
set_option linter.unusedVariables false
noncomputable section
def aCy (O:pO) (Z:(List UInt8)):Unit:=
 ()
section
variable (O:pO) (Z:(List UInt8))
@[reducible] def a03:List Slot:=[(.val (.pair .str (.pair .str .unit)) O,none),(.val .ref (some (0,0)),none)]
@[reducible] def a04:List Blk:=[.cells .str Z []]
@[go_sem] def a05:Ret:=⟨[],[(.val .bool (!(Op.bytesLess O.1 Z||decide (O.1=Z))),none)],[.cells .str Z []]⟩
def aCz:List Slot→List Blk→Option Ret:=pS (V:=(pO×(List UInt8))) (fun x=>a03 x.1) (fun x=>a04 x.2) fun x=>a05 x.1 x.2
@[go_sem] theorem aP3:aCz (no_index (a03 O)) (no_index (a04 Z))=some (a05 O Z):=pT (fun⟨a0,a1⟩ ⟨b0,b1⟩ h1 h2=>by cases h1;cases h2;rfl) (O,Z)
end
@[reducible,go_sem] def aCA:Nat×Sig:=(239,⟨[.v,.p .str []],aCz,[],[0],none⟩)
theorem a06:Env Tryz.prog [qE,zO] (pK []):=⟨⟨qG,⟨B1,trivial⟩⟩,pV,pN⟩
theorem aK1:pM Tryz.prog aCA:=by
 refine pU a06 Tryz.func239 (c:=_) rfl (N:=8) (by kernel_rfl) (ts:=[(3,none)]) rfl (fun _ _=>rfl) ?_
 intro⟨O,Z⟩ hs hrow
 dsimp only[a03,a04,a05,pP,enumH,pG,pL,pR,Nat.reduceAdd] at hs hrow⊢
 obtain⟨z0,hC0⟩: ∃z,(aCy O Z)=z:=⟨_,rfl⟩
 try rw[hC0]
 unfold aCy at hC0
 refine p4 a06 ?_
 refine p4 a06 ?_
 refine p8 ?_
 cases hC0
 exact⟨[(0,0)],by rfl,by rfl,by rfl⟩
def JY (O:(List UInt8)) (Z:Int):(Int×Int)→Option ((Int×Int)⊕(Int⊕(Int×Bool))):=fun(aA,aB)=>
 if (decide (aB<(List.length O:Int)))=true then
  if 0≤aB∧aB<(List.length O:Int) then
   if 0≤aB∧aB<(List.length O:Int) then
    if (((decide ((65:Int)≤(pF O aB)))==true)=true→0≤aB∧aB<(List.length O:Int)) then
     qD (σ:=Int) (
       if ((decide ((65:Int)≤(pF O aB)))&&(decide ((pF O aB)≤(70:Int))))=true then
        if 0≤aB∧aB<(List.length O:Int) then
         if p5 ((IntKind.wrap .i64 (IntKind.wrap .u8 ((pF O aB)- (65:Int))))+(10:Int)) then
          some (((IntKind.wrap .i64 (IntKind.wrap .u8 ((pF O aB)- (65:Int))))+(10:Int)))
         else none
        else none
       else
        some ((s3 ([48,49,50,51,52,53,54,55,56,57,97,98,99,100,101,102]:List UInt8) (pF O aB)))
      ) fun aC=>
     if ((decide (aC<(0:Int)))||(decide (Z≤aC)))=true then
      some (.inr (.inr (((0:Int),false))))
     else
      if p5 (aA*Z) then
       if p5 ((aA*Z)+aC) then
        if p5 (aB+(1:Int)) then
         some (.inl (((aA*Z)+aC),(aB+(1:Int))))
        else none
       else none
      else none
    else none
   else none
  else none
 else
  some (.inr (.inl aA))
def C8 (O:(List UInt8)) (Z:Int):Option (Int×Bool):=
 qW (pQ (JY O Z) ((0:Int),(0:Int))) fun aA=>
 some ((aA,(!decide (O=([]:List UInt8)))))
section
variable (O:(List UInt8)) (Z:Int)
@[reducible] def a07:List Slot:=[(.val .str O,none),(.val (.int .i64) Z,none)]
@[reducible] def a08:List Blk:=[]
@[go_sem] def a09:Ret:=⟨[((C8 O Z)).isSome=true],[(.val (.int .i64) ((val (C8 O Z)).1),none),(.val .bool ((val (C8 O Z)).2),none)],[]⟩
def aCB:List Slot→List Blk→Option Ret:=pS (V:=((List UInt8)×Int)) (fun x=>a07 x.1 x.2) (fun x=>a08) fun x=>a09 x.1 x.2
@[go_sem] theorem aP4:aCB (no_index (a07 O Z)) (no_index a08)=some (a09 O Z):=pT (fun⟨a0,a1⟩ ⟨b0,b1⟩ h1 h2=>by cases h1;cases h2;rfl) (O,Z)
end
@[reducible,go_sem] def a1a:Nat×Sig:=(251,⟨[.v,.v],aCB,[],[],none⟩)
theorem yW:Env Tryz.prog [sZ,yS,qE] (pK [JO]):=⟨⟨tJ,⟨A7,⟨qG,trivial⟩⟩⟩,pA ML pV,pN⟩
theorem aCC:pM Tryz.prog a1a:=by
 refine pU yW Tryz.func251 (c:=_) rfl (N:=50) (by kernel_rfl) (ts:=[(4,none),(5,none)]) rfl (fun _ _=>rfl) ?_
 intro⟨O,Z⟩ hs hrow
 dsimp only[a07,a08,a09,pP,enumH,pG,pL,pR,Nat.reduceAdd] at hs hrow⊢
 have hz:=hs
 obtain⟨z0,hC0⟩:=Option.isSome_iff_exists.1 hz
 try rw[q7 hC0]
 clear hz hs
 unfold C8 at hC0
 refine p4 yW ?_
 refine p4 yW ?_
 refine pC ?_
 refine p4 yW ?_
 refine q8 ?_
 obtain⟨y1,hy1,hC0⟩:=tE hC0
 refine rN 0 (fun s=> ∃v,y1= .inl v∧s=(fun x=>⟨[(0,(.val .str O,none)),(6,(.val (.int .i64) x,none))],[],0,50,0⟩) v) ?_ ?_
 ·refine rM hy1 (fun x=>⟨[(0,(.val .str O,none)),(1,(.val (.int .i64) Z,none)),(6,(.val (.int .i64) x.1,none)),(10,(.val (.int .i64) (List.length O:Int),none)),(11,(.val (.int .i64) x.2,none))],[],0,50,0⟩) ⟨[0,1,6,10,11],[]⟩ (by rfl) ?_
  intro x1 w1 n1 hC1 hN1
  obtain⟨aA,aB⟩:=x1
  unfold JY at hC1
  dsimp only at hC1⊢
  refine p4 yW ?_
  refine pC ?_
  refine pB hC1 (fun hC1 hc1=> ?_) (fun hC1 hc1=> ?_)
  ·refine pJ (p9 (pC (q8 ?_)))
   refine p4 yW ?_
   obtain⟨hg1,hC1⟩:=p6 hC1
   refine p4 yW ?_ (hp:=by exact hg1)
   refine pC ?_
   obtain⟨hg2,hC1⟩:=p6 hC1
   obtain⟨hg3,hC1⟩:=p6 hC1
   refine p4 yW ?_ (hp:=by exact And.intro hg2 (And.intro (fun hh=>hh) (And.intro (fun hh=>hh) (And.intro hg3 (And.intro (fun hh=>hh) ((fun hh=>qH hh)))))))
   obtain⟨aC,hC2,hC1⟩:=p7 hC1
   refine wH (fun s=>s=(fun x=>⟨[(0,(.val .str O,none)),(1,(.val (.int .i64) Z,none)),(6,(.val (.int .i64) aA,none)),(8,(.val (.int .i64) x,none)),(10,(.val (.int .i64) (List.length O:Int),none)),(11,(.val (.int .i64) aB,none))],[],0,50,0⟩) aC) ?_ ?_
   ·refine pB hC2 (fun hC2 hc2=> ?_) (fun hC2 hc2=> ?_)
    ·obtain⟨hg4,hC2⟩:=p6 hC2
     obtain⟨hg5,hC2⟩:=p6 hC2
     refine pW yW ?_ (hp:=by exact And.intro hg4 (hg5))
     cases hC2
     exact rV ⟨⟨[0,1,6,8,10,11],[]⟩,by rfl⟩
    ·refine pJ ?_
     cases hC2
     exact rV ⟨⟨[0,1,6,8,10,11],[]⟩,by rfl⟩
   ·rintro _ rfl
    dsimp only at hC1⊢
    refine p9 (pC ?_)
    refine p4 yW ?_ (hp:=by exact And.intro (fun hh=>hh) (And.intro (fun hh=>hh) ((fun hh=>rW hh))))
    refine pB hC1 (fun hC1 hc3=> ?_) (fun hC1 hc3=> ?_)
    ·refine p4 yW ?_
     refine p8 (pZ (qC (pZ (tD (tC (qC (pZ ?_)))))))
     cases hC1
     cases hN1
     dsimp only at hC0
     cases hC0
     exact⟨[],by rfl,by rfl,by rfl⟩
    ·refine pJ (p9 ?_)
     obtain⟨hg6,hC1⟩:=p6 hC1
     obtain⟨hg7,hC1⟩:=p6 hC1
     refine pW yW ?_ (hp:=by exact And.intro hg6 (hg7))
     refine pY (p9 ?_)
     obtain⟨hg8,hC1⟩:=p6 hC1
     refine pW yW ?_ (hp:=by exact hg8)
     cases hC1
     exact qU ⟨⟨[0,1,6,10,11],[]⟩,_,by rfl,hN1⟩
  ·refine rE (rJ (rG ?_))
   cases hC1
   cases hN1
   exact rF ⟨⟨[0,6],[]⟩,_,rfl,by rfl⟩
 ·rintro _ ⟨aD,rfl,rfl⟩
  dsimp only at hC0⊢
  refine rL (p9 ?_)
  refine p4 yW ?_
  refine p8 ?_
  cases hC0
  exact⟨[],by rfl,by rfl,by rfl⟩
attribute [irreducible] C8
def aCD (O:pO) (Z:(List UInt8)):Unit:=
 ()
section
variable (O:pO) (Z:(List UInt8))
@[reducible] def a1b:List Slot:=[(.val (.pair .str (.pair .str .unit)) O,none),(.val .ref (some (0,0)),none)]
@[reducible] def a1c:List Blk:=[.cells .str Z []]
@[go_sem] def a1d:Ret:=⟨[],[(.val .bool (decide (O.1=Z)),none)],[.cells .str Z []]⟩
def aCE:List Slot→List Blk→Option Ret:=pS (V:=(pO×(List UInt8))) (fun x=>a1b x.1) (fun x=>a1c x.2) fun x=>a1d x.1 x.2
@[go_sem] theorem aP5:aCE (no_index (a1b O)) (no_index (a1c Z))=some (a1d O Z):=pT (fun⟨a0,a1⟩ ⟨b0,b1⟩ h1 h2=>by cases h1;cases h2;rfl) (O,Z)
end
@[reducible,go_sem] def aCF:Nat×Sig:=(267,⟨[.v,.p .str []],aCE,[],[0],none⟩)
theorem a1e:Env Tryz.prog [qE,zO] (pK []):=⟨⟨qG,⟨B1,trivial⟩⟩,pV,pN⟩
theorem aK2:pM Tryz.prog aCF:=by
 refine pU a1e Tryz.func267 (c:=_) rfl (N:=8) (by kernel_rfl) (ts:=[(3,none)]) rfl (fun _ _=>rfl) ?_
 intro⟨O,Z⟩ hs hrow
 dsimp only[a1b,a1c,a1d,pP,enumH,pG,pL,pR,Nat.reduceAdd] at hs hrow⊢
 obtain⟨z0,hC0⟩: ∃z,(aCD O Z)=z:=⟨_,rfl⟩
 try rw[hC0]
 unfold aCD at hC0
 refine p4 a1e ?_
 refine p4 a1e ?_
 refine p8 ?_
 cases hC0
 exact⟨[(0,0)],by rfl,by rfl,by rfl⟩
def aCG (O:(List UInt8)):Unit:=
 ()
section
variable (O:(List UInt8))
@[reducible] def a1f:List Slot:=[(.val .str O,none)]
@[reducible] def a1g:List Blk:=[]
@[go_sem] def a1h:Ret:=⟨[],[(.val .bool true,none)],[]⟩
def aCH:List Slot→List Blk→Option Ret:=pS (V:=(List UInt8)) (fun x=>a1f x) (fun x=>a1g) fun x=>a1h
@[go_sem] theorem aP6:aCH (no_index (a1f O)) (no_index a1g)=some a1h:=pT (fun a0 b0 h1 h2=>by cases h1;cases h2;rfl) O
end
@[reducible,go_sem] def aCI:Nat×Sig:=(278,⟨[.v],aCH,[],[],none⟩)
theorem a1i:Env Tryz.prog [] (pK []):=⟨trivial,pV,pN⟩
theorem aK3:pM Tryz.prog aCI:=by
 refine pU a1i Tryz.func278 (c:=_) rfl (N:=3) (by kernel_rfl) (ts:=[(2,none)]) rfl (fun _ _=>rfl) ?_
 intro O hs hrow
 dsimp only[a1f,a1g,a1h,pP,enumH,pG,pL,pR,Nat.reduceAdd] at hs hrow⊢
 obtain⟨z0,hC0⟩: ∃z,(aCG O)=z:=⟨_,rfl⟩
 try rw[hC0]
 unfold aCG at hC0
 refine p4 a1i ?_
 refine p4 a1i ?_
 refine p8 ?_
 cases hC0
 exact⟨[],by rfl,by rfl,by rfl⟩
def aCJ (O:Int):Unit:=
 ()
section
variable (O:Int)
@[reducible] def a1j:List Slot:=[(.val (.int .i64) O,none)]
@[reducible] def a1k:List Blk:=[]
@[go_sem] def a1l:Ret:=⟨[],[(.val .bool (((decide ((0:Int)≤O))&&(decide (O≤(1114111:Int))))&&((decide (O<(55296:Int)))||(decide ((57343:Int)<O)))),none)],[]⟩
def aCK:List Slot→List Blk→Option Ret:=pS (V:=Int) (fun x=>a1j x) (fun x=>a1k) fun x=>a1l x
@[go_sem] theorem aP7:aCK (no_index (a1j O)) (no_index a1k)=some (a1l O):=pT (fun a0 b0 h1 h2=>by cases h1;cases h2;rfl) O
end
@[reducible,go_sem] def aCL:Nat×Sig:=(289,⟨[.v],aCK,[],[],none⟩)
theorem a1m:Env Tryz.prog [] (pK []):=⟨trivial,pV,pN⟩
theorem aK4:pM Tryz.prog aCL:=by
 refine pU a1m Tryz.func289 (c:=_) rfl (N:=17) (by kernel_rfl) (ts:=[(2,none)]) rfl (fun _ _=>rfl) ?_
 intro O hs hrow
 dsimp only[a1j,a1k,a1l,pP,enumH,pG,pL,pR,Nat.reduceAdd] at hs hrow⊢
 obtain⟨z0,hC0⟩: ∃z,(aCJ O)=z:=⟨_,rfl⟩
 try rw[hC0]
 unfold aCJ at hC0
 refine p4 a1m ?_
 refine p4 a1m ?_ (hp:=by exact And.intro (fun hh=>hh) (And.intro (fun hh=>qH hh) (And.intro (fun hh=>hh) (And.intro (fun hh=>hh) (And.intro (fun hh=>hh) (And.intro (fun hh=>hh) (And.intro (fun hG hh=>C1 hG hh) ((fun hh=>qH hh)))))))))
 refine p8 ?_
 cases hC0
 exact⟨[],by rfl,by rfl,by rfl⟩
def FB (O:(List pO)):Option (List pO):=
 if (0+List.length O)*32≤140737488355328 then
  some ((([]:List pO)++O))
 else none
section
variable (O:(List pO))
@[reducible] def a1n:List Slot:=[(.val (.list (.pair .str (.pair .str .unit))) O,none)]
@[reducible] def a1o:List Blk:=[]
@[go_sem] def a1p:Ret:=⟨[((FB O)).isSome=true],[(.own 0 (List.length (val (FB O))),none)],[.row 149 (.pair .str (.pair .str .unit)) (val (FB O)) (List.length (val (FB O)))]⟩
def aCM:List Slot→List Blk→Option Ret:=pS (V:=(List pO)) (fun x=>a1n x) (fun x=>a1o) fun x=>a1p x
@[go_sem] theorem aP8:aCM (no_index (a1n O)) (no_index a1o)=some (a1p O):=pT (fun a0 b0 h1 h2=>by cases h1;cases h2;rfl) O
end
@[reducible,go_sem] def aCN:Nat×Sig:=(236,⟨[.v],aCM,[],[],none⟩)
theorem MZ:Env Tryz.prog [RF] (pK []):=⟨⟨aAZ,trivial⟩,pV,pN⟩
theorem aK5:pM Tryz.prog aCN:=by
 refine pU MZ Tryz.func236 (c:=_) rfl (N:=8) (by kernel_rfl) (ts:=[(2,none)]) rfl (fun _ _=>rfl) ?_
 intro O hs hrow
 dsimp only[a1n,a1o,a1p,pP,enumH,pG,pL,pR,Nat.reduceAdd] at hs hrow⊢
 have hz:=hs
 obtain⟨z0,hC0⟩:=Option.isSome_iff_exists.1 hz
 try rw[q7 hC0]
 clear hz hs
 unfold FB at hC0
 refine p4 MZ ?_
 refine pC ?_
 refine p4 MZ ?_
 refine aJq (by simp only[go_sem];rfl) (fun hnil=> ?_) (fun hnil=> ?_)
 ·subst hnil
  obtain⟨_,hC0⟩:=p6 hC0
  refine p4 MZ ?_
  refine p8 (pZ ?_)
  cases hC0
  exact⟨[(0,96)],by rfl,by rfl,by rfl⟩
 ·refine pJ (p9 ?_)
  obtain⟨hg1,hC0⟩:=p6 hC0
  refine p4 MZ ?_ (hp:=by exact And.intro (by first|exact rfl|exact trivial) (hg1))
  refine p8 ?_
  cases hC0
  exact⟨[(0,96)],by rfl,by rfl,by rfl⟩
attribute [irreducible] FB
end
end Go.Proofs.YtbbpilohihldiaaGreatDoor
namespace Go.Proofs.YtbbpilohihldiaaGreatDoor
open Vc
set_option maxRecDepth 100000
set_option maxHeartbeats 4000000
set_option linter.unusedSimpArgs false
set_option linter.unusedVariables false
noncomputable section
def HG (O:(List Int)) (Z:Int):Option (List Int):=
 if (decide ((IntKind.wrap .u32 Z)≤(2047:Int)))=true then
  if (List.length O+List.length ([(bits .or .u8 (192:Int) (IntKind.wrap .u8 (v6 .i32 Z (6:Int)))),(bits .or .u8 (128:Int) (bits .and .u8 (IntKind.wrap .u8 Z) (63:Int)))]:List Int))*1≤140737488355328 then
   some ((O++([(bits .or .u8 (192:Int) (IntKind.wrap .u8 (v6 .i32 Z (6:Int)))),(bits .or .u8 (128:Int) (bits .and .u8 (IntKind.wrap .u8 Z) (63:Int)))]:List Int)))
  else none
 else
  qD (σ:=Bool) (
    if (decide ((IntKind.wrap .u32 Z)<(55296:Int)))=true then
     some ((decide ((IntKind.wrap .u32 Z)<(55296:Int))))
    else
     some (((decide ((57343:Int)<(IntKind.wrap .u32 Z)))&&(decide ((IntKind.wrap .u32 Z)≤(65535:Int)))))
   ) fun aA=>
  if aA=true then
   if (List.length O+List.length ([(bits .or .u8 (224:Int) (IntKind.wrap .u8 (v6 .i32 Z (12:Int)))),(bits .or .u8 (128:Int) (bits .and .u8 (IntKind.wrap .u8 (v6 .i32 Z (6:Int))) (63:Int))),(bits .or .u8 (128:Int) (bits .and .u8 (IntKind.wrap .u8 Z) (63:Int)))]:List Int))*1≤140737488355328 then
    some ((O++([(bits .or .u8 (224:Int) (IntKind.wrap .u8 (v6 .i32 Z (12:Int)))),(bits .or .u8 (128:Int) (bits .and .u8 (IntKind.wrap .u8 (v6 .i32 Z (6:Int))) (63:Int))),(bits .or .u8 (128:Int) (bits .and .u8 (IntKind.wrap .u8 Z) (63:Int)))]:List Int)))
   else none
  else
   if ((decide ((65535:Int)<(IntKind.wrap .u32 Z)))&&(decide ((IntKind.wrap .u32 Z)≤(1114111:Int))))=true then
    if (List.length O+List.length ([(bits .or .u8 (240:Int) (IntKind.wrap .u8 (v6 .i32 Z (18:Int)))),(bits .or .u8 (128:Int) (bits .and .u8 (IntKind.wrap .u8 (v6 .i32 Z (12:Int))) (63:Int))),(bits .or .u8 (128:Int) (bits .and .u8 (IntKind.wrap .u8 (v6 .i32 Z (6:Int))) (63:Int))),(bits .or .u8 (128:Int) (bits .and .u8 (IntKind.wrap .u8 Z) (63:Int)))]:List Int))*1≤140737488355328 then
     some ((O++([(bits .or .u8 (240:Int) (IntKind.wrap .u8 (v6 .i32 Z (18:Int)))),(bits .or .u8 (128:Int) (bits .and .u8 (IntKind.wrap .u8 (v6 .i32 Z (12:Int))) (63:Int))),(bits .or .u8 (128:Int) (bits .and .u8 (IntKind.wrap .u8 (v6 .i32 Z (6:Int))) (63:Int))),(bits .or .u8 (128:Int) (bits .and .u8 (IntKind.wrap .u8 Z) (63:Int)))]:List Int)))
    else none
   else
    if (List.length O+List.length ([(239:Int),(191:Int),(189:Int)]:List Int))*1≤140737488355328 then
     some ((O++([(239:Int),(191:Int),(189:Int)]:List Int)))
    else none
section
variable (O:(List Int)) (Z:Int) (aA:Nat)
@[reducible] def a1q:List Slot:=[(.val (.list (.int .u8)) O,some 0),(.val (.int .i32) Z,none)]
@[reducible] def a1r:List Blk:=[.grow 5 1 aA]
@[go_sem] def a1s:Ret:=⟨[aA=(List.length O),((HG O Z)).isSome=true],[(.val (.list (.int .u8)) (val (HG O Z)),some 0)],[.grow 5 1 (List.length (val (HG O Z)))]⟩
def aCO:List Slot→List Blk→Option Ret:=pS (V:=((List Int)×Int×Nat)) (fun x=>a1q x.1 x.2.1) (fun x=>a1r x.2.2) fun x=>a1s x.1 x.2.1 x.2.2
@[go_sem] theorem aP9:aCO (no_index (a1q O Z)) (no_index (a1r aA))=some (a1s O Z aA):=pT (fun⟨a0,a1,a2⟩ ⟨b0,b1,b2⟩ h1 h2=>by cases h1;cases h2;rfl) (O,Z,aA)
end
@[reducible,go_sem] def aCP:Nat×Sig:=(300,⟨[.own,.v],aCO,[],[],none⟩)
theorem B5:Env Tryz.prog [yS,JL,zN,RI] (pK []):=⟨⟨A7,⟨RD,⟨B0,⟨aA2,trivial⟩⟩⟩⟩,pV,pN⟩
theorem aK6:pM Tryz.prog aCP:=by
 refine pU B5 Tryz.func300 (c:=_) rfl (N:=78) (by kernel_rfl) (ts:=[(4,none)]) rfl (fun _ _=>rfl) ?_
 intro⟨O,Z,aA⟩ hs hrow
 dsimp only[a1q,a1r,a1s,pP,enumH,pG,pL,pR,Nat.reduceAdd] at hs hrow⊢
 obtain⟨rfl,hz⟩:=hs
 obtain⟨z0,hC0⟩:=Option.isSome_iff_exists.1 hz
 try rw[q7 hC0]
 clear hz
 unfold HG at hC0
 refine p4 B5 ?_
 refine p4 B5 ?_
 refine q8 ?_
 refine p4 B5 ?_
 refine pB hC0 (fun hC0 hc1=> ?_) (fun hC0 hc1=> ?_)
 ·obtain⟨hg1,hC0⟩:=p6 hC0
  refine p4 B5 ?_ (hp:=by exact And.intro (show (0:Int)≤(6:Int) from by decide) (And.intro (by first|exact rfl|exact trivial) (hg1)))
  refine p8 (qC ?_)
  cases hC0
  exact⟨[(0,0)],by rfl,by rfl,by rfl⟩
 ·refine pC ?_
  refine p4 B5 ?_
  obtain⟨aB,hC1,hC0⟩:=p7 hC0
  refine wH (fun s=>s=(fun x=>⟨[(0,(.val (.list (.int .u8)) O,some 0)),(1,(.val (.int .i32) Z,none)),(5,(.val (.int .u32) (IntKind.wrap .u32 Z),none)),(25,(.val .bool x,none))],[(0,.grow 5 1 (List.length O))],1,78,1⟩) aB) ?_ ?_
  ·refine pB hC1 (fun hC1 hc2=> ?_) (fun hC1 hc2=> ?_)
   ·refine pJ ?_
    cases hC1
    exact rV ⟨⟨[0,1,5,25],[(0,0)]⟩,by rfl⟩
   ·refine pW B5 ?_ (hp:=by exact And.intro (fun hh=>hh) ((fun hh=>qH hh)))
    cases hC1
    exact rV ⟨⟨[0,1,5,25],[(0,0)]⟩,by rfl⟩
  ·rintro _ rfl
   dsimp only at hC0⊢
   refine p9 ?_
   refine pB hC0 (fun hC0 hc3=> ?_) (fun hC0 hc3=> ?_)
   ·obtain⟨hg2,hC0⟩:=p6 hC0
    refine p4 B5 ?_ (hp:=by exact And.intro (show (0:Int)≤(12:Int) from by decide) (And.intro (show (0:Int)≤(6:Int) from by decide) (And.intro (by first|exact rfl|exact trivial) (hg2))))
    refine p8 (qC ?_)
    cases hC0
    exact⟨[(0,0)],by rfl,by rfl,by rfl⟩
   ·refine p4 B5 ?_ (hp:=by exact And.intro (fun hh=>hh) ((fun hh=>qH hh)))
    refine pB hC0 (fun hC0 hc4=> ?_) (fun hC0 hc4=> ?_)
    ·obtain⟨hg3,hC0⟩:=p6 hC0
     refine p4 B5 ?_ (hp:=by exact And.intro (show (0:Int)≤(18:Int) from by decide) (And.intro (show (0:Int)≤(12:Int) from by decide) (And.intro (show (0:Int)≤(6:Int) from by decide) (And.intro (by first|exact rfl|exact trivial) (hg3)))))
     refine p8 (qC ?_)
     cases hC0
     exact⟨[(0,0)],by rfl,by rfl,by rfl⟩
    ·obtain⟨hg4,hC0⟩:=p6 hC0
     refine p4 B5 ?_ (hp:=by exact And.intro (by first|exact rfl|exact trivial) (hg4))
     refine p8 (qC ?_)
     cases hC0
     exact⟨[(0,0)],by rfl,by rfl,by rfl⟩
attribute [irreducible] HG
def N0 (O:(List pO)) (Z:(List UInt8)):Int→Option (Int⊕(Unit⊕Int)):=fun aA=>
 if (decide (aA<(List.length O:Int)))=true then
  if 0≤aA∧aA<(List.length O:Int) then
   if (decide (((pI (.pair .str (.pair .str .unit)) O aA).1)=Z))=true then
    some (.inr (.inr (aA)))
   else
    if p5 (aA+(1:Int)) then
     some (.inl (aA+(1:Int)))
    else none
  else none
 else
  some (.inr (.inl ()))
def JZ (O:(List pO)) (Z:(List UInt8)):Option Int:=
 qW (pQ (N0 O Z) (0:Int)) fun _=>
 some ((-1:Int))
section
variable (O:(List pO)) (Z:(List UInt8))
@[reducible] def a1t:List Slot:=[(.val (.list (.pair .str (.pair .str .unit))) O,none),(.val .clo (some (267,[(0,0)])),none)]
@[reducible] def a1u:List Blk:=[.cells .str Z []]
@[go_sem] def a1v:Ret:=⟨[((JZ O Z)).isSome=true],[(.val (.int .i64) (val (JZ O Z)),none)],[.cells .str Z []]⟩
def aCQ:List Slot→List Blk→Option Ret:=pS (V:=((List pO)×(List UInt8))) (fun x=>a1t x.1) (fun x=>a1u x.2) fun x=>a1v x.1 x.2
@[go_sem] theorem aQa:aCQ (no_index (a1t O)) (no_index (a1u Z))=some (a1v O Z):=pT (fun⟨a0,a1⟩ ⟨b0,b1⟩ h1 h2=>by cases h1;cases h2;rfl) (O,Z)
end
@[reducible,go_sem] def aCR:Nat×Sig:=(238,⟨[.v,.f [(.str,[])]],aCQ,[],[0],none⟩)
theorem DO:Env Tryz.prog [uC,zO] (pK [aCF]):=⟨⟨uY,⟨B1,trivial⟩⟩,pA aK2 pV,pN⟩
theorem aK7:pM Tryz.prog aCR:=by
 refine pU DO Tryz.func238 (c:=_) rfl (N:=19) (by kernel_rfl) (ts:=[(4,none)]) rfl (fun _ _=>rfl) ?_
 intro⟨O,Z⟩ hs hrow
 dsimp only[a1t,a1u,a1v,pP,enumH,pG,pL,pR,Nat.reduceAdd] at hs hrow⊢
 have hz:=hs
 obtain⟨z0,hC0⟩:=Option.isSome_iff_exists.1 hz
 try rw[q7 hC0]
 clear hz hs
 unfold JZ at hC0
 refine p4 DO ?_
 refine pC ?_
 refine p4 DO ?_
 refine q8 ?_
 obtain⟨y1,hy1,hC0⟩:=tE hC0
 refine rN 0 (fun s=> ∃v,y1= .inl v∧s=(fun _=>⟨[],[(0,.cells .str Z [])],1,19,1⟩) v) ?_ ?_
 ·refine rM hy1 (fun x=>⟨[(0,(.val (.list (.pair .str (.pair .str .unit))) O,none)),(1,(.val .clo (some (267,[(0,0)])),none)),(7,(.val (.int .i64) (List.length O:Int),none)),(8,(.val (.int .i64) x,none))],[(0,.cells .str Z [])],1,19,1⟩) ⟨[0,1,7,8],[(0,0)]⟩ (by rfl) ?_
  intro aA w1 n1 hC1 hN1
  unfold N0 at hC1
  dsimp only at hC1⊢
  refine p4 DO ?_
  refine pC ?_
  refine pB hC1 (fun hC1 hc1=> ?_) (fun hC1 hc1=> ?_)
  ·refine pJ (p9 (pC (q8 ?_)))
   refine p4 DO ?_
   obtain⟨hg1,hC1⟩:=p6 hC1
   refine p4 DO ?_ (hp:=by exact And.intro hg1 ((by first|exact rfl|exact trivial)))
   refine pB hC1 (fun hC1 hc2=> ?_) (fun hC1 hc2=> ?_)
   ·refine p4 DO ?_
    refine p8 (qC (pZ (tD (tC (qC (pZ ?_))))))
    cases hC1
    cases hN1
    dsimp only at hC0
    cases hC0
    exact⟨[(0,0)],by rfl,by rfl,by rfl⟩
   ·refine pJ (pY (p9 ?_))
    obtain⟨hg2,hC1⟩:=p6 hC1
    refine pW DO ?_ (hp:=by exact hg2)
    cases hC1
    exact qU ⟨⟨[0,1,7,8],[(0,0)]⟩,_,by rfl,hN1⟩
  ·refine rE (rJ (rG ?_))
   cases hC1
   cases hN1
   exact rF ⟨⟨[],[(0,0)]⟩,_,rfl,by rfl⟩
 ·rintro _ ⟨v,rfl,rfl⟩
  dsimp only at hC0⊢
  refine rL (p9 ?_)
  refine p4 DO ?_
  refine p8 ?_
  cases hC0
  exact⟨[(0,0)],by rfl,by rfl,by rfl⟩
attribute [irreducible] JZ
def N1 (O:(List pO)) (Z:(List UInt8)):Int→Option (Int⊕(Unit⊕Int)):=fun aA=>
 if (decide (aA<(List.length O:Int)))=true then
  if 0≤aA∧aA<(List.length O:Int) then
   if (!(Op.bytesLess ((pI (.pair .str (.pair .str .unit)) O aA).1) Z||decide (((pI (.pair .str (.pair .str .unit)) O aA).1)=Z)))=true then
    some (.inr (.inr (aA)))
   else
    if p5 (aA+(1:Int)) then
     some (.inl (aA+(1:Int)))
    else none
  else none
 else
  some (.inr (.inl ()))
def K0 (O:(List pO)) (Z:(List UInt8)):Option Int:=
 qW (pQ (N1 O Z) (0:Int)) fun _=>
 some ((-1:Int))
section
variable (O:(List pO)) (Z:(List UInt8))
@[reducible] def a1w:List Slot:=[(.val (.list (.pair .str (.pair .str .unit))) O,none),(.val .clo (some (239,[(0,0)])),none)]
@[reducible] def a1x:List Blk:=[.cells .str Z []]
@[go_sem] def a1y:Ret:=⟨[((K0 O Z)).isSome=true],[(.val (.int .i64) (val (K0 O Z)),none)],[.cells .str Z []]⟩
def aCS:List Slot→List Blk→Option Ret:=pS (V:=((List pO)×(List UInt8))) (fun x=>a1w x.1) (fun x=>a1x x.2) fun x=>a1y x.1 x.2
@[go_sem] theorem aQb:aCS (no_index (a1w O)) (no_index (a1x Z))=some (a1y O Z):=pT (fun⟨a0,a1⟩ ⟨b0,b1⟩ h1 h2=>by cases h1;cases h2;rfl) (O,Z)
end
@[reducible,go_sem] def aCT:Nat×Sig:=(238,⟨[.v,.f [(.str,[])]],aCS,[],[0],none⟩)
theorem DP:Env Tryz.prog [uC,zO] (pK [aCA]):=⟨⟨uY,⟨B1,trivial⟩⟩,pA aK1 pV,pN⟩
theorem aK8:pM Tryz.prog aCT:=by
 refine pU DP Tryz.func238 (c:=_) rfl (N:=19) (by kernel_rfl) (ts:=[(4,none)]) rfl (fun _ _=>rfl) ?_
 intro⟨O,Z⟩ hs hrow
 dsimp only[a1w,a1x,a1y,pP,enumH,pG,pL,pR,Nat.reduceAdd] at hs hrow⊢
 have hz:=hs
 obtain⟨z0,hC0⟩:=Option.isSome_iff_exists.1 hz
 try rw[q7 hC0]
 clear hz hs
 unfold K0 at hC0
 refine p4 DP ?_
 refine pC ?_
 refine p4 DP ?_
 refine q8 ?_
 obtain⟨y1,hy1,hC0⟩:=tE hC0
 refine rN 0 (fun s=> ∃v,y1= .inl v∧s=(fun _=>⟨[],[(0,.cells .str Z [])],1,19,1⟩) v) ?_ ?_
 ·refine rM hy1 (fun x=>⟨[(0,(.val (.list (.pair .str (.pair .str .unit))) O,none)),(1,(.val .clo (some (239,[(0,0)])),none)),(7,(.val (.int .i64) (List.length O:Int),none)),(8,(.val (.int .i64) x,none))],[(0,.cells .str Z [])],1,19,1⟩) ⟨[0,1,7,8],[(0,0)]⟩ (by rfl) ?_
  intro aA w1 n1 hC1 hN1
  unfold N1 at hC1
  dsimp only at hC1⊢
  refine p4 DP ?_
  refine pC ?_
  refine pB hC1 (fun hC1 hc1=> ?_) (fun hC1 hc1=> ?_)
  ·refine pJ (p9 (pC (q8 ?_)))
   refine p4 DP ?_
   obtain⟨hg1,hC1⟩:=p6 hC1
   refine p4 DP ?_ (hp:=by exact And.intro hg1 ((by first|exact rfl|exact trivial)))
   refine pB hC1 (fun hC1 hc2=> ?_) (fun hC1 hc2=> ?_)
   ·refine p4 DP ?_
    refine p8 (qC (pZ (tD (tC (qC (pZ ?_))))))
    cases hC1
    cases hN1
    dsimp only at hC0
    cases hC0
    exact⟨[(0,0)],by rfl,by rfl,by rfl⟩
   ·refine pJ (pY (p9 ?_))
    obtain⟨hg2,hC1⟩:=p6 hC1
    refine pW DP ?_ (hp:=by exact hg2)
    cases hC1
    exact qU ⟨⟨[0,1,7,8],[(0,0)]⟩,_,by rfl,hN1⟩
  ·refine rE (rJ (rG ?_))
   cases hC1
   cases hN1
   exact rF ⟨⟨[],[(0,0)]⟩,_,rfl,by rfl⟩
 ·rintro _ ⟨v,rfl,rfl⟩
  dsimp only at hC0⊢
  refine rL (p9 ?_)
  refine p4 DP ?_
  refine p8 ?_
  cases hC0
  exact⟨[(0,0)],by rfl,by rfl,by rfl⟩
attribute [irreducible] K0
def N2 (O:(List UInt8)) (Z:Bool):Nat→Option (Nat⊕(Unit⊕Int)):=fun aA=>
 if (decide (aA<List.length O))=true then
  if (decide (aA<List.length O))=true then
   if (decide (aA<List.length O))=true then
    if (((decide ((127:Int)<(sJ O aA)))||(((((!(((decide ((97:Int)≤(IntKind.wrap .u8 (sJ O aA))))&&(decide ((IntKind.wrap .u8 (sJ O aA))≤(122:Int))))||((decide ((65:Int)≤(IntKind.wrap .u8 (sJ O aA))))&&(decide ((IntKind.wrap .u8 (sJ O aA))≤(90:Int))))))&&((decide ((sJ O aA)<(48:Int)))||(decide ((57:Int)<(sJ O aA)))))&&(!decide ((sJ O aA)=(45:Int))))&&(!decide ((sJ O aA)=(95:Int))))&&(!decide ((sJ O aA)=(46:Int)))))==Z)=true then
     some (.inr (.inr (((aA:Nat):Int))))
    else
     some (.inl (wW O aA))
   else none
  else none
 else
  some (.inr (.inl ()))
def K1 (O:(List UInt8)) (Z:Bool):Option Int:=
 qW (pQ (N2 O Z) 0) fun _=>
 some ((-1:Int))
section
variable (O:(List UInt8)) (Z:Bool)
@[reducible] def a1z:List Slot:=[(.val .str O,none),(.val .clo (some (122,[])),none),(.val .bool Z,none)]
@[reducible] def a1A:List Blk:=[]
@[go_sem] def a1B:Ret:=⟨[((K1 O Z)).isSome=true],[(.val (.int .i64) (val (K1 O Z)),none)],[]⟩
def aCU:List Slot→List Blk→Option Ret:=pS (V:=((List UInt8)×Bool)) (fun x=>a1z x.1 x.2) (fun x=>a1A) fun x=>a1B x.1 x.2
@[go_sem] theorem aQc:aCU (no_index (a1z O Z)) (no_index a1A)=some (a1B O Z):=pT (fun⟨a0,a1⟩ ⟨b0,b1⟩ h1 h2=>by cases h1;cases h2;rfl) (O,Z)
end
@[reducible,go_sem] def aCV:Nat×Sig:=(175,⟨[.v,.v,.v],aCU,[],[],none⟩)
theorem FC:Env Tryz.prog [C5,qE] (pK [aBD]):=⟨⟨F2,⟨qG,trivial⟩⟩,pA aKL pV,pN⟩
theorem aK9:pM Tryz.prog aCV:=by
 refine pU FC Tryz.func175 (c:=_) rfl (N:=21) (by kernel_rfl) (ts:=[(6,none)]) rfl (fun _ _=>rfl) ?_
 intro⟨O,Z⟩ hs hrow
 dsimp only[a1z,a1A,a1B,pP,enumH,pG,pL,pR,Nat.reduceAdd] at hs hrow⊢
 have hz:=hs
 obtain⟨z0,hC0⟩:=Option.isSome_iff_exists.1 hz
 try rw[q7 hC0]
 clear hz hs
 unfold K1 at hC0
 refine p4 FC ?_
 refine pC ?_
 refine p4 FC ?_
 refine q8 ?_
 obtain⟨y1,hy1,hC0⟩:=tE hC0
 refine rN 0 (fun s=> ∃v,y1= .inl v∧s=(fun _=>⟨[],[],0,21,0⟩) v) ?_ ?_
 ·refine rM hy1 (fun x=>⟨[(1,(.val .clo (some (122,[])),none)),(2,(.val .bool Z,none)),(10,(.val .ref (some (0,0)),none))],[(0,.iter O x)],1,21,0⟩) ⟨[1,2,10],[(0,64)]⟩ (by rfl) ?_
  intro aA w1 n1 hC1 hN1
  unfold N2 at hC1
  dsimp only at hC1⊢
  refine p4 FC ?_
  refine pC ?_
  refine pB hC1 (fun hC1 hc1=> ?_) (fun hC1 hc1=> ?_)
  ·refine pJ (p9 (q8 ?_))
   obtain⟨hg1,hC1⟩:=p6 hC1
   obtain⟨hg2,hC1⟩:=p6 hC1
   refine p4 FC ?_ (hp:=by exact And.intro hg1 (hg2))
   refine p4 FC ?_
   refine pB hC1 (fun hC1 hc2=> ?_) (fun hC1 hc2=> ?_)
   ·refine p4 FC ?_
    refine p8 (qC (tD (tC (qC (pZ ?_)))))
    cases hC1
    cases hN1
    dsimp only at hC0
    cases hC0
    exact⟨[],by rfl,by rfl,by rfl⟩
   ·refine pJ (pY ?_)
    cases hC1
    exact qU ⟨⟨[1,2,10],[(0,0)]⟩,_,by rfl,hN1⟩
  ·refine rE (rJ (rG ?_))
   cases hC1
   cases hN1
   exact rF ⟨⟨[],[]⟩,_,rfl,by rfl⟩
 ·rintro _ ⟨v,rfl,rfl⟩
  dsimp only at hC0⊢
  refine rL (p9 ?_)
  refine p4 FC ?_
  refine p8 ?_
  cases hC0
  exact⟨[],by rfl,by rfl,by rfl⟩
attribute [irreducible] K1
end
end Go.Proofs.YtbbpilohihldiaaGreatDoor
namespace Go.Proofs.YtbbpilohihldiaaGreatDoor
open Vc
set_option maxRecDepth 100000
set_option maxHeartbeats 4000000
set_option linter.unusedSimpArgs false
set_option linter.unusedVariables false
noncomputable section
def HH (O:(List UInt8)):Option Int:=
 (K1 O true).bind fun Z=>
 some (Z)
section
variable (O:(List UInt8))
@[reducible] def a1C:List Slot:=[(.val .str O,none),(.val .clo (some (122,[])),none)]
@[reducible] def a1D:List Blk:=[]
@[go_sem] def a1E:Ret:=⟨[((HH O)).isSome=true],[(.val (.int .i64) (val (HH O)),none)],[]⟩
def aCW:List Slot→List Blk→Option Ret:=pS (V:=(List UInt8)) (fun x=>a1C x) (fun x=>a1D) fun x=>a1E x
@[go_sem] theorem aQd:aCW (no_index (a1C O)) (no_index a1D)=some (a1E O):=pT (fun a0 b0 h1 h2=>by cases h1;cases h2;rfl) O
end
@[reducible,go_sem] def aCX:Nat×Sig:=(121,⟨[.v,.v],aCW,[],[],none⟩)
theorem a1F:Env Tryz.prog [] (pK [aCV]):=⟨trivial,pA aK9 pV,pN⟩
theorem aLa:pM Tryz.prog aCX:=by
 refine pU a1F Tryz.func121 (c:=_) rfl (N:=8) (by kernel_rfl) (ts:=[(4,none)]) rfl (fun _ _=>rfl) ?_
 intro O hs hrow
 dsimp only[a1C,a1D,a1E,pP,enumH,pG,pL,pR,Nat.reduceAdd] at hs hrow⊢
 have hz:=hs
 obtain⟨z0,hC0⟩:=Option.isSome_iff_exists.1 hz
 try rw[q7 hC0]
 clear hz hs
 unfold HH at hC0
 refine p4 a1F ?_
 obtain⟨Z,hv1,hw1,hC0⟩:=pE hC0
 try simp only[go_sem] at hw1
 refine p4 a1F ?_ (hp:=by exact(pD hv1)) (h:=by simp only[go_sem,hw1];rfl)
 refine p8 ?_
 cases hC0
 exact⟨[],by rfl,by rfl,by rfl⟩
attribute [irreducible] HH
def S2:(Int×List UInt8)→(List Int)→Option ((List Int)⊕(List UInt8)):=fun O Z=>
 (A8 (Z,()) O.2).bind fun aA=>
 some (.inl (Z++rH O.2))
def HI (O:s9):Option (List UInt8):=
 if List.length O.2.1≤4611686018427387904 then
  qW (AY (S2) (zM O) ([]:List Int)) fun Z=>
  some ((qY Z))
 else none
section
variable (O:s9)
@[reducible] def a1G:List Slot:=[(.val uB O,none)]
@[reducible] def a1H:List Blk:=[]
@[go_sem] def a1I:Ret:=⟨[((HI O)).isSome=true],[(.val .str (val (HI O)),none)],[]⟩
def aCY:List Slot→List Blk→Option Ret:=pS (V:=s9) (fun x=>a1G x) (fun x=>a1H) fun x=>a1I x
@[go_sem] theorem aQe:aCY (no_index (a1G O)) (no_index a1H)=some (a1I O):=pT (fun a0 b0 h1 h2=>by cases h1;cases h2;rfl) O
end
@[reducible,go_sem] def aCZ:Nat×Sig:=(25,⟨[.v],aCY,[],[],none⟩)
theorem HJ:Env Tryz.prog [EZ,DD] (pK [aBm,RN,MM]):=⟨⟨JJ,⟨HB,trivial⟩⟩,pA aKJ (pA XZ (pA RM pV)),pN⟩
theorem aLb:pM Tryz.prog aCZ:=by
 refine pU HJ Tryz.func25 (c:=_) rfl (N:=13) (by kernel_rfl) (ts:=[(2,none)]) rfl (fun _ _=>rfl) ?_
 intro O hs hrow
 dsimp only[a1G,a1H,a1I,pP,enumH,pG,pL,pR,Nat.reduceAdd] at hs hrow⊢
 have hz:=hs
 obtain⟨z0,hC0⟩:=Option.isSome_iff_exists.1 hz
 try rw[q7 hC0]
 clear hz hs
 unfold HI at hC0
 refine p4 HJ ?_
 refine p4 HJ ?_
 refine pC ?_
 refine p4 HJ ?_
 refine q8 ?_
 obtain⟨hgF2,hC0⟩:=p6 hC0
 obtain⟨y1,hy1,hC0⟩:=tE hC0
 refine aKb aKj aKe (by rfl) (by rfl) hgF2 hy1 [(3,(.val .ref (some (0,0)),none))] (fun Z=>[(3,(.val .ref (some (0,0)),none)),(5,(.val .str Z.2,none))]) (fun x=>[.cells uX ((some (0,0)),(x,())) [(1,1)],.grow 5 1 (List.length x)]) 1 ⟨[3],[(0,64),(1,65)]⟩ (by rfl) (by rfl) (by rfl) (by rfl) (Nat.le_of_ble_eq_true (by rfl)) (fun _=>Nat.le_of_ble_eq_true rfl) (fun _=>by rfl) (fun _=>rfl) (by rfl) ?_ ?_
 ·intro Z aA w1 hC1 hN1
  refine⟨?_,?_⟩
  ·dsimp only[MF,aAR,rT,enumH,pG,Nat.reduceAdd,List.toList_toArray]
   refine pW HJ ?_
   exact aKc ⟨[3,5],[(0,0),(1,1)]⟩ (by rfl)
  ·unfold S2 at hC1
   dsimp only[enumH,pG,Nat.reduceAdd] at hC1⊢
   refine q8 ?_
   obtain⟨aB,hv1,hw1,hC1⟩:=pE hC1
   try simp only[go_sem] at hw1
   refine pW HJ ?_ (hp:=by exact And.intro (by first|exact rfl|exact trivial) ((pD hv1))) (h:=by simp only[go_sem,hw1];rfl)
   refine pY ?_
   cases hC1
   exact aKd ⟨[],[(0,0),(1,1)]⟩ _ rfl (by rfl)
 ·rintro aA rfl
  dsimp only[enumH,pG,Nat.reduceAdd] at hC0⊢
  refine pY (p9 ?_)
  refine p4 HJ ?_ (hp:=by exact(by first|exact rfl|exact trivial))
  refine p8 ?_
  cases hC0
  exact⟨[],by rfl,by rfl,by rfl⟩
attribute [irreducible] HI
def K2 (O:qR):Option Unit:=
 if p5 ((List.length O.1:Int)+(List.length O.2.1:Int)) then
  if p5 (((List.length O.1:Int)+(List.length O.2.1:Int))+(List.length O.2.2.1:Int)) then
   if (((decide ((((List.length O.1:Int)+(List.length O.2.1:Int))+(List.length O.2.2.1:Int))≤(6000:Int)))==true)=true→((vU O.2.2.2.1 O.2.2.2.2.2.2.1)).isSome=true) then
    if (((decide ((((List.length O.1:Int)+(List.length O.2.1:Int))+(List.length O.2.2.1:Int))≤(6000:Int)))==true)=true→((vU O.2.2.2.2.1 ([]:List pO))).isSome=true) then
     if (((decide ((((List.length O.1:Int)+(List.length O.2.1:Int))+(List.length O.2.2.1:Int))≤(6000:Int)))==true)=true→p5 ((val (vU O.2.2.2.1 O.2.2.2.2.2.2.1))+(val (vU O.2.2.2.2.1 ([]:List pO))))) then
      some (())
     else none
    else none
   else none
  else none
 else none
section
variable (O:qR)
@[reducible] def a1J:List Slot:=[(.val qQ O,none)]
@[reducible] def a1K:List Blk:=[]
@[go_sem] def a1L:Ret:=⟨[((K2 O)).isSome=true],[(.val .bool ((decide ((((List.length O.1:Int)+(List.length O.2.1:Int))+(List.length O.2.2.1:Int))≤(6000:Int)))&&(decide (((val (vU O.2.2.2.1 O.2.2.2.2.2.2.1))+(val (vU O.2.2.2.2.1 ([]:List pO))))≤(6000:Int)))),none)],[]⟩
def aC0:List Slot→List Blk→Option Ret:=pS (V:=qR) (fun x=>a1J x) (fun x=>a1K) fun x=>a1L x
@[go_sem] theorem aQf:aC0 (no_index (a1J O)) (no_index a1K)=some (a1L O):=pT (fun a0 b0 h1 h2=>by cases h1;cases h2;rfl) O
end
@[reducible,go_sem] def aC1:Nat×Sig:=(35,⟨[.v],aC0,[],[],none⟩)
theorem a1M:Env Tryz.prog [qE,sK,uC,wI] (pK [Y3]):=⟨⟨qG,⟨sU,⟨uY,⟨y4,trivial⟩⟩⟩⟩,pA aBp pV,pN⟩
theorem aLc:pM Tryz.prog aC1:=by
 refine pU a1M Tryz.func35 (c:=_) rfl (N:=27) (by kernel_rfl) (ts:=[(2,none)]) rfl (fun _ _=>rfl) ?_
 intro O hs hrow
 dsimp only[a1J,a1K,a1L,pP,enumH,pG,pL,pR,Nat.reduceAdd] at hs hrow⊢
 have hz:=hs
 obtain⟨z0,hC0⟩:=Option.isSome_iff_exists.1 hz
 try rw[q7 hC0]
 clear hz hs
 unfold K2 at hC0
 refine p4 a1M ?_
 obtain⟨hg1,hC0⟩:=p6 hC0
 obtain⟨hg2,hC0⟩:=p6 hC0
 obtain⟨hg3,hC0⟩:=p6 hC0
 obtain⟨hg4,hC0⟩:=p6 hC0
 obtain⟨hg5,hC0⟩:=p6 hC0
 refine tV a1M ?_ (hp:=by exact And.intro hg1 (And.intro hg2 (And.intro (fun hh=>hh) (And.intro (fun hh=>hh) (And.intro (fun hh=>hh) (And.intro (fun hh=>hh) (And.intro hg3 (And.intro (fun hh=>hh) (And.intro (fun hh=>hh) (And.intro hg4 (And.intro (fun hh=>hh) (And.intro (fun hh=>hh) (And.intro hg5 (And.intro (fun hh=>hh) ((fun hh=>qH hh))))))))))))))))
 refine p8 ?_
 cases hC0
 exact⟨[],by rfl,by rfl,by rfl⟩
attribute [irreducible] K2
def N3 (O:s9):((List UInt8)×Int)→Option (((List UInt8)×Int)⊕(List UInt8)):=fun(Z,aA)=>
 if (decide (aA<(List.length ((([O.1]:List (List UInt8))++O.2.1)++([O.2.2.1]:List (List UInt8))):Int)))=true then
  if 0≤aA∧aA<(List.length ((([O.1]:List (List UInt8))++O.2.1)++([O.2.2.1]:List (List UInt8))):Int) then
   if ((Z++(pI .str ((([O.1]:List (List UInt8))++O.2.1)++([O.2.2.1]:List (List UInt8))) aA)).length:Int)≤9223372036854775807 then
    if p5 (aA+(1:Int)) then
     some (.inl ((Z++(pI .str ((([O.1]:List (List UInt8))++O.2.1)++([O.2.2.1]:List (List UInt8))) aA)),(aA+(1:Int))))
    else none
   else none
  else none
 else
  some (.inr Z)
def HK (O:s9):Option (List UInt8):=
 (DG O).bind fun Z=>
 qD (pQ (N3 O) (([]:List UInt8),(0:Int))) fun aA=>
 some (aA)
section
variable (O:s9)
@[reducible] def a1N:List Slot:=[(.val uB O,none)]
@[reducible] def a1O:List Blk:=[]
@[go_sem] def a1P:Ret:=⟨[((HK O)).isSome=true],[(.val .str (val (HK O)),none)],[]⟩
def aC2:List Slot→List Blk→Option Ret:=pS (V:=s9) (fun x=>a1N x) (fun x=>a1O) fun x=>a1P x
@[go_sem] theorem aQg:aC2 (no_index (a1N O)) (no_index a1O)=some (a1P O):=pT (fun a0 b0 h1 h2=>by cases h1;cases h2;rfl) O
end
@[reducible,go_sem] def aC3:Nat×Sig:=(58,⟨[.v],aC2,[],[],none⟩)
theorem DQ:Env Tryz.prog [qE,sK,C2] (pK [Y7]):=⟨⟨qG,⟨sU,⟨F0,trivial⟩⟩⟩,pA aBr pV,pN⟩
theorem aLd:pM Tryz.prog aC3:=by
 refine pU DQ Tryz.func58 (c:=_) rfl (N:=21) (by kernel_rfl) (ts:=[(2,none)]) rfl (fun _ _=>rfl) ?_
 intro O hs hrow
 dsimp only[a1N,a1O,a1P,pP,enumH,pG,pL,pR,Nat.reduceAdd] at hs hrow⊢
 have hz:=hs
 obtain⟨z0,hC0⟩:=Option.isSome_iff_exists.1 hz
 try rw[q7 hC0]
 clear hz hs
 unfold HK at hC0
 refine p4 DQ ?_
 refine p4 DQ ?_
 obtain⟨Z,hv1,hw1,hC0⟩:=pE hC0
 try simp only[go_sem] at hw1
 refine p4 DQ ?_ (hp:=by exact(pD hv1)) (h:=by simp only[go_sem,hw1];rfl)
 refine pC ?_
 refine p4 DQ ?_
 refine q8 ?_
 obtain⟨aA,hy1,hC0⟩:=p7 hC0
 refine rN 0 (fun s=>s=(fun x=>⟨[(3,(.val .str x,none))],[],0,21,0⟩) aA) ?_ ?_
 ·refine rM hy1 (fun x=>⟨[(3,(.val .str x.1,none)),(4,(.val (.list .str) ((([O.1]:List (List UInt8))++O.2.1)++([O.2.2.1]:List (List UInt8))),some 0)),(5,(.val (.int .i64) x.2,none))],[(0,.grow 9 1 (List.length ((([O.1]:List (List UInt8))++O.2.1)++([O.2.2.1]:List (List UInt8)))))],1,21,0⟩) ⟨[3,4,5],[(0,128)]⟩ (by rfl) ?_
  intro x1 w1 n1 hC1 hN1
  obtain⟨aB,aC⟩:=x1
  unfold N3 at hC1
  dsimp only at hC1⊢
  refine pC ?_
  refine p4 DQ ?_
  refine pB hC1 (fun hC1 hc1=> ?_) (fun hC1 hc1=> ?_)
  ·refine pJ (p9 (pC (q8 ?_)))
   obtain⟨hg2,hC1⟩:=p6 hC1
   obtain⟨hg3,hC1⟩:=p6 hC1
   refine pW DQ ?_ (hp:=by exact And.intro hg2 (hg3))
   refine pY (p9 ?_)
   obtain⟨hg4,hC1⟩:=p6 hC1
   refine pW DQ ?_ (hp:=by exact hg4)
   cases hC1
   exact qU ⟨⟨[3,4,5],[(0,0)]⟩,_,by rfl,hN1⟩
  ·refine rE (rJ (rG ?_))
   cases hC1
   cases hN1
   exact rF ⟨⟨[3],[]⟩,by rfl⟩
 ·rintro _ rfl
  dsimp only at hC0⊢
  refine rL (p9 ?_)
  refine p4 DQ ?_
  refine p8 ?_
  cases hC0
  exact⟨[],by rfl,by rfl,by rfl⟩
attribute [irreducible] HK
end
end Go.Proofs.YtbbpilohihldiaaGreatDoor
namespace Go.Proofs.YtbbpilohihldiaaGreatDoor
open Vc
set_option maxRecDepth 100000
set_option maxHeartbeats 4000000
set_option linter.unusedSimpArgs false
set_option linter.unusedVariables false
noncomputable section
def N4 (O:s9) (Z:s9):((List (Int×((List UInt8)×Unit)))×Int)→Option (((List (Int×((List UInt8)×Unit)))×Int)⊕(List (Int×((List UInt8)×Unit)))):=fun(aA,aB)=>
 if (decide (aB<(List.length ((([O.1]:List (List UInt8))++O.2.1)++([O.2.2.1]:List (List UInt8))):Int)))=true then
  if 0≤aB∧aB<(List.length ((([O.1]:List (List UInt8))++O.2.1)++([O.2.2.1]:List (List UInt8))):Int) then
   if 0≤aB∧aB<(List.length ((([Z.1]:List (List UInt8))++Z.2.1)++([Z.2.2.1]:List (List UInt8))):Int) then
    if (!decide ((pI .str ((([O.1]:List (List UInt8))++O.2.1)++([O.2.2.1]:List (List UInt8))) aB)=(pI .str ((([Z.1]:List (List UInt8))++Z.2.1)++([Z.2.2.1]:List (List UInt8))) aB)))=true then
     if 0≤aB∧aB<(List.length ((([O.1]:List (List UInt8))++O.2.1)++([O.2.2.1]:List (List UInt8))):Int) then
      if (List.length aA+List.length ([(aB,((pI .str ((([O.1]:List (List UInt8))++O.2.1)++([O.2.2.1]:List (List UInt8))) aB),()))]:List (Int×((List UInt8)×Unit))))*24≤140737488355328 then
       if p5 (aB+(1:Int)) then
        some (.inl ((aA++([(aB,((pI .str ((([O.1]:List (List UInt8))++O.2.1)++([O.2.2.1]:List (List UInt8))) aB),()))]:List (Int×((List UInt8)×Unit)))),(aB+(1:Int))))
       else none
      else none
     else none
    else
     if p5 (aB+(1:Int)) then
      some (.inl (aA,(aB+(1:Int))))
     else none
   else none
  else none
 else
  some (.inr aA)
def DR (O:s9) (Z:s9):Option ((List (Int×((List UInt8)×Unit)))×Int):=
 if (!decide ((List.length O.2.1:Int)=(List.length Z.2.1:Int)))=true then
  some ((([]:List (Int×((List UInt8)×Unit))),(1:Int)))
 else
  (DG O).bind fun aA=>
  (DG Z).bind fun aB=>
  qD (pQ (N4 O Z) (([]:List (Int×((List UInt8)×Unit))),(0:Int))) fun aC=>
  some ((aC,(0:Int)))
section
variable (O:s9) (Z:s9)
@[reducible] def a1Q:List Slot:=[(.val uB O,none),(.val uB Z,none)]
@[reducible] def a1R:List Blk:=[]
@[go_sem] def a1S:Ret:=⟨[((DR O Z)).isSome=true],[(.val (.list MI) ((val (DR O Z)).1),some 0),(.val (.int .i64) ((val (DR O Z)).2),none)],[.grow 122 2 (List.length ((val (DR O Z)).1))]⟩
def aC4:List Slot→List Blk→Option Ret:=pS (V:=(s9×s9)) (fun x=>a1Q x.1 x.2) (fun x=>a1R) fun x=>a1S x.1 x.2
@[go_sem] theorem aQh:aC4 (no_index (a1Q O Z)) (no_index a1R)=some (a1S O Z):=pT (fun⟨a0,a1⟩ ⟨b0,b1⟩ h1 h2=>by cases h1;cases h2;rfl) (O,Z)
end
@[reducible,go_sem] def aC5:Nat×Sig:=(49,⟨[.v,.v],aC4,[],[],none⟩)
theorem zS:Env Tryz.prog [qE,sK,C2,RJ,XF] (pK [Y7]):=⟨⟨qG,⟨sU,⟨F0,⟨aA3,⟨aKw,trivial⟩⟩⟩⟩⟩,pA aBr pV,pN⟩
theorem aLe:pM Tryz.prog aC5:=by
 refine pU zS Tryz.func49 (c:=_) rfl (N:=46) (by kernel_rfl) (ts:=[(4,none),(5,none)]) rfl (fun _ _=>rfl) ?_
 intro⟨O,Z⟩ hs hrow
 dsimp only[a1Q,a1R,a1S,pP,enumH,pG,pL,pR,Nat.reduceAdd] at hs hrow⊢
 have hz:=hs
 obtain⟨z0,hC0⟩:=Option.isSome_iff_exists.1 hz
 try rw[q7 hC0]
 clear hz hs
 unfold DR at hC0
 refine p4 zS ?_
 refine pC ?_
 refine p4 zS ?_
 refine pB hC0 (fun hC0 hc1=> ?_) (fun hC0 hc1=> ?_)
 ·refine p4 zS ?_
  refine p8 (pZ ?_)
  cases hC0
  exact⟨[(0,352)],by rfl,by rfl,by rfl⟩
 ·refine pJ (p9 ?_)
  refine p4 zS ?_
  obtain⟨aA,hv1,hw1,hC0⟩:=pE hC0
  try simp only[go_sem] at hw1
  obtain⟨aB,hv2,hw2,hC0⟩:=pE hC0
  try simp only[go_sem] at hw2
  refine tV zS ?_ (hp:=by exact And.intro (pD hv1) ((pD hv2))) (h:=by simp only[go_sem,hw1,hw2];rfl)
  refine pC ?_
  refine p4 zS ?_
  refine q8 ?_
  obtain⟨aC,hy1,hC0⟩:=p7 hC0
  refine rN 0 (fun s=>s=(fun x=>⟨[(6,(.val (.list MI) x,some 0))],[(0,.grow 122 2 (List.length x))],1,46,0⟩) aC) ?_ ?_
  ·refine rM hy1 (fun x=>⟨[(6,(.val (.list MI) x.1,some 0)),(7,(.val (.list .str) ((([O.1]:List (List UInt8))++O.2.1)++([O.2.2.1]:List (List UInt8))),some 1)),(8,(.val (.list .str) ((([Z.1]:List (List UInt8))++Z.2.1)++([Z.2.2.1]:List (List UInt8))),some 2)),(9,(.val (.int .i64) x.2,none))],[(0,.grow 122 2 (List.length x.1)),(1,.grow 9 1 (List.length ((([O.1]:List (List UInt8))++O.2.1)++([O.2.2.1]:List (List UInt8))))),(2,.grow 9 1 (List.length ((([Z.1]:List (List UInt8))++Z.2.1)++([Z.2.2.1]:List (List UInt8)))))],3,46,0⟩) ⟨[6,7,8,9],[(0,352),(1,416),(2,480)]⟩ (by rfl) ?_
   intro x1 w1 n1 hC1 hN1
   obtain⟨aD,aE⟩:=x1
   unfold N4 at hC1
   dsimp only at hC1⊢
   refine pC ?_
   refine p4 zS ?_
   refine pB hC1 (fun hC1 hc2=> ?_) (fun hC1 hc2=> ?_)
   ·refine pJ (p9 (pC (q8 ?_)))
    obtain⟨hg3,hC1⟩:=p6 hC1
    obtain⟨hg4,hC1⟩:=p6 hC1
    refine tV zS ?_ (hp:=by exact And.intro hg3 (hg4))
    refine pB hC1 (fun hC1 hc3=> ?_) (fun hC1 hc3=> ?_)
    ·obtain⟨hg5,hC1⟩:=p6 hC1
     obtain⟨hg6,hC1⟩:=p6 hC1
     refine pW zS ?_ (hp:=by exact And.intro hg5 (And.intro (by first|exact rfl|exact trivial) (hg6)))
     refine pY (p9 ?_)
     obtain⟨hg7,hC1⟩:=p6 hC1
     refine pW zS ?_ (hp:=by exact hg7)
     cases hC1
     exact qU ⟨⟨[6,7,8,9],[(0,0),(1,1),(2,2)]⟩,_,by rfl,hN1⟩
    ·refine pJ (pY (p9 ?_))
     obtain⟨hg8,hC1⟩:=p6 hC1
     refine pW zS ?_ (hp:=by exact hg8)
     cases hC1
     exact qU ⟨⟨[6,7,8,9],[(0,0),(1,1),(2,2)]⟩,_,by rfl,hN1⟩
   ·refine rE (rJ (rG ?_))
    cases hC1
    cases hN1
    exact rF ⟨⟨[6],[(0,0)]⟩,by rfl⟩
  ·rintro _ rfl
   dsimp only at hC0⊢
   refine rL (p9 ?_)
   refine p4 zS ?_
   refine p8 ?_
   cases hC0
   exact⟨[(0,0)],by rfl,by rfl,by rfl⟩
attribute [irreducible] DR
end
end Go.Proofs.YtbbpilohihldiaaGreatDoor
namespace Go.Proofs.YtbbpilohihldiaaGreatDoor
open Vc
set_option maxRecDepth 100000
set_option maxHeartbeats 4000000
set_option linter.unusedSimpArgs false
set_option linter.unusedVariables false
noncomputable section
def N7 (O:(List UInt8)):Int→Option (Int⊕(Unit⊕Bool)):=fun Z=>
 if (decide (Z<(List.length O:Int)))=true then
  if 0≤Z∧Z<(List.length O:Int) then
   if ((((!((decide ((97:Int)≤(pF O Z)))&&(decide ((pF O Z)≤(122:Int)))))&&(!((decide ((48:Int)≤(pF O Z)))&&(decide ((pF O Z)≤(57:Int))))))&&(!decide ((pF O Z)=(45:Int))))&&((decide ((pF O Z)<(65:Int)))||(decide ((90:Int)<(pF O Z)))))=true then
    some (.inr (.inr (false)))
   else
    if p5 (Z+(1:Int)) then
     some (.inl (Z+(1:Int)))
    else none
  else none
 else
  some (.inr (.inl ()))
def HN (O:(List UInt8)):Option Bool:=
 qW (pQ (N7 O) (0:Int)) fun _=>
 some (((decide ((1:Int)≤(List.length O:Int)))&&(decide ((List.length O:Int)≤(40:Int)))))
section
variable (O:(List UInt8))
@[reducible] def a1T:List Slot:=[(.val .str O,none)]
@[reducible] def a1U:List Blk:=[]
@[go_sem] def a1V:Ret:=⟨[((HN O)).isSome=true],[(.val .bool (val (HN O)),none)],[]⟩
def aC6:List Slot→List Blk→Option Ret:=pS (V:=(List UInt8)) (fun x=>a1T x) (fun x=>a1U) fun x=>a1V x
@[go_sem] theorem aQi:aC6 (no_index (a1T O)) (no_index a1U)=some (a1V O):=pT (fun a0 b0 h1 h2=>by cases h1;cases h2;rfl) O
end
@[reducible,go_sem] def aC7:Nat×Sig:=(114,⟨[.v],aC6,[],[],none⟩)
theorem DS:Env Tryz.prog [qE] (pK [ZP,ZU]):=⟨⟨qG,trivial⟩,pA aBW (pA aBZ pV),pN⟩
theorem aLf:pM Tryz.prog aC7:=by
 refine pU DS Tryz.func114 (c:=_) rfl (N:=42) (by kernel_rfl) (ts:=[(2,none)]) rfl (fun _ _=>rfl) ?_
 intro O hs hrow
 dsimp only[a1T,a1U,a1V,pP,enumH,pG,pL,pR,Nat.reduceAdd] at hs hrow⊢
 have hz:=hs
 obtain⟨z0,hC0⟩:=Option.isSome_iff_exists.1 hz
 try rw[q7 hC0]
 clear hz hs
 unfold HN at hC0
 refine p4 DS ?_
 refine pC ?_
 refine p4 DS ?_
 refine q8 ?_
 obtain⟨y1,hy1,hC0⟩:=tE hC0
 refine rN 0 (fun s=> ∃v,y1= .inl v∧s=(fun _=>⟨[(0,(.val .str O,none))],[],0,42,0⟩) v) ?_ ?_
 ·refine rM hy1 (fun x=>⟨[(0,(.val .str O,none)),(3,(.val (.int .i64) x,none))],[],0,42,0⟩) ⟨[0,3],[]⟩ (by rfl) ?_
  intro Z w1 n1 hC1 hN1
  unfold N7 at hC1
  dsimp only at hC1⊢
  refine pC ?_
  refine p4 DS ?_
  refine pB hC1 (fun hC1 hc1=> ?_) (fun hC1 hc1=> ?_)
  ·refine pJ (p9 (pC (q8 ?_)))
   obtain⟨hg1,hC1⟩:=p6 hC1
   refine p4 DS ?_ (hp:=by exact hg1)
   refine p4 DS ?_ (hp:=by exact And.intro (fun hh=>hh) (And.intro (fun hh=>hh) (And.intro (fun hh=>qH hh) (And.intro (fun hh=>hh) (And.intro (fun hh=>qH hh) (And.intro (fun hh=>hh) (And.intro (fun hh=>hh) (And.intro (fun hh=>hh) (And.intro (fun hh=>hh) (And.intro (fun hG hh=>C1 hG hh) ((fun hh=>qH hh))))))))))))
   refine pB hC1 (fun hC1 hc2=> ?_) (fun hC1 hc2=> ?_)
   ·refine p4 DS ?_
    refine p8 (qC (pZ (tD (tC (qC (pZ ?_))))))
    cases hC1
    cases hN1
    dsimp only at hC0
    cases hC0
    exact⟨[],by rfl,by rfl,by rfl⟩
   ·refine pJ (pY (p9 ?_))
    obtain⟨hg2,hC1⟩:=p6 hC1
    refine pW DS ?_ (hp:=by exact hg2)
    cases hC1
    exact qU ⟨⟨[0,3],[]⟩,_,by rfl,hN1⟩
  ·refine rE (rJ (rG ?_))
   cases hC1
   cases hN1
   exact rF ⟨⟨[0],[]⟩,_,rfl,by rfl⟩
 ·rintro _ ⟨v,rfl,rfl⟩
  dsimp only at hC0⊢
  refine rL (p9 ?_)
  refine p4 DS ?_ (hp:=by exact And.intro (fun hh=>hh) (And.intro (fun hh=>hh) ((fun hh=>qH hh))))
  refine p8 ?_
  cases hC0
  exact⟨[],by rfl,by rfl,by rfl⟩
attribute [irreducible] HN
def N8 (O:(List UInt8)):Int→Option (Int⊕(Unit⊕Bool)):=fun Z=>
 if (decide (Z<(List.length O:Int)))=true then
  if 0≤Z∧Z<(List.length O:Int) then
   if (((((!((decide ((97:Int)≤(pF O Z)))&&(decide ((pF O Z)≤(122:Int)))))&&(!((decide ((48:Int)≤(pF O Z)))&&(decide ((pF O Z)≤(57:Int))))))&&(!decide ((pF O Z)=(45:Int))))&&(!decide ((pF O Z)=(95:Int))))&&(!decide ((pF O Z)=(46:Int))))=true then
    some (.inr (.inr (false)))
   else
    if p5 (Z+(1:Int)) then
     some (.inl (Z+(1:Int)))
    else none
  else none
 else
  some (.inr (.inl ()))
def C9 (O:(List UInt8)):Option Bool:=
 if ((((decide ((List.length O:Int)<(1:Int)))||(decide ((40:Int)<(List.length O:Int))))==false)=true→0≤(0:Int)∧(0:Int)<(List.length O:Int)) then
  if (((decide ((List.length O:Int)<(1:Int)))||(decide ((40:Int)<(List.length O:Int))))||(!((decide ((97:Int)≤(pF O (0:Int))))&&(decide ((pF O (0:Int))≤(122:Int))))))=true then
   some (false)
  else
   qW (pQ (N8 O) (1:Int)) fun _=>
   some (true)
 else none
section
variable (O:(List UInt8))
@[reducible] def a1W:List Slot:=[(.val .str O,none)]
@[reducible] def a1X:List Blk:=[]
@[go_sem] def a1Y:Ret:=⟨[((C9 O)).isSome=true],[(.val .bool (val (C9 O)),none)],[]⟩
def aC8:List Slot→List Blk→Option Ret:=pS (V:=(List UInt8)) (fun x=>a1W x) (fun x=>a1X) fun x=>a1Y x
@[go_sem] theorem aQj:aC8 (no_index (a1W O)) (no_index a1X)=some (a1Y O):=pT (fun a0 b0 h1 h2=>by cases h1;cases h2;rfl) O
end
@[reducible,go_sem] def a1Z:Nat×Sig:=(116,⟨[.v],aC8,[],[],none⟩)
theorem B6:Env Tryz.prog [qE] (pK [ZP,ZU]):=⟨⟨qG,trivial⟩,pA aBW (pA aBZ pV),pN⟩
theorem aC9:pM Tryz.prog a1Z:=by
 refine pU B6 Tryz.func116 (c:=_) rfl (N:=48) (by kernel_rfl) (ts:=[(2,none)]) rfl (fun _ _=>rfl) ?_
 intro O hs hrow
 dsimp only[a1W,a1X,a1Y,pP,enumH,pG,pL,pR,Nat.reduceAdd] at hs hrow⊢
 have hz:=hs
 obtain⟨z0,hC0⟩:=Option.isSome_iff_exists.1 hz
 try rw[q7 hC0]
 clear hz hs
 unfold C9 at hC0
 refine p4 B6 ?_
 refine pC ?_
 obtain⟨hg1,hC0⟩:=p6 hC0
 refine p4 B6 ?_ (hp:=by exact And.intro (fun hh=>hh) (And.intro (fun hh=>hh) (And.intro (fun hh=>rW hh) (And.intro (fun hh=>hh) (And.intro hg1 (And.intro (fun hh=>hh) (And.intro (fun hh=>hh) ((fun hh=>rW hh)))))))))
 refine pB hC0 (fun hC0 hc1=> ?_) (fun hC0 hc1=> ?_)
 ·refine p4 B6 ?_
  refine p8 (pZ ?_)
  cases hC0
  exact⟨[],by rfl,by rfl,by rfl⟩
 ·refine pJ (p9 (pC ?_))
  refine p4 B6 ?_
  refine q8 ?_
  obtain⟨y1,hy1,hC0⟩:=tE hC0
  refine rN 0 (fun s=> ∃v,y1= .inl v∧s=(fun _=>⟨[],[],0,48,0⟩) v) ?_ ?_
  ·refine rM hy1 (fun x=>⟨[(0,(.val .str O,none)),(3,(.val (.int .i64) x,none))],[],0,48,0⟩) ⟨[0,3],[]⟩ (by rfl) ?_
   intro Z w1 n1 hC1 hN1
   unfold N8 at hC1
   dsimp only at hC1⊢
   refine pC ?_
   refine p4 B6 ?_
   refine pB hC1 (fun hC1 hc2=> ?_) (fun hC1 hc2=> ?_)
   ·refine pJ (p9 (pC (q8 ?_)))
    obtain⟨hg2,hC1⟩:=p6 hC1
    refine p4 B6 ?_ (hp:=by exact hg2)
    refine p4 B6 ?_ (hp:=by exact And.intro (fun hh=>hh) (And.intro (fun hh=>hh) (And.intro (fun hh=>qH hh) (And.intro (fun hh=>hh) (And.intro (fun hh=>qH hh) (And.intro (fun hh=>hh) (And.intro (fun hh=>qH hh) (And.intro (fun hh=>hh) ((fun hh=>qH hh))))))))))
    refine pB hC1 (fun hC1 hc3=> ?_) (fun hC1 hc3=> ?_)
    ·refine p4 B6 ?_
     refine p8 (qC (pZ (tD (tC (qC (pZ ?_))))))
     cases hC1
     cases hN1
     dsimp only at hC0
     cases hC0
     exact⟨[],by rfl,by rfl,by rfl⟩
    ·refine pJ (pY (p9 ?_))
     obtain⟨hg3,hC1⟩:=p6 hC1
     refine pW B6 ?_ (hp:=by exact hg3)
     cases hC1
     exact qU ⟨⟨[0,3],[]⟩,_,by rfl,hN1⟩
   ·refine rE (rJ (rG ?_))
    cases hC1
    cases hN1
    exact rF ⟨⟨[],[]⟩,_,rfl,by rfl⟩
  ·rintro _ ⟨v,rfl,rfl⟩
   dsimp only at hC0⊢
   refine rL (p9 ?_)
   refine p4 B6 ?_
   refine p8 ?_
   cases hC0
   exact⟨[],by rfl,by rfl,by rfl⟩
attribute [irreducible] C9
def HO (O:(List UInt8)) (Z:(List UInt8)):Option Unit:=
 (JU O Z).bind fun aA=>
 some (())
section
variable (O:(List UInt8)) (Z:(List UInt8))
@[reducible] def a2a:List Slot:=[(.val .str O,none),(.val .str Z,none)]
@[reducible] def a2b:List Blk:=[]
@[go_sem] def a2c:Ret:=⟨[((HO O Z)).isSome=true],[(.val .bool ((decide ((List.length Z:Int)≤(List.length O:Int)))&&(decide ((pH O (0:Int) (List.length Z:Int))=Z))),none)],[]⟩
def aDa:List Slot→List Blk→Option Ret:=pS (V:=((List UInt8)×(List UInt8))) (fun x=>a2a x.1 x.2) (fun x=>a2b) fun x=>a2c x.1 x.2
@[go_sem] theorem aQk:aDa (no_index (a2a O Z)) (no_index a2b)=some (a2c O Z):=pT (fun⟨a0,a1⟩ ⟨b0,b1⟩ h1 h2=>by cases h1;cases h2;rfl) (O,Z)
end
@[reducible,go_sem] def aDb:Nat×Sig:=(136,⟨[.v,.v],aDa,[],[],none⟩)
theorem a2d:Env Tryz.prog [] (pK [a0l]):=⟨trivial,pA aB7 pV,pN⟩
theorem aLg:pM Tryz.prog aDb:=by
 refine pU a2d Tryz.func136 (c:=_) rfl (N:=8) (by kernel_rfl) (ts:=[(4,none)]) rfl (fun _ _=>rfl) ?_
 intro⟨O,Z⟩ hs hrow
 dsimp only[a2a,a2b,a2c,pP,enumH,pG,pL,pR,Nat.reduceAdd] at hs hrow⊢
 have hz:=hs
 obtain⟨z0,hC0⟩:=Option.isSome_iff_exists.1 hz
 try rw[q7 hC0]
 clear hz hs
 unfold HO at hC0
 refine p4 a2d ?_
 obtain⟨aA,hv1,hw1,hC0⟩:=pE hC0
 try simp only[go_sem] at hw1
 refine p4 a2d ?_ (hp:=by exact(pD hv1)) (h:=by simp only[go_sem,hw1];rfl)
 refine p8 ?_
 cases hC0
 exact⟨[],by rfl,by rfl,by rfl⟩
attribute [irreducible] HO
def HP (O:(List UInt8)) (Z:(List UInt8)):Option ((List UInt8)×Bool):=
 (JV O Z).bind fun aA=>
 some ((aA.1,aA.2))
section
variable (O:(List UInt8)) (Z:(List UInt8))
@[reducible] def a2e:List Slot:=[(.val .str O,none),(.val .str Z,none)]
@[reducible] def a2f:List Blk:=[]
@[go_sem] def a2g:Ret:=⟨[((HP O Z)).isSome=true],[(.val .str ((val (HP O Z)).1),none),(.val .bool ((val (HP O Z)).2),none)],[]⟩
def aDc:List Slot→List Blk→Option Ret:=pS (V:=((List UInt8)×(List UInt8))) (fun x=>a2e x.1 x.2) (fun x=>a2f) fun x=>a2g x.1 x.2
@[go_sem] theorem aQl:aDc (no_index (a2e O Z)) (no_index a2f)=some (a2g O Z):=pT (fun⟨a0,a1⟩ ⟨b0,b1⟩ h1 h2=>by cases h1;cases h2;rfl) (O,Z)
end
@[reducible,go_sem] def aDd:Nat×Sig:=(137,⟨[.v,.v],aDc,[],[],none⟩)
theorem a2h:Env Tryz.prog [] (pK [aB9]):=⟨trivial,pA aKS pV,pN⟩
theorem aLh:pM Tryz.prog aDd:=by
 refine pU a2h Tryz.func137 (c:=_) rfl (N:=11) (by kernel_rfl) (ts:=[(4,none),(5,none)]) rfl (fun _ _=>rfl) ?_
 intro⟨O,Z⟩ hs hrow
 dsimp only[a2e,a2f,a2g,pP,enumH,pG,pL,pR,Nat.reduceAdd] at hs hrow⊢
 have hz:=hs
 obtain⟨z0,hC0⟩:=Option.isSome_iff_exists.1 hz
 try rw[q7 hC0]
 clear hz hs
 unfold HP at hC0
 refine p4 a2h ?_
 obtain⟨aA,hv1,hw1,hC0⟩:=pE hC0
 try simp only[go_sem] at hw1
 refine p4 a2h ?_ (hp:=by exact(pD hv1)) (h:=by simp only[go_sem,hw1];rfl)
 refine p8 ?_
 cases hC0
 exact⟨[],by rfl,by rfl,by rfl⟩
attribute [irreducible] HP
def aDe (O:Int) (Z:(List UInt8)) (aA:Int):Int→Option (Int⊕(Unit⊕Int)):=fun aB=>
 if (decide (aB<(List.length Z:Int)))=true then
  if 0≤aB∧aB<(List.length Z:Int) then
   if (decide ((pF Z aB)=aA))=true then
    some (.inr (.inr (aB)))
   else
    if (((!decide (O=(4:Int)))==true)=true→0≤aB∧aB<(List.length Z:Int)) then
     if ((!decide (O=(4:Int)))&&(decide ((pF Z aB)=(92:Int))))=true then
      if p5 (aB+(1:Int)) then
       if p5 ((aB+(1:Int))+(1:Int)) then
        some (.inl ((aB+(1:Int))+(1:Int)))
       else none
      else none
     else
      if p5 (aB+(1:Int)) then
       some (.inl (aB+(1:Int)))
      else none
    else none
  else none
 else
  some (.inr (.inl ()))
def HR (O:Int) (Z:(List UInt8)) (aA:Int):Option Int:=
 if (!((decide ((1:Int)≤O))&&(decide (O≤(4:Int)))))=true then
  some ((-1:Int))
 else
  qW (pQ (aDe O Z aA) (0:Int)) fun _=>
  some ((-1:Int))
section
variable (O:Int) (Z:(List UInt8)) (aA:Int)
@[reducible] def a2i:List Slot:=[(.val (.int .i64) O,none),(.val .str Z,none),(.val (.int .u8) aA,none)]
@[reducible] def a2j:List Blk:=[]
@[go_sem] def a2k:Ret:=⟨[((HR O Z aA)).isSome=true],[(.val (.int .i64) (val (HR O Z aA)),none)],[]⟩
def aDf:List Slot→List Blk→Option Ret:=pS (V:=(Int×(List UInt8)×Int)) (fun x=>a2i x.1 x.2.1 x.2.2) (fun x=>a2j) fun x=>a2k x.1 x.2.1 x.2.2
@[go_sem] theorem aQm:aDf (no_index (a2i O Z aA)) (no_index a2j)=some (a2k O Z aA):=pT (fun⟨a0,a1,a2⟩ ⟨b0,b1,b2⟩ h1 h2=>by cases h1;cases h2;rfl) (O,Z,aA)
end
@[reducible,go_sem] def aDg:Nat×Sig:=(139,⟨[.v,.v,.v],aDf,[],[],none⟩)
theorem zT:Env Tryz.prog [qE] (pK [RQ]):=⟨⟨qG,trivial⟩,pA ZB pV,pN⟩
theorem aLi:pM Tryz.prog aDg:=by
 refine pU zT Tryz.func139 (c:=_) rfl (N:=33) (by kernel_rfl) (ts:=[(6,none)]) rfl (fun _ _=>rfl) ?_
 intro⟨O,Z,aA⟩ hs hrow
 dsimp only[a2i,a2j,a2k,pP,enumH,pG,pL,pR,Nat.reduceAdd] at hs hrow⊢
 have hz:=hs
 obtain⟨z0,hC0⟩:=Option.isSome_iff_exists.1 hz
 try rw[q7 hC0]
 clear hz hs
 unfold HR at hC0
 refine p4 zT ?_
 refine pC ?_
 refine p4 zT ?_
 refine pB hC0 (fun hC0 hc1=> ?_) (fun hC0 hc1=> ?_)
 ·refine p4 zT ?_
  refine p8 (pZ ?_)
  cases hC0
  exact⟨[],by rfl,by rfl,by rfl⟩
 ·refine pJ (p9 (pC ?_))
  refine p4 zT ?_
  refine q8 ?_
  obtain⟨y1,hy1,hC0⟩:=tE hC0
  refine rN 0 (fun s=> ∃v,y1= .inl v∧s=(fun _=>⟨[],[],0,33,0⟩) v) ?_ ?_
  ·refine rM hy1 (fun x=>⟨[(0,(.val (.int .i64) O,none)),(1,(.val .str Z,none)),(2,(.val (.int .u8) aA,none)),(7,(.val (.int .i64) x,none))],[],0,33,0⟩) ⟨[0,1,2,7],[]⟩ (by rfl) ?_
   intro aB w1 n1 hC1 hN1
   unfold aDe at hC1
   dsimp only at hC1⊢
   refine pC ?_
   refine p4 zT ?_
   refine pB hC1 (fun hC1 hc2=> ?_) (fun hC1 hc2=> ?_)
   ·refine pJ (p9 (pC (q8 (pC ?_))))
    obtain⟨hg1,hC1⟩:=p6 hC1
    refine p4 zT ?_ (hp:=by exact hg1)
    refine pB hC1 (fun hC1 hc3=> ?_) (fun hC1 hc3=> ?_)
    ·refine p4 zT ?_
     refine p8 (pZ (qC (pZ (tD (tC (qC (pZ ?_)))))))
     cases hC1
     cases hN1
     dsimp only at hC0
     cases hC0
     exact⟨[],by rfl,by rfl,by rfl⟩
    ·refine pJ (p9 ?_)
     obtain⟨hg2,hC1⟩:=p6 hC1
     refine p4 zT ?_ (hp:=by exact And.intro (fun hh=>hh) (And.intro (fun hh=>hh) (And.intro hg2 (And.intro (fun hh=>hh) ((fun hh=>qH hh))))))
     refine pB hC1 (fun hC1 hc4=> ?_) (fun hC1 hc4=> ?_)
     ·obtain⟨hg3,hC1⟩:=p6 hC1
      refine pW zT ?_ (hp:=by exact hg3)
      refine pY (p9 ?_)
      obtain⟨hg4,hC1⟩:=p6 hC1
      refine pW zT ?_ (hp:=by exact hg4)
      cases hC1
      exact qU ⟨⟨[0,1,2,7],[]⟩,_,by rfl,hN1⟩
     ·refine pJ (pY (p9 ?_))
      obtain⟨hg5,hC1⟩:=p6 hC1
      refine pW zT ?_ (hp:=by exact hg5)
      cases hC1
      exact qU ⟨⟨[0,1,2,7],[]⟩,_,by rfl,hN1⟩
   ·refine rE (rJ (rG ?_))
    cases hC1
    cases hN1
    exact rF ⟨⟨[],[]⟩,_,rfl,by rfl⟩
  ·rintro _ ⟨v,rfl,rfl⟩
   dsimp only at hC0⊢
   refine rL (p9 ?_)
   refine p4 zT ?_
   refine p8 ?_
   cases hC0
   exact⟨[],by rfl,by rfl,by rfl⟩
attribute [irreducible] HR
def B7 (O:(List UInt8)):Option Unit:=
 if (((decide ((List.length O:Int)≤(4000:Int)))==true)=true→((MU O)).isSome=true) then
  some (())
 else none
section
variable (O:(List UInt8))
@[reducible] def a2l:List Slot:=[(.val .str O,none)]
@[reducible] def a2m:List Blk:=[]
@[go_sem] def a2n:Ret:=⟨[((B7 O)).isSome=true],[(.val .bool ((decide ((List.length O:Int)≤(4000:Int)))&&(Lib.validD O)),none)],[]⟩
def aDh:List Slot→List Blk→Option Ret:=pS (V:=(List UInt8)) (fun x=>a2l x) (fun x=>a2m) fun x=>a2n x
@[go_sem] theorem aQn:aDh (no_index (a2l O)) (no_index a2m)=some (a2n O):=pT (fun a0 b0 h1 h2=>by cases h1;cases h2;rfl) O
end
@[reducible,go_sem] def N9:Nat×Sig:=(161,⟨[.v],aDh,[],[],none⟩)
theorem a2o:Env Tryz.prog [qE] (pK [aCd]):=⟨⟨qG,trivial⟩,pA aKT pV,pN⟩
theorem S4:pM Tryz.prog N9:=by
 refine pU a2o Tryz.func161 (c:=_) rfl (N:=10) (by kernel_rfl) (ts:=[(2,none)]) rfl (fun _ _=>rfl) ?_
 intro O hs hrow
 dsimp only[a2l,a2m,a2n,pP,enumH,pG,pL,pR,Nat.reduceAdd] at hs hrow⊢
 have hz:=hs
 obtain⟨z0,hC0⟩:=Option.isSome_iff_exists.1 hz
 try rw[q7 hC0]
 clear hz hs
 unfold B7 at hC0
 refine p4 a2o ?_
 obtain⟨hg1,hC0⟩:=p6 hC0
 refine p4 a2o ?_ (hp:=by exact And.intro (fun hh=>hh) (And.intro hg1 ((fun hh=>qH hh))))
 refine p8 ?_
 cases hC0
 exact⟨[],by rfl,by rfl,by rfl⟩
attribute [irreducible] B7
end
end Go.Proofs.YtbbpilohihldiaaGreatDoor
namespace Go.Proofs.YtbbpilohihldiaaGreatDoor
open Vc
set_option maxRecDepth 100000
set_option maxHeartbeats 4000000
set_option linter.unusedSimpArgs false
set_option linter.unusedVariables false
noncomputable section
def DT (O:Int) (Z:Int) (aA:Bool):Option (List UInt8):=
 qD (σ:=(List UInt8)) (
   if (decide (O=(1:Int)))=true then
    some (([61,58,35,33]:List UInt8))
   else
    if (decide (O=(2:Int)))=true then
     some (([34]:List UInt8))
    else
     if (decide (O=(3:Int)))=true then
      some (([34,123,125]:List UInt8))
     else
      some (([]:List UInt8))
  ) fun aB=>
 if (decide (Z=(92:Int)))=true then
  some (([92,92]:List UInt8))
 else
  if (decide (Z=(10:Int)))=true then
   some (([92,110]:List UInt8))
  else
   if (decide (Z=(13:Int)))=true then
    some (([92,114]:List UInt8))
   else
    if (decide (Z=(9:Int)))=true then
     some (([92,116]:List UInt8))
    else
     qD (σ:=Bool) (
       if (decide ((0:Int)≤(s3 aB Z)))=true then
        some ((decide ((0:Int)≤(s3 aB Z))))
       else
        some ((((decide (O=(1:Int)))&&aA)&&(decide (Z=(32:Int)))))
      ) fun aC=>
     if aC=true then
      if ((([92]:List UInt8)++(qY ([Z]:List Int))).length:Int)≤9223372036854775807 then
       some ((([92]:List UInt8)++(qY ([Z]:List Int))))
      else none
     else
      if (((decide (Z<(32:Int)))||(decide (Z=(127:Int))))&&(decide (O=(3:Int))))=true then
       (MV Z (4:Int)).bind fun aD=>
       if ((([92,117]:List UInt8)++((HA ([48]:List UInt8) ((4:Int)- (List.length (uA (IntKind.wrap .i64 Z) (16:Int)):Int)))++(uA (IntKind.wrap .i64 Z) (16:Int)))).length:Int)≤9223372036854775807 then
        some ((([92,117]:List UInt8)++((HA ([48]:List UInt8) ((4:Int)- (List.length (uA (IntKind.wrap .i64 Z) (16:Int)):Int)))++(uA (IntKind.wrap .i64 Z) (16:Int)))))
       else none
      else
       if ((decide (Z<(32:Int)))||(decide (Z=(127:Int))))=true then
        (MV Z (2:Int)).bind fun aE=>
        if ((([92,120]:List UInt8)++((HA ([48]:List UInt8) ((2:Int)- (List.length (uA (IntKind.wrap .i64 Z) (16:Int)):Int)))++(uA (IntKind.wrap .i64 Z) (16:Int)))).length:Int)≤9223372036854775807 then
         some ((([92,120]:List UInt8)++((HA ([48]:List UInt8) ((2:Int)- (List.length (uA (IntKind.wrap .i64 Z) (16:Int)):Int)))++(uA (IntKind.wrap .i64 Z) (16:Int)))))
        else none
       else
        some ((qY ([Z]:List Int)))
section
variable (O:Int) (Z:Int) (aA:Bool)
@[reducible] def a2p:List Slot:=[(.val (.int .i64) O,none),(.val (.int .u8) Z,none),(.val .bool aA,none)]
@[reducible] def a2q:List Blk:=[]
@[go_sem] def a2r:Ret:=⟨[((DT O Z aA)).isSome=true],[(.val .str (val (DT O Z aA)),none)],[]⟩
def aDi:List Slot→List Blk→Option Ret:=pS (V:=(Int×Int×Bool)) (fun x=>a2p x.1 x.2.1 x.2.2) (fun x=>a2q) fun x=>a2r x.1 x.2.1 x.2.2
@[go_sem] theorem aQo:aDi (no_index (a2p O Z aA)) (no_index a2q)=some (a2r O Z aA):=pT (fun⟨a0,a1,a2⟩ ⟨b0,b1,b2⟩ h1 h2=>by cases h1;cases h2;rfl) (O,Z,aA)
end
@[reducible,go_sem] def aDj:Nat×Sig:=(166,⟨[.v,.v,.v],aDi,[],[],none⟩)
theorem tK:Env Tryz.prog [yS,qE,zN] (pK [JO,aCg,aCi]):=⟨⟨A7,⟨qG,⟨B0,trivial⟩⟩⟩,pA ML (pA aKU (pA aKV pV)),pN⟩
theorem aLj:pM Tryz.prog aDj:=by
 refine pU tK Tryz.func166 (c:=_) rfl (N:=64) (by kernel_rfl) (ts:=[(6,none)]) rfl (fun _ _=>rfl) ?_
 intro⟨O,Z,aA⟩ hs hrow
 dsimp only[a2p,a2q,a2r,pP,enumH,pG,pL,pR,Nat.reduceAdd] at hs hrow⊢
 have hz:=hs
 obtain⟨z0,hC0⟩:=Option.isSome_iff_exists.1 hz
 try rw[q7 hC0]
 clear hz hs
 unfold DT at hC0
 refine p4 tK ?_
 refine p4 tK ?_
 refine pC ?_
 refine p4 tK ?_
 obtain⟨aB,hC1,hC0⟩:=p7 hC0
 refine wH (fun s=>s=(fun x=>⟨[(0,(.val (.int .i64) O,none)),(1,(.val (.int .u8) Z,none)),(2,(.val .bool aA,none)),(7,(.val .str x,none))],[],0,64,0⟩) aB) ?_ ?_
 ·refine q8 ?_
  refine p4 tK ?_
  refine pB hC1 (fun hC1 hc1=> ?_) (fun hC1 hc1=> ?_)
  ·refine pW tK ?_
   refine pY ?_
   cases hC1
   exact rV ⟨⟨[0,1,2,7],[]⟩,by rfl⟩
  ·refine p4 tK ?_
   refine pB hC1 (fun hC1 hc2=> ?_) (fun hC1 hc2=> ?_)
   ·refine pW tK ?_
    refine pY ?_
    cases hC1
    exact rV ⟨⟨[0,1,2,7],[]⟩,by rfl⟩
   ·refine p4 tK ?_
    refine pB hC1 (fun hC1 hc3=> ?_) (fun hC1 hc3=> ?_)
    ·refine pW tK ?_
     refine pY ?_
     cases hC1
     exact rV ⟨⟨[0,1,2,7],[]⟩,by rfl⟩
    ·refine pJ (pY ?_)
     cases hC1
     exact rV ⟨⟨[0,1,2,7],[]⟩,by rfl⟩
 ·rintro _ rfl
  dsimp only at hC0⊢
  refine p9 (pC (q8 ?_))
  refine p4 tK ?_
  refine pB hC0 (fun hC0 hc4=> ?_) (fun hC0 hc4=> ?_)
  ·refine p4 tK ?_
   refine p8 (qC (pZ ?_))
   cases hC0
   exact⟨[],by rfl,by rfl,by rfl⟩
  ·refine p4 tK ?_
   refine pB hC0 (fun hC0 hc5=> ?_) (fun hC0 hc5=> ?_)
   ·refine p4 tK ?_
    refine p8 (qC (pZ ?_))
    cases hC0
    exact⟨[],by rfl,by rfl,by rfl⟩
   ·refine p4 tK ?_
    refine pB hC0 (fun hC0 hc6=> ?_) (fun hC0 hc6=> ?_)
    ·refine p4 tK ?_
     refine p8 (qC (pZ ?_))
     cases hC0
     exact⟨[],by rfl,by rfl,by rfl⟩
    ·refine p4 tK ?_
     refine pB hC0 (fun hC0 hc7=> ?_) (fun hC0 hc7=> ?_)
     ·refine p4 tK ?_
      refine p8 (qC (pZ ?_))
      cases hC0
      exact⟨[],by rfl,by rfl,by rfl⟩
     ·refine pC ?_
      refine p4 tK ?_
      obtain⟨aC,hC1,hC0⟩:=p7 hC0
      refine wH (fun s=>s=(fun x=>⟨[(0,(.val (.int .i64) O,none)),(1,(.val (.int .u8) Z,none)),(27,(.val .bool x,none))],[],0,64,0⟩) aC) ?_ ?_
      ·refine pB hC1 (fun hC1 hc8=> ?_) (fun hC1 hc8=> ?_)
       ·refine pJ ?_
        cases hC1
        exact rV ⟨⟨[0,1,27],[]⟩,by rfl⟩
       ·refine pW tK ?_ (hp:=by exact And.intro (fun hh=>qH hh) (And.intro (fun hh=>hh) ((fun hh=>qH hh))))
        cases hC1
        exact rV ⟨⟨[0,1,27],[]⟩,by rfl⟩
      ·rintro _ rfl
       dsimp only at hC0⊢
       refine p9 ?_
       refine pB hC0 (fun hC0 hc9=> ?_) (fun hC0 hc9=> ?_)
       ·obtain⟨hg1,hC0⟩:=p6 hC0
        refine p4 tK ?_ (hp:=by exact hg1)
        refine p8 (qC (pZ ?_))
        cases hC0
        exact⟨[],by rfl,by rfl,by rfl⟩
       ·refine p4 tK ?_ (hp:=by exact And.intro (fun hh=>hh) ((fun hh=>qH hh)))
        refine pB hC0 (fun hC0 hc10=> ?_) (fun hC0 hc10=> ?_)
        ·obtain⟨aD,hv2,hw2,hC0⟩:=pE hC0
         try simp only[go_sem] at hw2
         obtain⟨hg3,hC0⟩:=p6 hC0
         refine p4 tK ?_ (hp:=by exact And.intro (pD hv2) (hg3)) (h:=by simp only[go_sem,hw2];rfl)
         refine p8 (qC (pZ ?_))
         cases hC0
         exact⟨[],by rfl,by rfl,by rfl⟩
        ·refine p4 tK ?_
         refine pB hC0 (fun hC0 hc11=> ?_) (fun hC0 hc11=> ?_)
         ·obtain⟨aE,hv4,hw4,hC0⟩:=pE hC0
          try simp only[go_sem] at hw4
          obtain⟨hg5,hC0⟩:=p6 hC0
          refine p4 tK ?_ (hp:=by exact And.intro (pD hv4) (hg5)) (h:=by simp only[go_sem,hw4];rfl)
          refine p8 (qC (pZ ?_))
          cases hC0
          exact⟨[],by rfl,by rfl,by rfl⟩
         ·refine pJ (pY (p9 ?_))
          refine p4 tK ?_
          refine p8 ?_
          cases hC0
          exact⟨[],by rfl,by rfl,by rfl⟩
attribute [irreducible] DT
def K3 (O:(List Int)):((List UInt8)×Int)→Option (((List UInt8)×Int)⊕(List UInt8)):=fun(Z,aA)=>
 if (decide (aA<(List.length O:Int)))=true then
  if 0≤aA∧aA<(List.length O:Int) then
   if (((decide ((0:Int)≤(pI (.int .i64) O aA)))&&(decide ((pI (.int .i64) O aA)≤(1114111:Int))))&&((decide ((pI (.int .i64) O aA)<(55296:Int)))||(decide ((57343:Int)<(pI (.int .i64) O aA)))))=true then
    if 0≤aA∧aA<(List.length O:Int) then
     (yV (pI (.int .i64) O aA)).bind fun aB=>
     if ((Z++aB).length:Int)≤9223372036854775807 then
      if p5 (aA+(1:Int)) then
       some (.inl ((Z++aB),(aA+(1:Int))))
      else none
     else none
    else none
   else
    (yV (65533:Int)).bind fun aC=>
    if ((Z++aC).length:Int)≤9223372036854775807 then
     if p5 (aA+(1:Int)) then
      some (.inl ((Z++aC),(aA+(1:Int))))
     else none
    else none
  else none
 else
  some (.inr Z)
def HS (O:(List Int)):Option (List UInt8):=
 qD (pQ (K3 O) (([]:List UInt8),(0:Int))) fun Z=>
 some (Z)
section
variable (O:(List Int))
@[reducible] def a2s:List Slot:=[(.val (.list (.int .i64)) O,none)]
@[reducible] def a2t:List Blk:=[]
@[go_sem] def a2u:Ret:=⟨[((HS O)).isSome=true],[(.val .str (val (HS O)),none)],[]⟩
def aDk:List Slot→List Blk→Option Ret:=pS (V:=(List Int)) (fun x=>a2s x) (fun x=>a2t) fun x=>a2u x
@[go_sem] theorem aQp:aDk (no_index (a2s O)) (no_index a2t)=some (a2u O):=pT (fun a0 b0 h1 h2=>by cases h1;cases h2;rfl) O
end
@[reducible,go_sem] def aDl:Nat×Sig:=(171,⟨[.v],aDk,[],[],none⟩)
theorem B8:Env Tryz.prog [sZ,HC] (pK [a0O,a0T]):=⟨⟨tJ,⟨MJ,trivial⟩⟩,pA aCp (pA aCr pV),pN⟩
theorem aLk:pM Tryz.prog aDl:=by
 refine pU B8 Tryz.func171 (c:=_) rfl (N:=27) (by kernel_rfl) (ts:=[(2,none)]) rfl (fun _ _=>rfl) ?_
 intro O hs hrow
 dsimp only[a2s,a2t,a2u,pP,enumH,pG,pL,pR,Nat.reduceAdd] at hs hrow⊢
 have hz:=hs
 obtain⟨z0,hC0⟩:=Option.isSome_iff_exists.1 hz
 try rw[q7 hC0]
 clear hz hs
 unfold HS at hC0
 refine p4 B8 ?_
 refine p4 B8 ?_
 refine pC ?_
 refine p4 B8 ?_
 refine q8 ?_
 obtain⟨Z,hy1,hC0⟩:=p7 hC0
 refine rN 0 (fun s=>s=(fun x=>⟨[(3,(.val .str x,none))],[],0,27,0⟩) Z) ?_ ?_
 ·refine rM hy1 (fun x=>⟨[(0,(.val (.list (.int .i64)) O,none)),(3,(.val .str x.1,none)),(4,(.val (.int .i64) x.2,none))],[],0,27,0⟩) ⟨[0,3,4],[]⟩ (by rfl) ?_
  intro x1 w1 n1 hC1 hN1
  obtain⟨aA,aB⟩:=x1
  unfold K3 at hC1
  dsimp only at hC1⊢
  refine pC ?_
  refine p4 B8 ?_
  refine pB hC1 (fun hC1 hc1=> ?_) (fun hC1 hc1=> ?_)
  ·refine pJ (p9 (pC (q8 ?_)))
   obtain⟨hg1,hC1⟩:=p6 hC1
   refine p4 B8 ?_ (hp:=by exact hg1)
   refine pB hC1 (fun hC1 hc2=> ?_) (fun hC1 hc2=> ?_)
   ·obtain⟨hg2,hC1⟩:=p6 hC1
    obtain⟨aC,hv3,hw3,hC1⟩:=pE hC1
    try simp only[go_sem] at hw3
    obtain⟨hg4,hC1⟩:=p6 hC1
    refine pW B8 ?_ (hp:=by exact And.intro hg2 (And.intro (pD hv3) (hg4))) (h:=by simp only[go_sem,hw3];rfl)
    refine pY (p9 ?_)
    obtain⟨hg5,hC1⟩:=p6 hC1
    refine pW B8 ?_ (hp:=by exact hg5)
    cases hC1
    exact qU ⟨⟨[0,3,4],[]⟩,_,by rfl,hN1⟩
   ·obtain⟨aD,hv6,hw6,hC1⟩:=pE hC1
    try simp only[go_sem] at hw6
    obtain⟨hg7,hC1⟩:=p6 hC1
    refine pW B8 ?_ (hp:=by exact And.intro (pD hv6) (hg7)) (h:=by simp only[go_sem,hw6];rfl)
    refine pY (p9 ?_)
    obtain⟨hg8,hC1⟩:=p6 hC1
    refine pW B8 ?_ (hp:=by exact hg8)
    cases hC1
    exact qU ⟨⟨[0,3,4],[]⟩,_,by rfl,hN1⟩
  ·refine rE (rJ (rG ?_))
   cases hC1
   cases hN1
   exact rF ⟨⟨[3],[]⟩,by rfl⟩
 ·rintro _ rfl
  dsimp only at hC0⊢
  refine rL (p9 ?_)
  refine p4 B8 ?_
  refine p8 ?_
  cases hC0
  exact⟨[],by rfl,by rfl,by rfl⟩
attribute [irreducible] HS
end
end Go.Proofs.YtbbpilohihldiaaGreatDoor
