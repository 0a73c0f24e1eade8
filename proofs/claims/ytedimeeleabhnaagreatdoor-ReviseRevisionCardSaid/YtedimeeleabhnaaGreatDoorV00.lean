import Derived.Below
import Derived.Calls
import Derived.ChangeKeysEq
import Derived.Deep.MidRow
import Derived.Deep.Upon
import Derived.Laws.AppendOwn
import Derived.Laws.BitsLemmas
import Derived.Laws.OwnMore
import Derived.Laws.Runes
import Derived.Laws.StructEq
import Derived.Shelf.Strconv.Itoa3
import Derived.Shelf.Unicode.DecodeSlow
import Derived.Still
import Derived.WalkKit
import Derived.WalkSpells
set_option linter.all false
set_option maxRecDepth 100000
set_option maxHeartbeats 4000000
namespace Go.Proofs
abbrev pJ:=List UInt8
abbrev pK:=List pJ
abbrev Qa0:pJ:=[115,101,108,101,99,116]
abbrev Qa1:pJ:=[111,114,100,105,110,97,108]
abbrev Qa2:pJ:=[112,108,117,114,97,108]
abbrev Qa3:pJ:=[108,105,115,116]
abbrev Qa4:pJ:=[100,97,116,101]
abbrev Qa5:pJ:=[117,110,105,116]
abbrev Qa6:pJ:=[110,117,109,98,101,114]
abbrev Qa7:pJ:=[47]
abbrev Qa8:pJ:=[123]
abbrev Qa9:pJ:=[32]
abbrev Qb0:pJ:=[48]
abbrev Qb1:pJ:=[125]
abbrev Qb2:pJ:=[34]
abbrev Qb3:pJ:=[44]
abbrev Qb4:pJ:=[60]
abbrev Qb5:pJ:=[111,116,104,101,114]
abbrev Qb6:pJ:=[48,49,50,51,52,53,54,55,56,57,97,98,99,100,101,102]
abbrev Qb7:pJ:=[48,49,50,51,52,53,54,55,56,57]
abbrev Qb8:pJ:=[62]
abbrev Qb9:pJ:=[110,101,119]
abbrev Qc0:pJ:=[102,117,122,122,121]
abbrev Qc1:pJ:=[116,114,97,110,115,108,97,116,101,100]
abbrev Qc2:pJ:=[114,101,118,105,101,119,101,100]
abbrev Qc3:pJ:=[111,98,115,111,108,101,116,101]
abbrev Qc4:pJ:=[105,110,116,101,103,101,114]
abbrev Qc5:pJ:=[112,101,114,99,101,110,116]
abbrev Qc6:pJ:=[122,101,114,111]
abbrev Qc7:pJ:=[111,110,101]
abbrev Qc8:pJ:=[116,119,111]
abbrev Qc9:pJ:=[102,101,119]
abbrev Qd0:pJ:=[109,97,110,121]
abbrev Qd1:pJ:=[60,47]
abbrev Qd2:pJ:=[61]
abbrev Qd3:pJ:=[98]
abbrev Qd4:pJ:=[61,58,35,33]
abbrev Qd5:pJ:=[92,120]
abbrev Qd6:pJ:=[47,62]
abbrev Qd7:pK:=[Qa6,Qa5,Qa4,Qa3,Qa2,Qa1,Qa0]
abbrev Qd8:pK:=[Qb9,Qc0,Qc1,Qc2,Qc3]
def aOc:=@_root_.Option.bind_some
def aOd:=@_root_.if_pos
def aOe:=@_root_.List.length_cons
def aOf:=@_root_.Option.some.injEq
def aOg:=@_root_.List.length_append
def aOh:=@_root_.List.length_nil
def aOi:=@_root_.if_neg
def aOj:=@_root_.Option.some.inj
def aOk:=@_root_.List.append_assoc
def aOl:=@_root_.Go.Result.andThen_ok
def aOm:=@_root_.List.getElem_mem
def aOn:=@_root_.List.getElem?_eq_getElem
def aOo:=@_root_.Bool.and_eq_true
def aOp:=@_root_.List.getElem?_append_right
def aOq:=@_root_.Option.map_eq_some_iff
def aOr:=@_root_.Go.Sem.run_bind
def aOs:=@_root_.List.mem_singleton
def aOt:=@_root_.decide_eq_true_eq
def aOu:=@_root_.List.mem_cons_of_mem
def aOv:=@_root_.List.mem_cons
def aOw:=@_root_.List.getElem?_eq_some_iff
def aOx:=@_root_.List.drop_eq_getElem_cons
def aOy:=@_root_.List.getElem?_append_left
def aOz:=@_root_.List.mem_cons_self
def aOA:=@_root_.Nat.le_refl
def aOB:=@_root_.Array.getElem?_eq_some_iff
def aOC:=@_root_.Go.run_underlying
def aOD:=@_root_.Go.Sem.run_pure
def aOE:=@_root_.Bool.eq_iff_iff
def aOF:=@_root_.List.getD_eq_getElem?_getD
def aOG:=@_root_.Array.getD_eq_getD_getElem?
def aOH:=@_root_.Go.World.cell?_of_block
def aOI:=@_root_.congrArg
def aOJ:=@_root_.Prod.mk.injEq
def aOK:=@_root_.Go.RowKit.Below.heap_alloc
def aOL:=@_root_.List.getElem?_cons_zero
def aOM:=@_root_.List.eq_nil_of_length_eq_zero
def aON:=@_root_.List.length_drop
def aOO:=@_root_.Nat.zero_add
def aOP:=@_root_.List.drop_zero
def aOQ:=@_root_.List.drop_length
def aOR:=@_root_.List.mem_append
def aOS:=@_root_.Nat.lt_of_lt_of_le
def aOT:=@_root_.Bool.false_eq_true
def aOU:=@_root_.Nat.le_trans
def aOV:=@_root_.Int.toNat_natCast
def aOW:=@_root_.Nat.add_sub_cancel_left
def aOX:=@_root_.Nat.add_assoc
def aOY:=@_root_.List.reverse_cons
def aOZ:=@_root_.List.getElem?_cons_succ
def aO0:=@_root_.List.flatten_cons
def aO1:=@_root_.Bool.not_eq_true'
def aO2:=@_root_.List.length_take
def aO3:=@_root_.of_decide_eq_true
def aO4:=@_root_.decide_eq_true
def aO5:=@_root_.List.cons.injEq
def aO6:=@_root_.decide_eq_false_iff_not
def aO7:=@_root_.List.map_cons
def aO8:=@_root_.List.flatMap_cons
def aO9:=@_root_.Array.getElem?_setIfInBounds_ne
def aPa:=@_root_.List.length_map
def aPb:=@_root_.Go.World.frozen?_of_block
def aPc:=@_root_.Option.isSome_iff_exists
def aPd:=@_root_.Nat.succ_mul
def aPe:=@_root_.Go.run_program
def aPf:=@_root_.Int.le_refl
def aPg:=@_root_.List.size_toArray
def aPh:=@_root_.List.all_eq_true
def aPi:=@_root_.Array.length_toList
def aPj:=@_root_.List.drop_drop
def aPk:=@_root_.Nat.mul_le_mul_right
def aPl:=@_root_.if_true
def aPm:=@_root_.Nat.add_zero
def aPn:=@_root_.Array.toList_inj
def aPo:=@_root_.List.length_eq_zero_iff
def aPp:=@_root_.Go.Addr.add_mid
def aPq:=@_root_.if_false
def aPr:=@_root_.List.not_mem_nil
def aPs:=@_root_.Nat.lt_or_ge
def aPt:=@_root_.List.getElem?_eq_none
def aPu:=@_root_.List.findIdx?_cons
def aPv:=@_root_.Array.toArray_toList
def aPw:=@_root_.Go.wpIn_mono
def aPx:=@_root_.List.length_eq_one_iff
def aPy:=@_root_.Go.Value.slice.injEq
def aPz:=@_root_.List.mem_take_iff_getElem
def aPA:=@_root_.Go.World.cell?_alloc_new
def aPB:=@_root_.Go.World.cell?_setCells_in
def aPC:=@_root_.Bool.false_and
def aPD:=@_root_.List.getElem_of_mem
def aPE:=@_root_.Bool.or_eq_true
def aPF:=@_root_.Int.tmod_eq_emod_of_nonneg
def aPG:=@_root_.decide_eq_decide
def aPH:=@_root_.Nat.le_of_eq
def aPI:=@_root_.Classical.choose_spec
def aPJ:=@_root_.Array.getElem?_toList
def aPK:=@_root_.Array.getElem?_modify
def aPL:=@_root_.Nat.zero_le
def aPM:=@_root_.List.pairwise_iff_getElem
def aPN:=@_root_.dif_neg
def aPO:=@_root_.Nat.lt_irrefl
def aPP:=@_root_.List.drop_succ_cons
def aPQ:=@_root_.List.take_append_of_le_length
def aPR:=@_root_.Go.IntKind.wrap_i64
def aPS:=@_root_.Bool.false_ne_true
def aPT:=@_root_.Array.getElem?_setIfInBounds
def aPU:=@_root_.Nat.sub_self
def aPV:=@_root_.List.take_append_drop
def aPW:=@_root_.Bool.or_eq_false_iff
def aPX:=@_root_.List.take_left
def aPY:=@_root_.Array.getElem?_eq_getElem
def aPZ:=@_root_.List.mem_toArray
def aP0:=@_root_.Bool.not_eq_true
def aP1:=@_root_.List.length_pos_iff
def aP2:=@_root_.beq_iff_eq
def aP3:=@_root_.Array.getElem?_push_size
def aP4:=@_root_.dif_pos
def aP5:=@_root_.List.append_inj
def aP6:=@_root_.List.any_eq_false
def aP7:=@_root_.Array.size_append
def aP8:=@_root_.Go.setRow_other
def aP9:=@_root_.Option.getD_some
def aQa:=@_root_.List.range'_succ
def aQb:=@_root_.Array.foldl_toList
def aQc:=@_root_.Go.heap_alloc_new
def aQd:=@_root_.Nat.mul_one
theorem aQe{p:Prop}(h:p:=by simpa using h):p:=h
theorem aQf{p:Prop}(h:p:=by simpa using j):p:=h
theorem aQg{p:Prop}(h:p:=by simpa using z):p:=h
theorem aQh{p:Prop}(h:p:=by intro e;cases e):p:=h
theorem aQi{p:Prop}(h:p:=by simpa using hk):p:=h
theorem aQj{p:Prop}(h:p:=by simp only[execOp,U,hv,aOr,O,aOl,aOD]):p:=h
theorem aQk{p:Prop}(h:p:=by simp [qW,e1]):p:=h
theorem aQl{p:Prop}(h:p:=by simp [qW]):p:=h
theorem aQm{p:Prop}(h:p:=by simp only[aOe];omega):p:=h
theorem aQn{p:Prop}(h:p:=by simpa using F):p:=h
theorem aQo{p:Prop}(h:p:=by simpa using hb):p:=h
theorem aQp{p:Prop}(h:p:=by simp [sQ]):p:=h
theorem aQq{p:Prop}(h:p:=by simpa[sQ] using z):p:=h
theorem aQr{p:Prop}(h:p:=by rw[<-hr];simp):p:=h
theorem aQs{p:Prop}(h:p:=by simp only[Op.operands,aPZ];exact List.mem_map_of_mem j):p:=h
theorem aQt{p:Prop}(h:p:=by simp [sF,rX.id]):p:=h
theorem aQu{p:Prop}(h:p:=by rw[this];simp):p:=h
theorem aQv{p:Prop}(h:p:=by rw[hp];simp [Op.operands]):p:=h
theorem aQw{p:Prop}(h:p:=by simpa using D):p:=h
theorem aQx{p:Prop}(h:p:=by rw[<-e];exact hb):p:=h
theorem aQy{p:Prop}(h:p:=by cases h):p:=h
theorem aQz{p:Prop}(h:p:=by rw[hop];intro c;simp):p:=h
theorem aQA{p:Prop}(h:p:=by show w.heap.size+1<_;omega):p:=h
theorem aQB{p:Prop}(h:p:=by show w.heap.size≠w.heap.size+1;omega):p:=h
theorem aQC{p:Prop}(h:p:=by show k≠w.heap.size+1;omega):p:=h
theorem aQD{p:Prop}(h:p:=by show D≠w.heap.size+1;omega):p:=h
theorem aQE{p:Prop}(h:p:=by simp only[go_sem];rfl):p:=h
theorem aQF{p:Prop}(h:p:=by unfold qH;omega):p:=h
theorem aQG{p:Prop}(h:p:=by simp [j]):p:=h
theorem aQH{p:Prop}(h:p:=by simp only[aOt];omega):p:=h
theorem aQI{p:Prop}(h:p:=by simp only[aOo,aOt];omega):p:=h
theorem aQJ{p:Prop}(h:p:=by simp only[aOe,aOh] at E|-;omega):p:=h
theorem aQK{p:Prop}(h:p:=by rw[aOg];omega):p:=h
theorem aQL{p:Prop}(h:p:=by rw[LG];omega):p:=h
theorem aQM{p:Prop}(h:p:=by rw[aOg];simp only[aOe,aOh];omega):p:=h
theorem aQN{p:Prop}(h:p:=by simp only[aOe,aOh];omega):p:=h
theorem aQO{p:Prop}(h:p:=by simp only[aOh];omega):p:=h
theorem aQP{p:Prop}(h:p:=by rw[BK];omega):p:=h
theorem aQQ{p:Prop}(h:p:=by simp only[aOe,aOh] at z|-;omega):p:=h
theorem aQR{p:Prop}(h:p:=by rw[IV,xS];have:=UZ s;unfold LM at this;simp only[aOh];omega):p:=h
theorem aQS{p:Prop}(h:p:=by simp only[aOg,aOe,aOh];omega):p:=h
theorem aQT{p:Prop}(h:p:=by unfold fit;omega):p:=h
theorem aQU{p:Prop}(h:p:=by simp only[aOg];omega):p:=h
theorem aQV{p:Prop}(h:p:=by rw[vS] at D;simp only[aOg,aOe,aOh];omega):p:=h
theorem pN{p:Prop}(h:p:=by omega):p:=h
theorem pO{p:Prop}(h:p:=by decide):p:=h
theorem pP{p:Prop}(h:p:=by simp):p:=h
theorem pQ{p:Prop}(h:p:=by simp;omega):p:=h
theorem qB{p:Prop}(h:p:=by kernel_rfl):p:=h
theorem qC{p:Prop}(h:p:=by rfl):p:=h
theorem qD{p:Prop}(h:p:=by first|rfl|trivial):p:=h
theorem pL{a:Type}{p q r:a->Prop}(k:a)(h1:p k:=by rfl)(h2:q k:=by rfl)(h3:r k:=by rfl): ∃k,p k/\q k/\r k:=⟨k,h1,h2,h3⟩
abbrev pR:=Int×(Int×Unit)
abbrev pS:=List (pJ×Bool)
abbrev pT:=List (Nat×Nat)
abbrev pU:=List Int
abbrev pV:=List Value
abbrev pW:=Option (Nat×Nat)
abbrev pX:=Option Nat
abbrev pY:=List Nat
abbrev pZ:=World
abbrev qA:=Value
end Go.Proofs
namespace Go.Proofs.YtedimeeleabhnaaGreatDoor.Vc
def NG:Nat:=6
def Bl:Nat:=171
def Bm:List (Nat×Nat×qA):=[(5,15,.int .u8 4)]
def Bn:List (Nat×Array qA):=[(3,(Lib.pow10Tab.map λz=>Value.int .u64 z).toArray)]
def a6u (w:pZ):Prop:=(∀x∈Bm,x.1<NG/\w.cell? ⟨x.1,x.2.1,none⟩=some x.2.2)/\∀x∈Bn,x.1<NG/\∃e fz,w.heap[x.1]? =some (.cells x.2 e fz)
def J5 (w:pZ):Prop:=NG<=w.heap.size/\Lib.Utf8Tabs 0 1 w/\(∃m,w.cell? ⟨2,0,none⟩=some (.int .i64 m))/\a6u w
theorem V7 {w w':pZ}(h:J5 w) (G:w.heap.size<=w'.heap.size) (hb: ∀b,b<NG->w'.heap[b]? =w.heap[b]?):J5 w':=by
 obtain⟨h0,⟨O,F⟩,⟨m,M⟩,D⟩:=h;have z: ∀b o,b<NG->w'.cell? ⟨b,o,none⟩=w.cell? ⟨b,o,none⟩:=λb o h=>aOH (a:=⟨b,o,none⟩) (hb b h);refine⟨aOU h0 G,⟨λc E=>?_,λi hi=>⟨?_,?_⟩⟩,⟨m,?_⟩,λx j=>⟨(D.1 x j).1,(z _ _ (D.1 x j).1).trans (D.1 x j).2⟩,λx j=>⟨(D.2 x j).1,by obtain⟨K,e,fz,I⟩:=D.2 x j;exact⟨e,fz,(hb _ K).trans I⟩⟩⟩
 .rw[z _ _ pO];exact O c E
 .rw[z _ _ pO];exact(F i hi).1
 .rw[z _ _ pO];exact(F i hi).2
 rw[z _ _ pO];exact M
attribute [go_sem] Bl
inductive qG where
 |mk (kind:Int) (text name style:pJ) (cases:List (pJ×List qG×Unit)) (parts:List qG)
abbrev Ja0:=List qG
def qG.zero:qG:= .mk 0 [] [] [] [] []
inductive Ty where
 |bool|int (k:IntKind) |str|list (t:Ty) |unit|pair (a b:Ty) |ref|clo|mp|rl (e:Nat) (t:Ty) |mref|fn|part
 deriving DecidableEq
@[go_sem] abbrev sP:Ty:= .pair .str (.pair .str .unit)
abbrev Ty.den:Ty->Type
 | .bool=>Bool
 | .int _=>Int
 | .str=>pJ
 | .list t=>List t.den
 | .unit=>Unit
 | .pair a b=>a.den×b.den
 | .ref=>pW
 | .clo=>Option (Nat×pT)
 | .mp=>pX
 | .rl _ _=>pW
 | .fn=>pX
 | .mref=>pW
 | .part=>qG
@[go_sem] def Ty.cells:Ty->Nat
 | .unit=>0
 | .pair a b=>a.cells+b.cells
 | .part=>6
 | .bool| .int _| .str| .list _| .ref| .clo| .mp| .rl _ _| .mref| .fn=>1
@[go_sem] def Ty.zero:(t:Ty)->t.den
 | .bool=>false
 | .int _=>(0:Int)
 | .str=>[]
 | .list _=>[]
 | .unit=>()
 | .pair a b=>(a.zero,b.zero)
 | .ref=>none
 | .clo=>none
 | .mp=>none
 | .rl _ _=>none
 | .fn=>none
 | .mref=>none
 | .part=>qG.zero
@[go_sem] def Ty.isRow:Ty->Bool
 | .unit| .pair _ _| .part=>true
 | .bool| .int _| .str| .list _| .ref| .clo| .mp| .rl _ _| .mref| .fn=>false
@[go_sem] def Ty.pure:Ty->Bool
 | .ref| .clo| .mp| .rl _ _| .mref=>false
 | .list t=>t.pure
 | .pair a b=>a.pure&&b.pure
 | .bool| .int _| .str| .unit| .fn| .part=>true
@[go_sem] abbrev rV:Ty:= .pair .str (.pair (.list .part) .unit)
@[go_sem] abbrev sN:Ty:= .pair (.int .i64) (.pair .str (.pair .str (.pair .str (.pair (.list rV) (.pair (.list .part) .unit)))))
def qG.un:qG->sN.den
 | .mk k t n s cs ps=>(k,(t,(n,(s,(cs,(ps,()))))))
def qG.of (x:sN.den):qG:= .mk x.1 x.2.1 x.2.2.1 x.2.2.2.1 x.2.2.2.2.1 x.2.2.2.2.2.1
@[go_sem] theorem qG.un_of (x:sN.den):(qG.of x).un=x:=rfl
theorem qG.of_un (x:qG):qG.of x.un=x:=by cases x;rfl
def qI (t:Ty) (l:List t.den) (i:Int):t.den:=l.getD i.toNat t.zero
def r7 (l:pJ) (i:Int):Int:=((l.getD i.toNat 0).toNat:Int)
def uJ {t u:Ty}(h:t=u) (x:t.den):u.den:=h▸x
@[go_sem] theorem QS {t:Ty}(x:t.den):uJ (rfl:t=t) x=x:=rfl
@[go_sem] def rT (u:Ty):(t:Ty)->t.den->Nat->Option u.den
 |t,x,0=>if h:t=u then some (uJ h x) else match t,x with
  | .pair a b,x=>if 0<a.cells then rT u a x.1 0 else rT u b x.2 0
  |_,_=>none
 | .pair a b,x,o+1=>if o+1<a.cells then rT u a x.1 (o+1) else rT u b x.2 (o+1-a.cells)
 |_,_,_=>none
@[go_sem] def sW (u:Ty) (y:u.den):(t:Ty)->t.den->Nat->Option t.den
 |t,x,0=>if h:u=t then some (uJ h y) else match t,x with
  | .pair a b,x=>if 0<a.cells then(sW u y a x.1 0).map (λz=>(z,x.2)) else(sW u y b x.2 0).map (λz=>(x.1,z))
  |_,_=>none
 | .pair a b,x,o+1=>if o+1<a.cells then(sW u y a x.1 (o+1)).map (λz=>(z,x.2)) else(sW u y b x.2 (o+1-a.cells)).map (λz=>(x.1,z))
 |_,_,_=>none
@[go_sem] def Ty.proj:(t:Ty)->t.den->Nat->Option (Σ u:Ty,u.den)
 | .pair a _,x,0=>some ⟨a,x.1⟩
 | .pair _ b,x,i+1=>b.proj x.2 i
 |_,_,_=>none
@[go_sem] def Ty.offs:Ty->Nat->pX
 | .pair _ _,0=>some 0
 | .pair a b,i+1=>(b.offs i).map λo=>a.cells+o
 |_,_=>none
@[go_sem] def Ty.fld:Ty->Nat->Option Ty
 | .pair a _,0=>some a
 | .pair _ b,i+1=>b.fld i
 |_,_=>none
@[go_sem] def Ty.setPart (u:Ty) (y:u.den):(t:Ty)->t.den->Nat->Option t.den
 | .pair a b,x,0=>if h:u=a then some (uJ h y,x.2) else none
 | .pair a b,x,i+1=>(Ty.setPart u y b x.2 i).map λz=>(x.1,z)
 |_,_,_=>none
inductive DV where
 |any
 |nilS
 |val (t:Ty) (x:t.den)
 |at (t:Ty) (x:t.den)
 |tup (l:List ((Σ t:Ty,t.den)×pX))
 |cond (p:Bool) (d:DV)
 |flag (p q:Prop)
 |own (k n:Nat)
 |elt (k n c:Nat) (i:Int) (o:Nat)
 |nxt (b:Bool) (p c:Int)
 |arr (i off:Nat) (t:Ty) (m:Nat) (ix:Int)
 |itr (n:Nat)
abbrev qP:=DV×pX
inductive qQ where
 |cells (t:Ty) (x:t.den) (toks:pT)
 |grow (e:TypeId) (c:Nat) (n:Nat)
 |row (e:TypeId) (t:Ty) (l:List t.den) (n:Nat)
 |map (k v:Ty) (l:List (k.den×v.den))
 |iter (s:pJ) (p:Nat)
 |dead
structure St where
 env:List (Nat×qP)
 H:List (Nat×qQ)
 nb:Nat
 N:Nat
 np:Nat:=0
@[go_sem] def lk:List (Nat×qP)->Nat->qP
 |[],_=>(.any,none)
 |(k,s)::r,t=>if k=t then s else lk r t
@[go_sem] def qU:List (Nat×qQ)->Nat->Option qQ
 |[],_=>none
 |(k,s)::r,t=>if k=t then some s else qU r t
structure TI where
 ty:Ty
 elem:TypeId:=0
 bytes:Nat:=0
 arr:Bool:=false
 ls:List (Nat×TypeId×Nat):=[]
abbrev sJ:=List (Nat×TI)
@[go_sem] def s4:sJ->TypeId->Option TI
 |[],_=>none
 |(k,s)::r,t=>if k=t then some s else s4 r t
inductive PK where
 |v|own|p (t:Ty) (os:pY) |m|s|r|f (ks:List (Ty×pY))
structure r9 where
 side:List Prop
 ret:List qP
 H:List qQ
structure r8 where
 ps:List PK
 C:List qP->List qQ->Option r9
 gs:List (Nat×Nat×PK):=[]
 same:pY:=[]
 row:Option ((t:Ty)->List t.den->Option (List t.den)):=none
abbrev tV:=Nat->Option r8
structure rA where
 side:List Prop
 slot:qP
 upd:List (Nat×qQ)
 rds:pY
@[go_sem] def J6:pY->Bool
 |[]=>false
 |i::_=>if i=1000000000 then true else false
@[go_sem] def Bo:Option rA->Option rA->Option rA
 |some r,_=>some r
 |none,r=>r
@[go_sem] def B2:Option (List Prop×DV)->Option rA
 |some (p,d)=>some ⟨p,(d,none),[],[]⟩
 |none=>none
@[go_sem] def jw:qA->DV
 | .bool b=> .val .bool b
 | .int k n=> .val (.int k) n
 | .string s=> .val .str s.data.toList
 | .slice none 0 0=> .nilS
 | .pointer none=> .val .ref none
 | .nilFunc=> .val .clo none
 | .map none=> .val .mp none
 |_=> .any
@[go_sem] def tB (env:List (Nat×qP)):Operand->qP
 | .tmp t=>lk env t
 | .const v=>(jw v,none)
 | .func f=>(.val .clo (some (f,[])),none)
 | .global _=>(.any,none)
@[go_sem] def QT:Option TI->qP->qP
 |some ⟨.list t,_,_,_,_⟩,(.nilS,_)=>(.val (.list t) [],none)
 |_,s=>s
@[go_sem] def LQ:IntKind->Int->List Prop×DV
 | .i64,n=>([-9223372036854775808<=n/\n<=9223372036854775807],.val (.int .i64) n)
 |k,n=>([],.val (.int k) (k.wrap n))
@[go_sem] def rL {α:Type}:List α->List α->List α
 |[],m=>m
 |x::l,m=>x::rL l m
@[go_sem] def zQ:(t:Ty)->t.den->t.den->Option Bool
 | .bool,a,b=>some (a==b)
 | .int _,a,b=>some (decide ((a:Int)=b))
 | .str,a,b=>some (decide ((a:pJ)=b))
 | .unit,_,_=>some true
 | .pair s t,a,b=>eqAnd (zQ s a.1 b.1) (zQ t a.2 b.2)
 |_,_,_=>none
where
 eqAnd:Option Bool->Option Bool->Option Bool
  |some x,some y=>some (x&&y)
  |_,_=>none
attribute [go_sem] zQ.eqAnd
@[go_sem] def jx (k:IntKind) (a b:Int):BinOp->Option (List Prop×DV)
 | .add=>some (LQ k (a+b))
 | .sub=>some (LQ k (a-b))
 | .mul=>some (LQ k (a*b))
 | .eql=>some ([],.val .bool (decide (a=b)))
 | .neq=>some ([],.val .bool (!decide (a=b)))
 | .lss=>some ([],.val .bool (decide (a<b)))
 | .leq=>some ([],.val .bool (decide (a<=b)))
 | .gtr=>some ([],.val .bool (decide (b<a)))
 | .geq=>some ([],.val .bool (decide (b<=a)))
 | .quo=>some ([b≠0],.val (.int k) (k.wrap (Int.tdiv a b)))
 | .rem=>some ([b≠0],.val (.int k) (Int.tmod a b))
 | .and=>some ([],.val (.int k) (bits .and k a b))
 | .or=>some ([],.val (.int k) (bits .or k a b))
 | .xor=>some ([],.val (.int k) (bits .xor k a b))
 | .andNot=>some ([],.val (.int k) (bits .andNot k a b))
 |_=>none
def jy (k:IntKind) (a b:Int):Int:=k.wrap (a*2^min b.toNat k.bits)
def jz (k:IntKind) (a b:Int):Int:=a.fdiv (2^min b.toNat k.bits)
@[go_sem] def Bp (k:IntKind) (a:Int) (k':IntKind) (b:Int):BinOp->Option (List Prop×DV)
 | .shl=>some ([0<=b],.val (.int k) (jy k a b))
 | .shr=>some ([0<=b],.val (.int k) (jz k a b))
 |op=>if k=k' then jx k a b op else none
@[go_sem] def ka (a b:pJ):BinOp->Option (List Prop×DV)
 | .add=>some ([((a++b).length:Int)<=9223372036854775807],.val .str (a++b))
 | .eql=>some ([],.val .bool (decide (a=b)))
 | .neq=>some ([],.val .bool (!decide (a=b)))
 | .lss=>some ([],.val .bool (Op.bytesLess a b))
 | .leq=>some ([],.val .bool (Op.bytesLess a b||decide (a=b)))
 | .gtr=>some ([],.val .bool (!(Op.bytesLess a b||decide (a=b))))
 | .geq=>some ([],.val .bool (!Op.bytesLess a b))
 |_=>none
@[go_sem] def Bq:BinOp->Option Bool->Option (List Prop×DV)
 | .eql,some r=>some ([],.val .bool r)
 | .neq,some r=>some ([],.val .bool (!r))
 |_,_=>none
@[go_sem] def YL (op:BinOp):qP->qP->Option (List Prop×DV)
 |(.val (.int k) a,_),(.val (.int k') b,_)=>Bp k a k' b op
 |(.val .str a,_),(.val .str b,_)=>ka a b op
 |_,_=>none
@[go_sem] def Br (k:IntKind) (a b:Int):BinOp->Option (List Prop×DV)
 | .add=>some ([],.val (.int k) (k.wrap (a+b)))
 | .sub=>some ([],.val (.int k) (k.wrap (a-b)))
 | .mul=>some ([],.val (.int k) (k.wrap (a*b)))
 |_=>none
@[go_sem] def YM (op:BinOp):Option TI->qP->qP->Option (List Prop×DV)
 |some ⟨.int _,_,_,true,_⟩,(.val (.int k) a,_),(.val (.int k') b,_)=>if k=k' then Br k a b op else none
 |_,_,_=>none
@[go_sem] def Bs (u:Ty) (b:Nat) (op:BinOp) (t t':Ty) (x:t.den) (y:t'.den):Option (List Prop×DV):=
 if h:t'=t then(if t=u/\(t= .bool\/(t.isRow=true/\b=1)) then Bq op (zQ t x (uJ h y)) else none) else none
@[go_sem] def YN {α:Type}(l:List α):BinOp->Option (List Prop×DV)
 | .eql=>some ([],.flag (l=[]) True)
 | .neq=>some ([],.flag True (l=[]))
 |_=>none
@[go_sem] def ke:Option TI->BinOp->qP->qP->Option (List Prop×DV)
 |some ⟨.list _,_,_,_,_⟩,op,(.val (.list _) l,_),(.nilS,_)=>YN l op
 |some ⟨.list _,_,_,_,_⟩,op,(.nilS,_),(.val (.list _) l,_)=>YN l op
 |some ⟨u,_,b,_,_⟩,op,(.val t x,_),(.val t' y,_)=>Bs u b op t t' x y
 |_,_,_,_=>none
@[go_sem] def kf:Option (List Prop×DV)->Option (List Prop×DV)->Option (List Prop×DV)
 |some r,_=>some r
 |none,r=>r
@[go_sem] def kg:UnOp->qP->Option (List Prop×DV)
 | .not,(.val .bool b,_)=>some ([],.val .bool (!b))
 | .neg,(.val (.int k) n,_)=>some (LQ k (-(n:Int)))
 |_,_=>none
def tU (l:pU):pJ:=l.map λn=>UInt8.ofNat n.toNat
def tK (s:pJ):pU:=s.map λb=>(b.toNat:Int)
def J7 (n:Int):pJ:=(Utf8.encode n).data.toList
@[go_sem] def YO:Option TI->Option TI->qP->Option (List Prop×DV)
 |some _,some ⟨.int k,_,_,_,_⟩,(.val (.int _) n,_)=>some ([],.val (.int k) (k.wrap n))
 |some _,some ⟨.str,_,_,_,_⟩,(.val .str s,_)=>some ([],.val .str s)
 |some _,some ⟨.str,_,_,_,_⟩,(.val (.int _) n,_)=>some ([],.val .str (J7 n))
 |_,_,_=>none
@[go_sem] def Bt (l:pU):Option TI->Option (List Prop×DV)
 |some ⟨.int .u8,_,_,_,_⟩=>some ([],.val .str (tU l))
 |_=>none
@[go_sem] def kh (T:sJ):Option TI->Option TI->qP->Option (List Prop×DV)
 |some ⟨.list (.int .u8),e,_,_,_⟩,some ⟨.str,_,_,_,_⟩,(.val (.list (.int .u8)) l,_)=>Bt l (s4 T e)
 |_,_,_=>none
def s8 {α:Type}(l:List α) (lo hi:Int):List α:=(l.drop lo.toNat).take (hi.toNat-lo.toNat)
@[go_sem] def CG:Option qP->Int->Option Int
 |none,d=>some d
 |some (.val (.int _) n,_),_=>some n
 |_,_=>none
@[go_sem] def YP (t:Ty) (n:Nat) (f:Int->Int->t.den):Option Int->Option Int->Option (List Prop×DV)
 |some a,some b=>some ([0<=a/\a<=b/\b<=(n:Int)],.val t (f a b))
 |_,_=>none
@[go_sem] def kj:Option TI->qP->Option qP->Option qP->Option (List Prop×DV)
 |some ⟨.str,_,_,_,_⟩,(.val .str l,_),lo,hi=>YP .str (List.length l) (s8 l) (CG lo 0) (CG hi (List.length l))
 |some ⟨.list u,_,_,_,_⟩,(.val (.list t) l,_),lo,hi=>if t=u then YP (.list t) (List.length l) (s8 l) (CG lo 0) (CG hi (List.length l)) else none
 |_,_,_,_=>none
@[go_sem] def YQ (t:Ty) (x:t.den) (i:Nat):Option Ty->Option t.den
 |some (.list u)=>Ty.setPart (.list u) [] t x i
 |_=>none
@[go_sem] def B3 (t:Ty):Option t.den->List (Nat×qP)->Option t.den
 |some x,[]=>some x
 |some x,(i,(.val u y,_))::r=>B3 t (Ty.setPart u y t x i) r
 |some x,(i,(.nilS,_))::r=>B3 t (YQ t x i (t.fld i)) r
 |_,_=>none
@[go_sem] def DQ (t:Ty):Nat->List t.den
 |0=>[]
 |n+1=>t.zero::DQ t n
@[go_sem] def Bu (t:Ty) (n:Nat) (l:List t.den) (i:Nat) (u:Ty) (y:u.den):Option (List t.den):=if h:(u=sN/\.part=t)/\i<n then some (l.set i (uJ h.1.2 (qG.of (uJ h.1.1 y)))) else none
@[go_sem] def Bv (t:Ty) (n:Nat) (l:List t.den) (i:Nat) (u:Ty) (y:u.den):Option (List t.den):=if h:u=t/\i<n then some (l.set i (uJ h.1 y)) else Bu t n l i u y
@[go_sem] def BO (t:Ty) (n:Nat):Option (List t.den)->List (Nat×qP)->Option (List t.den)
 |some l,[]=>some l
 |some l,(i,(.val u y,_))::r=>BO t n (Bv t n l i u y) r
 |_,_=>none
attribute [go_sem] List.set_cons_zero List.set_cons_succ
@[go_sem] def LR:List qP->Option pT
 |[]=>some []
 |(.val .ref (some p),_)::r=>(LR r).map (p:: ·)
 |_=>none
@[go_sem] def xK:pT->Nat->pX
 |[],_=>none
 |(o,k)::r,a=>if o=a then some k else xK r a
@[go_sem] def y5:pX->Nat->pT
 |some k,o=>[(o,k)]
 |none,_=>[]
@[go_sem] def vZ:pT->Nat->Nat->pT
 |[],_,_=>[]
 |(q,k)::r,o,n=>if o<=q/\q<o+n then vZ r o n else(q,k)::vZ r o n
@[go_sem] def FY:Ty->pX->pX
 | .list _,k=>k
 |_,_=>none
@[go_sem] def zR {α:Type}:List α->List α->List α
 |[],acc=>acc
 |x::l,acc=>zR l (x::acc)
inductive rX where
 |box (id:Nat) (u:Ty) (x:u.den) (toks:pT) (o:Nat)
 |tok (id:Nat)
@[go_sem] def rX.id:rX->Nat
 | .box i _ _ _ _=>i
 | .tok k=>k
@[go_sem] def BP:Nat->pY->Bool
 |_,[]=>false
 |i,j::r=>if i=j then true else BP i r
@[go_sem] def sF:List rX->pY
 |[]=>[]
 |w::r=>w.id::sF r
structure tC where
 args:List qP
 H:List qQ
 ws:List rX
 n:Nat
@[go_sem] def LS:pY->Nat->pT
 |[],_=>[]
 |q::qs,n=>(q,n)::LS qs (n+1)
@[go_sem] def CH (k:Nat):Option qQ->Option tC->Option tC
 |some (.grow e c m),some a=>if BP k (sF a.ws)=true then none else some ⟨a.args,.grow e c m::a.H,.tok k::a.ws,a.n+1⟩
 |_,_=>none
@[go_sem] def zS (H:List (Nat×qQ)):pX->Option tC->Option tC
 |some k,a=>CH k (qU H k) a
 |none,_=>none
@[go_sem] def yY (H:List (Nat×qQ)) (toks:pT) (o:Nat):pY->Option tC->Option tC
 |[],a=>a
 |q::qs,a=>yY H toks o qs (zS H (xK toks (o+q)) a)
@[go_sem] def QU (n:Nat):pY->Bool
 |[]=>true
 |q::qs=>decide (q<n)&&QU n qs
@[go_sem] def FZ (H:List (Nat×qQ)) (t:Ty) (os:pY) (i o:Nat) (u:Ty) (x:u.den) (toks:pT) (a:tC):Option t.den->Option tC
 |some y=>if (QU t.cells os&& !BP i (sF a.ws))=true then yY H toks o os (some ⟨(.val .ref (some (a.n,0)),none)::a.args,.cells t y (LS os (a.n+1))::a.H,.box i u x toks o::a.ws,a.n+1⟩) else none
 |none=>none
@[go_sem] def w9 (H:List (Nat×qQ)) (t:Ty) (os:pY) (i o:Nat) (a:tC):Option qQ->Option tC
 |some (.cells u x toks)=>FZ H t os i o u x toks a (rT t u x o)
 |_=>none
@[go_sem] def CI (t:Ty) (x:t.den) (k:Nat) (a:tC):Option qQ->Option tC
 |some (.grow e c m)=>if (t.pure&& !BP k (sF a.ws))=true then some ⟨(.val t x,some a.n)::a.args,.grow e c m::a.H,.tok k::a.ws,a.n+1⟩ else none
 |_=>none
@[go_sem] def YR (t:Ty) (x:t.den) (a:tC):Option tC:=
 if t.pure=true then some ⟨(.val t x,none)::a.args,a.H,a.ws,a.n⟩ else none
@[go_sem] def YS (f:FuncId) (a:tC):Option tC:=some ⟨(.val .clo (some (f,[])),none)::a.args,a.H,a.ws,a.n⟩
@[go_sem] def YT (a:tC):Option tC:=some ⟨(.nilS,none)::a.args,a.H,a.ws,a.n⟩
@[go_sem] def CK (i:Nat) (a:tC):Option qQ->Option tC
 |some (.map k v l)=>if (k.pure&&v.pure&& !BP i (sF a.ws))=true then some ⟨(.val .mp (some a.n),none)::a.args,.map k v l::a.H,.tok i::a.ws,a.n+1⟩ else none
 |_=>none
@[go_sem] def CL (i:Nat) (a:tC):Option qQ->Option tC
 |some (.map k v l)=>if (k.pure&&v.pure&& !BP i (sF a.ws))=true then some ⟨(.val (.pair .mp .unit) (some a.n,()),none)::a.args,.map k v l::a.H,.tok i::a.ws,a.n+1⟩ else none
 |_=>none
@[go_sem] def CM (k n:Nat) (a:tC):Option qQ->Option tC
 |some (.row e t l m)=>if (t.pure&& !BP k (sF a.ws))=true then some ⟨(.own a.n n,none)::a.args,.row e t l m::a.H,.tok k::a.ws,a.n+1⟩ else none
 |_=>none
@[go_sem] def y6 (H:List (Nat×qQ)) (f:FuncId) (args:List qP):List (Ty×pY)->pT->pT->Option tC->Option tC
 |[],[],ids,some a=>some ⟨(.val .clo (some (f,zR ids [])),none)::args,a.H,a.ws,a.n⟩
 |(t,os)::ks,(i,o)::cs,ids,some a=>y6 H f args ks cs ((a.n,0)::ids) (w9 H t os i o a (qU H i))
 |_,_,_,_=>none
@[go_sem] def y7 (H:List (Nat×qQ)) (a:tC):PK->qP->Option tC
 | .v,(.val .clo (some (f,[])),_)=>YS f a
 | .v,(.val t x,_)=>YR t x a
 | .v,(.nilS,_)=>YT a
 | .own,(.val (.list t) x,some k)=>CI (.list t) x k a (qU H k)
 | .p t os,(.val .ref (some (i,o)),_)=>w9 H t os i o a (qU H i)
 | .m,(.val .mp (some i),_)=>CK i a (qU H i)
 | .s,(.val (.pair .mp .unit) (some i,()),_)=>CL i a (qU H i)
 | .r,(.own k n,_)=>CM k n a (qU H k)
 | .f ks,(.val .clo (some (f,cs)),_)=>y6 H f a.args ks cs [] (some a)
 |_,_=>none
@[go_sem] def y8 (H:List (Nat×qQ)):List PK->List qP->Option tC->Option tC
 |_,_,none=>none
 |[],[],some a=>some a
 |p::ps,s::ss,some a=>y8 H ps ss (y7 H a p s)
 |_,_,some _=>none
@[go_sem] def a6v:Option pW->qP
 |some (some p)=>(.val .ref (some p),none)
 |_=>(.any,none)
@[go_sem] def a6w:Option pX->qP
 |some (some i)=>(.val .mp (some i),none)
 |_=>(.any,none)
@[go_sem] def a6x:Option pW->qP
 |some (some (k,n))=>(.own k n,none)
 |_=>(.any,none)
@[go_sem] def H3:(t:Ty)->t.den->Nat->Option pW
 | .rl _ _,x,0=>some x
 | .pair a b,x,o=>if o<a.cells then H3 a x.1 o else H3 b x.2 (o-a.cells)
 |_,_,_=>none
@[go_sem] def LT (q:Nat):PK->Option qQ->qP
 | .r,some (.cells t y _)=>a6x (H3 t y q)
 | .p _ _,some (.cells t y _)=>a6v (rT .ref t y q)
 | .m,some (.cells t y _)=>a6w (rT .mp t y q)
 |_,_=>(.any,none)
@[go_sem] def J8:List qQ->Nat->Option qQ
 |[],_=>none
 |b::_,0=>some b
 |_::r,n+1=>J8 r n
@[go_sem] def QV (l:List qP):Option tC->Option tC
 |some a=>some ⟨l,a.H,a.ws,a.n⟩
 |none=>none
@[go_sem] def BQ (H:List (Nat×qQ)):List (Nat×Nat×PK)->Option tC->Option tC
 |_,none=>none
 |[],some a=>some a
 |(c,q,pk)::r,some a=>BQ H r (QV a.args (y7 H a pk (LT q pk (J8 a.H (a.n-1-c)))))
@[go_sem] def H4 (i o:Nat):List rX->Nat->pW
 |[],_=>none
 | .box j _ _ _ oc::r,c=>if j=i/\oc<=o then some (c,o-oc) else H4 i o r (c+1)
 | .tok _::r,c=>H4 i o r (c+1)
@[go_sem] def wQ (i:Nat):List rX->Nat->pX
 |[],_=>none
 | .tok j::r,c=>if j=i then some c else wQ i r (c+1)
 | .box _ _ _ _ _::r,c=>wQ i r (c+1)
@[go_sem] def LU {α β:Type}:Option α->Option β->Option (α×β)
 |some a,some b=>some (a,b)
 |_,_=>none
@[go_sem] def YU (W:List rX):pW->Option pW
 |none=>some none
 |some (i,o)=>(H4 i o W 0).map some
@[go_sem] def Bw (W:List rX):pX->Option pX
 |none=>some none
 |some i=>(wQ i W 0).map some
@[go_sem] def Bx (W:List rX):pW->Option pW
 |none=>some none
 |some (k,n)=>(wQ k W 0).map λc=>some (c,n)
@[go_sem] def V8:Option (Nat×pT)->Option (Option (Nat×pT))
 |none=>some none
 |some (f,[])=>some (some (f,[]))
 |_=>none
@[go_sem] def DR (W:List rX):(t:Ty)->t.den->Option t.den
 | .ref,x=>YU W x
 | .clo,x=>V8 x
 | .mp,x=>Bw W x
 | .pair a b,x=>LU (if a.pure=true then some x.1 else DR W a x.1) (if b.pure=true then some x.2 else DR W b x.2)
 | .list t,x=>if t.pure=true then some x else none
 | .bool,x=>some x
 | .int _,x=>some x
 | .str,x=>some x
 | .unit,x=>some x
 | .rl _ _,x=>Bx W x
 | .fn,x=>some x
 | .mref,x=>YU W x
 | .part,x=>some x
@[go_sem] def kl:Option qQ->Option (List qQ)->Option (List qQ)
 |some b,some l=>some (b::l)
 |_,_=>none
@[go_sem] def a6y (t:Ty) (ts:pT):Option t.den->Option qQ
 |some y=>some (.cells t y ts)
 |none=>none
@[go_sem] def YV (W:List rX):qQ->Option qQ
 | .cells t y ts=>if t.pure=true then some (.cells t y ts) else a6y t ts (DR W t y)
 |b=>some b
@[go_sem] def J9 (W:List rX):List qQ->Option (List qQ)
 |[]=>some []
 |b::r=>kl (YV W b) (J9 W r)
@[go_sem] def B4:List rX->Nat->Option rX
 |[],_=>none
 |w::_,0=>some w
 |_::r,n+1=>B4 r n
@[go_sem] def QW (n:Nat) (c:Nat):Option rX->Bool
 |some _=>false
 |none=>decide (c<n)
@[go_sem] def B5 (base n c:Nat):Option rX->pX
 |some (.box _ _ _ _ _)=>none
 |some (.tok k)=>some k
 |none=>if c<n then some (base+c) else none
@[go_sem] def By (base n c o:Nat):Option rX->qP
 |some (.box i _ _ _ o')=>(.val .ref (some (i,o'+o)),none)
 |wh=>if QW n c wh=true then(.val .ref (some (base+c,o)),none) else(.any,none)
@[go_sem] def LV (base n:Nat) (W:List rX):pX->pX
 |some c=>B5 base n c (B4 W c)
 |none=>none
@[go_sem] def a6z (m:Nat):pX->qP
 |some k=>(.own k m,none)
 |none=>(.any,none)
@[go_sem] def a6A:pX->qP
 |some k=>(.val .mp (some k),none)
 |none=>(.any,none)
@[go_sem] def km (base n c o:Nat):Option rX->pW
 |some (.box i _ _ _ o')=>some (i,o'+o)
 |wh=>if QW n c wh=true then some (base+c,o) else none
@[go_sem] def a6B:pW->Option pT->Option pT
 |some p,some l=>some (p::l)
 |_,_=>none
@[go_sem] def QX (base n:Nat) (W:List rX):pT->Option pT
 |[]=>some []
 |(c,o)::r=>a6B (km base n c o (B4 W c)) (QX base n W r)
@[go_sem] def a6C (f:Nat):Option pT->qP
 |some l=>(.val .clo (some (f,l)),none)
 |none=>(.any,none)
@[go_sem] def YW (base n:Nat) (W:List rX):qP->qP
 |(.own c m,_)=>a6z m (LV base n W (some c))
 |(.val .ref (some (c,o)),_)=>By base n c o (B4 W c)
 |(.val .ref none,_)=>(.val .ref none,none)
 |(.val .mp (some c),_)=>a6A (LV base n W (some c))
 |(.val .mp none,_)=>(.val .mp none,none)
 |(.val .clo (some (f,cs)),_)=>a6C f (QX base n W cs)
 |(.val t x,k)=>if t.pure=true then(.val t x,LV base n W (FY t k)) else(.any,none)
 |_=>(.any,none)
@[go_sem] def a6D (q:Nat):pX->pT->pT
 |some k,r=>(q,k)::r
 |none,r=>r
@[go_sem] def F3 (base n:Nat) (W:List rX) (o:Nat):pT->pT
 |[]=>[]
 |(q,c)::r=>a6D (o+q) (B5 base n c (B4 W c)) (F3 base n W o r)
@[go_sem] def LW (base n:Nat) (W:List rX):pW->Option pW
 |none=>some none
 |some (c,o)=>back2 c o (B4 W c)
where
 back2 (c o:Nat):Option rX->Option pW
  |some (.box i _ _ _ o')=>some (some (i,o'+o))
  |wh=>if QW n c wh=true then some (some (base+c,o)) else none
attribute [go_sem] LW.back2
@[go_sem] def Bz (base n:Nat) (W:List rX):pX->Option pX
 |none=>some none
 |some c=>(B5 base n c (B4 W c)).map some
@[go_sem] def Ca (base n:Nat) (W:List rX):pW->Option pW
 |none=>some none
 |some (c,q)=>(B5 base n c (B4 W c)).map λk=>some (k,q)
@[go_sem] def CN (base n:Nat) (W:List rX):(t:Ty)->t.den->Option t.den
 | .ref,x=>LW base n W x
 | .clo,x=>V8 x
 | .mp,x=>Bz base n W x
 | .pair a b,x=>LU (if a.pure=true then some x.1 else CN base n W a x.1) (if b.pure=true then some x.2 else CN base n W b x.2)
 | .list t,x=>if t.pure=true then some x else none
 | .bool,x=>some x
 | .int _,x=>some x
 | .str,x=>some x
 | .unit,x=>some x
 | .rl _ _,x=>Ca base n W x
 | .fn,x=>some x
 | .mref,x=>LW base n W x
 | .part,x=>some x
@[go_sem] def YX (i o:Nat) (u t:Ty) (toks ts:pT):Option u.den->Option (Nat×qQ)
 |some z=>some (i,.cells u z (rL ts (vZ toks o t.cells)))
 |none=>none
@[go_sem] def Cb (i:Nat) (t:Ty) (ts:pT):Option t.den->Option (Nat×qQ)
 |some y=>some (i,.cells t y ts)
 |none=>none
@[go_sem] def F4 (base n c:Nat) (W:List rX):qQ->Option (Nat×qQ)
 | .cells t y ts=>if t.pure=true then some (base+c,.cells t y (F3 base n W 0 ts)) else Cb (base+c) t (F3 base n W 0 ts) (CN base n W t y)
 | .grow e m k=>some (base+c,.grow e m k)
 | .row e t l n=>if t.pure=true then some (base+c,.row e t l n) else none
 | .map k v l=>if (k.pure&&v.pure)=true then some (base+c,.map k v l) else none
 | .iter _ _=>none
 | .dead=>some (base+c,.dead)
@[go_sem] def AE (k:Nat):qQ->Option (Nat×qQ)
 | .cells _ _ _=>none
 | .grow e m n=>some (k,.grow e m n)
 | .row e t l n=>if t.pure=true then some (k,.row e t l n) else none
 | .map s v l=>if (s.pure&&v.pure)=true then some (k,.map s v l) else none
 | .iter _ _=>none
 | .dead=>some (k,.dead)
@[go_sem] def Cc (i o:Nat) (u t:Ty) (toks ts:pT) (x:u.den):Option t.den->Option (Nat×qQ)
 |some y=>YX i o u t toks ts (sW t y u x o)
 |none=>none
@[go_sem] def y9 (base n i o:Nat) (W:List rX) (u:Ty) (x:u.den) (toks:pT):qQ->Option (Nat×qQ)
 | .cells t y ts=>if t.pure=true then YX i o u t toks (F3 base n W o ts) (sW t y u x o) else Cc i o u t toks (F3 base n W o ts) x (CN base n W t y)
 | .dead=>some (i,.dead)
 | .grow _ _ _=>none
 | .row _ _ _ _=>none
 | .map _ _ _=>none
 | .iter _ _=>none
@[go_sem] def V9:Option (Nat×qQ)->Option (List (Nat×qQ))->Option (List (Nat×qQ))
 |some q,some r=>some (q::r)
 |_,_=>none
@[go_sem] def BR (base n:Nat) (W:List rX):Nat->List rX->List qQ->Option (List (Nat×qQ))
 |_,[],[]=>some []
 |c,[],b::L=>V9 (F4 base n c W b) (BR base n W (c+1) [] L)
 |c,.box i u x toks o::ws,b::L=>V9 (y9 base n i o W u x toks b) (BR base n W (c+1) ws L)
 |c,.tok k::ws,b::L=>V9 (AE k b) (BR base n W (c+1) ws L)
 |_,_::_,[]=>none
@[go_sem] def H5:List qP->Option (List ((Σ t:Ty,t.den)×pX))
 |[]=>some []
 |(.val t x,k)::r=>(H5 r).map ((⟨t,x⟩,k):: ·)
 |(.own k n,_)::r=>(H5 r).map ((⟨.rl 0 .unit,some (k,n)⟩,none):: ·)
 |_=>none
@[go_sem] def a6E:Option (List ((Σ t:Ty,t.den)×pX))->qP
 |some q=>(.tup q,none)
 |none=>(.any,none)
@[go_sem] def QY:List qP->Option qP
 |[]=>some (.tup [],none)
 |[s]=>some s
 |s::s'::l=>some (a6E (H5 (s::s'::l)))
@[go_sem] def kr (W:List rX):pY->pY
 |[]=>[]
 |c::r=>sameId (B4 W c) (kr W r)
where
 sameId:Option rX->pY->pY
  |some w,r=>w.id::r
  |none,r=>r
attribute [go_sem] kr.sameId
@[go_sem] def VA (side:List Prop) (rds:pY):Option (List (Nat×qQ))->Option qP->Option rA
 |some H,some s=>some ⟨side,s,H,rds⟩
 |_,_=>none
@[go_sem] def VB (base n:Nat) (W:List rX):List qP->List qP
 |[]=>[]
 |s::r=>YW base n W s::VB base n W r
@[go_sem] def wR:List qQ->Nat
 |[]=>0
 |_::r=>wR r+1
@[go_sem] def YY (base:Nat) (W:List rX) (sm:pY):Option r9->Option rA
 |some r=>VA r.side (rL (sF W) (kr W sm)) (BR base (wR r.H) W 0 W r.H) (QY (VB base (wR r.H) W r.ret))
 |none=>none
@[go_sem] def YZ (C:List qP->List qQ->Option r9) (sm:pY) (base:Nat) (W:List rX) (args:List qP):Option (List qQ)->Option rA
 |some L=>YY base W sm (C args L)
 |none=>none
@[go_sem] def VC (C:List qP->List qQ->Option r9) (sm:pY) (base:Nat):Option tC->Option rA
 |some a=>YZ C sm base (zR a.ws []) (zR a.args []) (J9 (zR a.ws []) (zR a.H []))
 |none=>none
@[go_sem] def H6 (H:List (Nat×qQ)) (base:Nat) (args:List qP):Option r8->Option rA
 |some g=>VC g.C g.same base (BQ H g.gs (y8 H g.ps args (some ⟨[],[],[],0⟩)))
 |none=>none
@[go_sem] def VD:List PK->List qP->pX
 | .r::ps,_::ss=>VD ps ss
 |_::_,(.own k _,_)::_=>some k
 |_::ps,_::ss=>VD ps ss
 |_,_=>none
@[go_sem] def Cd (k:Nat) (t:Ty) (l:List t.den):qP->qP
 |(.own j m,x)=>if j=k then(.val (.list t) l,none) else(.own j m,x)
 |s=>s
@[go_sem] def VE (k:Nat) (t:Ty) (l:List t.den):List qP->List qP
 |[]=>[]
 |s::r=>Cd k t l s::VE k t l r
@[go_sem] def LX (k n:Nat):List qP->List Prop
 |[]=>[]
 |(.own j m,_)::r=>(j=k->m=n)::LX k n r
 |_::r=>LX k n r
@[go_sem] def JA:Ty->Bool
 | .list _=>false
 | .pair a b=>JA a&&JA b
 | .bool| .int _| .str| .unit| .fn=>true
 | .ref| .clo| .mp| .rl _ _| .mref| .part=>false
@[go_sem] def qW:List (Nat×qQ)->pY
 |[]=>[]
 |(i,_)::r=>i::qW r
@[go_sem] def QZ:List (Nat×qQ)->Bool
 |[]=>true
 |(_,.cells t _ [])::r=>JA t&&QZ r
 |_=>false
@[go_sem] def ku (sd:List Prop) (k:Nat):Option rA->Option rA
 |some ⟨side,(.val t x,_),U,rds⟩=>if (JA t&&QZ U&& !BP k (qW U))=true then some ⟨rL sd side,(.val t x,none),U,k::rds⟩ else none
 |_=>none
@[go_sem] def VF (H:List (Nat×qQ)) (base:Nat) (args:List qP) (g:r8) (k:Nat):Option qQ->Option rA
 |some (.row _ t l m)=>ku (LX k m args) k (H6 ((k,.dead)::H) base (VE k t l args) (some g))
 |_=>none
@[go_sem] def Ce (H:List (Nat×qQ)) (base:Nat) (args:List qP) (g:r8):pX->Option rA
 |some k=>VF H base args g k (qU H k)
 |none=>H6 H base args (some g)
@[go_sem] def Cf (k n m e:Nat) (t:Ty):Option (List t.den)->Option rA
 |some l=>some ⟨[n=m,m<4611686018427387904],(.tup [],none),[(k,.row e t l m)],[k]⟩
 |none=>none
@[go_sem] def kv (F:(t:Ty)->List t.den->Option (List t.den)) (k n:Nat):Option qQ->Option rA
 |some (.row e t l m)=>Cf k n m e t (F t l)
 |_=>none
@[go_sem] def Z0 (H:List (Nat×qQ)) (F:(t:Ty)->List t.den->Option (List t.den)):List qP->Option rA
 |[(.own k n,_)]=>kv F k n (qU H k)
 |_=>none
@[go_sem] def kw (base:Nat):Option TI->qP->Option rA
 |some ⟨.list u,e,_,true,_⟩,(.nilS,_)=>some ⟨[],(.own base 0,none),[(base,.row e u [] 0)],[]⟩
 |some ⟨.list u,e,_,false,_⟩,(.nilS,_)=>some ⟨[],(.val (.list u) [],some base),[(base,.grow e u.cells 0)],[]⟩
 |_,(.nilS,_)=>none
 |_,s=>some ⟨[],s,[],[]⟩
@[go_sem] def G0:Ty->Nat->Bool
 | .list _,0=>true
 | .pair a b,o=>if o<a.cells then G0 a o else G0 b (o-a.cells)
 |_,_=>false
@[go_sem] def G1 (t:Ty):List (Nat×TypeId×Nat)->Bool
 |[]=>true
 |(o,_,_)::r=>G0 t o&&G1 t r
@[go_sem] def CO:List (Nat×TypeId×Nat)->Nat->pT
 |[],_=>[]
 |(o,_,_)::r,i=>(o,i)::CO r (i+1)
@[go_sem] def F5:List (Nat×TypeId×Nat)->Nat->List (Nat×qQ)
 |[],_=>[]
 |(_,e,c)::r,i=>rL (F5 r (i+1)) [(i,.grow e c 0)]
@[go_sem] def kz (e:Nat):Bool:=if e=113 then true else if e=Bl then true else false
@[go_sem] def la (e:Nat) (u:Ty) (o:Nat):pW->List (Nat×Nat×Ty)
 |none=>[(o,e,u)]
 |some _=>[]
@[go_sem] def G2:(t:Ty)->t.den->Nat->List (Nat×Nat×Ty)
 | .rl e u,x,o=>la e u o x
 | .pair a b,x,o=>rL (G2 a x.1 o) (G2 b x.2 (o+a.cells))
 |_,_,_=>[]
@[go_sem] def lf (o:Nat):pW->pY
 |none=>[o]
 |some _=>[]
@[go_sem] def H7:(t:Ty)->t.den->Nat->pY
 | .mref,x,o=>lf o x
 | .pair a b,x,o=>rL (H7 a x.1 o) (H7 b x.2 (o+a.cells))
 |_,_,_=>[]
@[go_sem] def Cg:Nat->pY->pY
 |2,[0]=>[0]
 |_,_=>[]
@[go_sem] def Z1 (el:Nat) (t:Ty) (y:t.den):pY:=if kz el=true then Cg t.cells (H7 t y 0) else[]
@[go_sem] def LY (t:Ty):Nat->List (Nat×Nat×Ty)->Option t.den->Option t.den
 |_,[],x=>x
 |i,(o,e,u)::r,some x=>LY t (i+1) r (sW (.rl e u) (some (i,0)) t x o)
 |_,_::_,none=>none
@[go_sem] def JB (t:Ty) (i:Nat):pY->Option t.den->Option t.den
 |[],x=>x
 |q::r,some x=>JB t i r (sW .mref (some (i,q)) t x q)
 |_::_,none=>none
@[go_sem] def LZ:List (Nat×Nat×Ty)->Nat->List (Nat×qQ)
 |[],_=>[]
 |(_,e,u)::r,i=>rL (LZ r (i+1)) [(i,.row e u [] 0)]
@[go_sem] def VG {α:Type}:List α->Nat
 |[]=>0
 |_::r=>VG r+1
@[go_sem] def Ch (base:Nat) (t:Ty) (ls:List (Nat×TypeId×Nat)) (R:List (Nat×Nat×Ty)):Option t.den->Option rA
 |some z=>some ⟨[],(.val .ref (some (base,0)),none),(base,.cells t z (CO ls (base+1)))::rL (LZ R (base+1+VG ls)) (F5 ls (base+1)),[]⟩
 |none=>none
@[go_sem] def Z2 (base el:Nat) (t:Ty) (y:t.den) (ls:List (Nat×TypeId×Nat)):Bool->Option rA
 |true=>Ch base t ls (G2 t y 0) (JB t base (Z1 el t y) (LY t (base+1+VG ls) (G2 t y 0) (some y)))
 |false=>none
@[go_sem] def CP (k:Nat):List (Nat×TypeId×Nat)->List (Nat×TypeId×Nat)
 |[]=>[]
 |(o,e,c)::r=>if o+1=k then CP k r else(o,e,c)::CP k r
@[go_sem] def Ci (base el:Nat) (ls:List (Nat×TypeId×Nat)):(t:Ty)->t.den->pX->Option rA
 | .pair a b,y,some k=>Z2 base el (.pair a b) y (CP k ls) (G1 (.pair a b) (CP k ls))
 | .list u,y,k=>some ⟨[],(.val .ref (some (base,0)),none),[(base,.cells (.list u) y (y5 k 0))],[]⟩
 |t,y,_=>some ⟨[],(.val .ref (some (base,0)),none),[(base,.cells t y [])],[]⟩
@[go_sem] def VH (base el:Nat):Option TI->Option rA
 |some ⟨.list u,e,_,_,_⟩=>some ⟨[],(.val .ref (some (base,0)),none),[(base,.cells (.list u) [] [(0,base+1)]),(base+1,.grow e u.cells 0)],[]⟩
 |some ti=>Z2 base el ti.ty ti.ty.zero ti.ls (G1 ti.ty ti.ls)
 |none=>none
@[go_sem] def lg (base el:Nat):Option TI->qP->Option rA
 |some ti,(.val t y,k)=>if t=ti.ty then Ci base el ti.ls t y k else none
 |_,_=>none
@[go_sem] def lh (base el:Nat):Option TI->qP->Option rA
 |some ⟨.list u,e,b,a,ls⟩,(.nilS,_)=>VH base el (some ⟨.list u,e,b,a,ls⟩)
 |ti,s=>lg base el ti (QT ti s)
@[go_sem] def M0:Ty->Bool
 | .list _=>true
 | .pair a b=>M0 a||M0 b
 | .part=>true
 | .bool| .int _| .str| .unit| .ref| .clo| .mp| .rl _ _| .mref| .fn=>false
@[go_sem] def Z3:pX->pX->pX
 |some o,some m=>if m=0 then some (o+1) else none
 |_,_=>none
@[go_sem] def li:Ty->Bool
 | .list _=>true
 | .pair _ _| .bool| .int _| .str| .unit| .ref| .clo| .mp| .rl _ _| .mref| .fn| .part=>false
@[go_sem] def Z4 (u:Ty) (o m:pX):Bool->Bool->pX
 |false,_=>m
 |true,true=>Z3 o m
 |true,false=>none
@[go_sem] def B6 (t:Ty):List (Nat×qP)->pX
 |[]=>some 0
 |(_,(.nilS,_))::r=>B6 t r
 |(i,(.val u _,_))::r=>Z4 u (t.offs i) (B6 t r) (M0 u) (li u)
 |_=>none
@[go_sem] def lj:Ty->pX->pX
 | .pair _ _,m=>m
 |_,_=>none
@[go_sem] def a6F (t:Ty) (k:pX):Option t.den->Option rA
 |some x=>some ⟨[],(.val t x,k),[],[]⟩
 |none=>none
@[go_sem] def ll (sl:List (Nat×qP)):Option TI->Option rA
 |some ti=>if ti.ty.isRow=true then a6F ti.ty (lj ti.ty (B6 ti.ty sl)) (B3 ti.ty (some ti.ty.zero) sl) else none
 |none=>none
@[go_sem] def Z5 (base e c n:Nat) (t:Ty):Option (List t.den)->Option rA
 |some l=>if n<=16777216/\n*c<=16777216 then some ⟨[],(.val (.list t) l,some base),[(base,.grow e c n)],[]⟩ else none
 |none=>none
@[go_sem] def Cj (base e n:Nat) (t:Ty):Option (List t.den)->Option rA
 |some l=>if t.pure=true/\n<=16777216/\n*t.cells<=16777216 then some ⟨[],(.own base n,none),[(base,.row e t l n)],[]⟩ else none
 |none=>none
@[go_sem] def lm (base n:Nat) (sl:List (Nat×qP)):Option TI->Option rA
 |some ⟨.list u,e,_,true,_⟩=>if n=0 then Cj base e n u (BO u n (some (DQ u n)) sl) else Z5 base e u.cells n u (BO u n (some (DQ u n)) sl)
 |some ⟨.list u,e,_,false,_⟩=>Z5 base e u.cells n u (BO u n (some (DQ u n)) sl)
 |_=>none
@[go_sem] def Ck (t:Ty) (k:pX) (i:Nat):Option t.den->Option rA
 |some y=>some ⟨[],(.val t y,k),[],[i]⟩
 |none=>none
@[go_sem] def VI (t:Ty) (i off:Nat):Option qQ->Option rA
 |some (.cells u x toks)=>Ck t (FY t (xK toks off)) i (rT t u x off)
 |_=>none
@[go_sem] def Cl (u:Ty) (k n m:Nat):Option u.den->Option rA
 |some y=>some ⟨[n=m],(.val u y,none),[],[k]⟩
 |none=>none
@[go_sem] def VJ (u:Ty) (k n c:Nat) (i:Int) (o:Nat):Option qQ->Option rA
 |some (.row _ t l m)=>if c=t.cells then Cl u k n m (rT u t (qI t l i) o) else none
 |_=>none
@[go_sem] def ln (i:Nat):Option pW->Option rA
 |some (some (k,n))=>some ⟨[],(.own k n,none),[],[i]⟩
 |_=>none
@[go_sem] def Z6 (i off:Nat):TI->Option qQ->Option rA
 |⟨.list u,e,_,_,_⟩,some (.cells v x _)=>ln i (rT (.rl e u) v x off)
 |_,_=>none
@[go_sem] def lq:pW->pW->pW
 |some p,_=>some p
 |none,q=>q
@[go_sem] def BS:(t:Ty)->t.den->pW
 | .rl _ _,x=>x
 | .pair a b,x=>lq (BS a x.1) (BS b x.2)
 |_,_=>none
@[go_sem] def lr (u0:Ty) (l:List u0.den) (u:Ty):pW->Option (Σ t:Ty,t.den)
 |some _=>if u=u0 then some ⟨.list u0,l⟩ else none
 |none=>none
@[go_sem] def M1 (a b:Ty) (x:a.den) (y:b.den):pW->Option (Σ t:Ty,t.den)->Option (Σ t:Ty,t.den)->Option (Σ t:Ty,t.den)
 |some _,some ⟨a',x'⟩,_=>some ⟨.pair a' b,(x',y)⟩
 |some _,none,_=>none
 |none,_,some ⟨b',y'⟩=>some ⟨.pair a b',(x,y')⟩
 |none,_,none=>none
@[go_sem] def zT (u0:Ty) (l:List u0.den):(t:Ty)->t.den->Option (Σ t:Ty,t.den)
 | .rl _ u,x=>lr u0 l u x
 | .pair a b,x=>M1 a b x.1 x.2 (BS a x.1) (zT u0 l a x.1) (zT u0 l b x.2)
 |_,_=>none
@[go_sem] def lu (t:Ty) (i k:Nat) (sd:Prop) (e:TypeId) (c n:Nat) (v:Ty) (x:v.den):Option t.den->Option rA
 |some y=>some ⟨[sd],(.val t y,none),[(i,.cells v x []),(k,.grow e c n)],[1000000000,i,k]⟩
 |none=>none
@[go_sem] def lv (t:Ty) (i off k:Nat) (sd:Prop) (e:TypeId) (c n:Nat):Option (Σ t:Ty,t.den)->Option rA
 |some ⟨v,x⟩=>lu t i k sd e c n v x (rT t v x off)
 |none=>none
@[go_sem] def Z7 (t:Ty) (i off k n0:Nat) (v:Ty) (x:v.den):Option qQ->Option rA
 |some (.row e u0 l m)=>lv t i off k (n0=m) e u0.cells (List.length l) (zT u0 l v x)
 |_=>none
@[go_sem] def Z8 (H:List (Nat×qQ)) (t:Ty) (i off:Nat) (v:Ty) (x:v.den):pW->Option rA
 |some (k,n0)=>Z7 t i off k n0 v x (qU H k)
 |none=>none
@[go_sem] def JC (H:List (Nat×qQ)) (t:Ty) (i off:Nat):Option qQ->Option rA
 |some (.cells v x _)=>Z8 H t i off v x (BS v x)
 |_=>none
@[go_sem] def Cm (H:List (Nat×qQ)) (t:Ty) (i off:Nat) (b:Option qQ):Option rA->Option rA
 |some r=>some r
 |none=>JC H t i off b
@[go_sem] def Z9 {α:Type}:Option α->Option (List α)->Option (List α)
 |some x,some l=>some (x::l)
 |_,_=>none
@[go_sem] def M3 (t u:Ty) (x:u.den) (off c:Nat):Nat->Option (List t.den)
 |0=>some []
 |m+1=>Z9 (rT t u x off) (M3 t u x (off+c) c m)
@[go_sem] def Cn (t:Ty) (i:Nat) (ix:Int):Option (List t.den)->Option rA
 |some l=>some ⟨[],(.val t (qI t l ix),none),[],[i]⟩
 |none=>none
@[go_sem] def lw (t:Ty) (i off m:Nat) (ix:Int):Option qQ->Option rA
 |some (.cells u x _)=>Cn t i ix (M3 t u x off t.cells m)
 |_=>none
@[go_sem] def ZA (H:List (Nat×qQ)):Option TI->qP->Option rA
 |some ti,(.elt k n c i o,_)=>VJ ti.ty k n c i o (qU H k)
 |some ti,(.arr i off t m ix,_)=>if t=ti.ty then lw ti.ty i off m ix (qU H i) else none
 |some ti,(.at u x,_)=>if u=ti.ty then some ⟨[],(.val u x,none),[],[]⟩ else none
 |some ti,(.val .ref (some (i,off)),_)=>Cm H ti.ty i off (qU H i) (Bo (VI ti.ty i off (qU H i)) (Z6 i off ti (qU H i)))
 |_,_=>none
@[go_sem] def ZB (u:Ty) (i:Nat) (toks:pT):Option u.den->Option rA
 |some z=>some ⟨[],(.any,none),[(i,.cells u z toks)],[i]⟩
 |none=>none
@[go_sem] def ZC (t:Ty) (y:t.den) (k:pX) (i off:Nat):Option qQ->Option rA
 |some (.cells u x toks)=>ZB u i (rL (y5 (FY t k) off) (vZ toks off t.cells)) (sW t y u x off)
 |_=>none
@[go_sem] def R0 (off:Nat):pT->pT
 |[]=>[]
 |(o,k)::r=>(off+o,k)::R0 off r
@[go_sem] def Co (u:Ty) (i:Nat) (nt toks:pT) (bs:List (Nat×qQ)):Option u.den->Option rA
 |some z=>some ⟨[],(.any,none),(i,.cells u z (rL nt toks))::rL bs [(i,.cells u z toks)],[i]⟩
 |none=>none
@[go_sem] def ZD (t:Ty) (y:t.den) (ls:List (Nat×TypeId×Nat)) (base i off:Nat):Option qQ->Bool->Option rA
 |some (.cells u x toks),true=>Co u i (R0 off (CO ls base)) (vZ toks off t.cells) (F5 ls base) (sW t y u x off)
 |_,_=>none
@[go_sem] def ZE (base i off:Nat) (b:Option qQ):List (Nat×TypeId×Nat)->(t:Ty)->t.den->pX->Option rA
 |q::r,.pair a c,y,some k=>ZD (.pair a c) y (CP k (q::r)) base i off b (G1 (.pair a c) (CP k (q::r)))
 |_,t,y,k=>ZC t y k i off b
@[go_sem] def Cp (k n m:Nat) (e:TypeId) (t:Ty) (l:List t.den) (i:Int):Option t.den->Option rA
 |some z=>some ⟨[n=m],(.any,none),[(k,.row e t (l.set i.toNat z) m)],[k]⟩
 |none=>none
@[go_sem] def ZF (u:Ty) (y:u.den) (k n c:Nat) (i:Int) (o:Nat):Option qQ->Option rA
 |some (.row e t l m)=>if c=t.cells then Cp k n m e t l i (sW u y t (qI t l i) o) else none
 |_=>none
@[go_sem] def lx (b:Ty) (y:b.den):Option (Σ t:Ty,t.den)->Option (Σ t:Ty,t.den)
 |some ⟨a,x⟩=>some ⟨.pair a b,(x,y)⟩
 |none=>none
@[go_sem] def ly (a:Ty) (x:a.den):Option (Σ t:Ty,t.den)->Option (Σ t:Ty,t.den)
 |some ⟨b,y⟩=>some ⟨.pair a b,(x,y)⟩
 |none=>none
@[go_sem] def yM (e:Nat) (u:Ty) (kn:pW):(t:Ty)->t.den->Nat->Option (Σ t:Ty,t.den)
 | .list v,_,0=>if v=u then some ⟨.rl e u,kn⟩ else none
 | .pair a b,x,o=>if o<a.cells then lx b x.2 (yM e u kn a x.1 o) else ly a x.1 (yM e u kn b x.2 (o-a.cells))
 |_,_,_=>none
@[go_sem] def lz (i:Nat):Option (Σ t:Ty,t.den)->Option rA
 |some ⟨v,z⟩=>some ⟨[],(.any,none),[(i,.cells v z [])],[1000000000,i]⟩
 |none=>none
@[go_sem] def Cq (i off k n e:Nat) (u v:Ty) (x:v.den):Option rA->Option rA
 |some r=>some r
 |none=>lz i (yM e u (some (k,n)) v x off)
@[go_sem] def ma (i off k n:Nat):TI->Option qQ->Option rA
 |⟨.list u,e,_,_,_⟩,some (.cells v x toks)=>Cq i off k n e u v x (ZB v i (vZ toks off 1) (sW (.rl e u) (some (k,n)) v x off))
 |_,_=>none
@[go_sem] def ZG (base:Nat) (H:List (Nat×qQ)):Option TI->qP->qP->Option rA
 |some ti,(.val .ref (some (i,off)),_),(.own k n,_)=>ma i off k n ti (qU H i)
 |some ti,(.elt k n c i o,_),(.val t y,_)=>if t=ti.ty then ZF t y k n c i o (qU H k) else none
 |some ti,(.val .ref (some (i,off)),_),(.val t y,k)=>if t=ti.ty then ZE base i off (qU H i) ti.ls t y k else none
 |_,_,_=>none
@[go_sem] def mb:qP->Option rA
 |(.val .ref (some p),_)=>some ⟨[],(.val .ref (some p),none),[],[]⟩
 |(.at t x,_)=>some ⟨[],(.at t x,none),[],[]⟩
 |(.elt k n c i o,_)=>some ⟨[],(.elt k n c i o,none),[],[]⟩
 |_=>none
@[go_sem] def Cr (f:FuncId):Option pT->Option rA
 |some l=>some ⟨[],(.val .clo (some (f,l)),none),[],[]⟩
 |none=>none
@[go_sem] def a6G (f:FuncId) (l:Option pT):List Operand->Option rA
 |[]=>Cr f l
 |_=>none
@[go_sem] def ZH (side:List Prop):Option (Σ t:Ty,t.den)->Option rA
 |some ⟨t,x⟩=>if 0<t.cells then some ⟨side,(.at t x,none),[],[]⟩ else none
 |none=>none
@[go_sem] def ZI (side:List Prop) (i off:Nat):pX->Option Ty->Option rA
 |some o,some u=>if 0<u.cells then some ⟨side,(.val .ref (some (i,off+o)),none),[],[]⟩ else none
 |_,_=>none
@[go_sem] def Cs (k n c:Nat) (i:Int) (o:Nat):pX->Option Ty->Option rA
 |some q,some u=>if 0<u.cells then some ⟨[],(.elt k n c i (o+q),none),[],[]⟩ else none
 |_,_=>none
@[go_sem] def mc (f:Nat):Option TI->qP->Option rA
 |some ⟨t,_,_,false,_⟩,(.elt k n c i o,_)=>Cs k n c i o (t.offs f) (t.fld f)
 |some ⟨t,_,_,false,_⟩,(.at u y,_)=>if u=t then ZH [] (u.proj y f) else none
 |some ⟨t,_,_,false,_⟩,(.val .ref (some (i,off)),_)=>ZI [] i off (t.offs f) (t.fld f)
 |_,_=>none
@[go_sem] def a6H:Option (Σ t:Ty,t.den)->Option rA
 |some ⟨t,x⟩=>some ⟨[],(.val t x,none),[],[]⟩
 |none=>none
@[go_sem] def md (f:Nat):Option TI->qP->Option rA
 |some ⟨t,_,_,false,_⟩,(.val u y,_)=>if u=t then a6H (u.proj y f) else none
 |_,_=>none
@[go_sem] def mf (t:Ty) (x:t.den):DV:=if h:t= .part then .at sN (qG.un (uJ h x)) else .at t x
abbrev Ct:Nat:=800000000
@[go_sem] def R1:Ty->Nat
 | .pair _ b=>R1 b+1
 |_=>0
@[go_sem] def a6I (i off:Nat) (a:Ty) (m:Nat) (ix:Int):Option rA:=some ⟨[0<=ix/\ix<(m:Int)],(.arr i off a m ix,none),[],[]⟩
@[go_sem] def mg:Option TI->qP->qP->Option rA
 |some ⟨.list t',_,_,_,_⟩,(.own k n,_),(.val (.int _) i,_)=>if 0<t'.cells then some ⟨[0<=i/\i<(n:Int)],(.elt k n t'.cells i 0,none),[],[]⟩ else none
 |some ⟨.list t',_,_,_,_⟩,(.val (.list t) l,_),(.val (.int _) i,_)=>if t=t' then some ⟨[0<=i/\i<(List.length l:Int)],(mf t (qI t l i),none),[],[]⟩ else none
 |some ⟨.pair a b,el,_,true,_⟩,(.val .ref (some (i,off)),_),(.val (.int _) n,_)=>if el=Ct then a6I i off a (R1 (.pair a b)) n else ZI [(0:Int)<=n] i off ((Ty.pair a b).offs (Int.toNat n)) ((Ty.pair a b).fld (Int.toNat n))
 |some ⟨.pair a b,_,_,true,_⟩,(.at u x,_),(.val (.int _) n,_)=>if u= .pair a b then ZH [(0:Int)<=n] (u.proj x (Int.toNat n)) else none
 |_,_,_=>none
@[go_sem] def mh:Option TI->qP->qP->Option rA
 |some ⟨.str,_,_,_,_⟩,(.val .str l,_),(.val (.int _) i,_)=>some ⟨[0<=i/\i<(List.length l:Int)],(.val (.int .u8) (r7 l i),none),[],[]⟩
 |_,_,_=>none
@[go_sem] def a6J (e:Nat) (u:Ty):pW->qP
 |some (k,n)=>(.own k n,none)
 |none=>(.val (.rl e u) none,none)
@[go_sem] def a6K:(t:Ty)->t.den->pX->qP
 | .rl e u,x,_=>a6J e u x
 | .bool,x,k=>(.val .bool x,k)
 | .int i,x,k=>(.val (.int i) x,k)
 | .str,x,k=>(.val .str x,k)
 | .list u,x,k=>(.val (.list u) x,k)
 | .unit,x,k=>(.val .unit x,k)
 | .pair a b,x,k=>(.val (.pair a b) x,k)
 | .ref,x,k=>(.val .ref x,k)
 | .clo,x,k=>(.val .clo x,k)
 | .mp,x,k=>(.val .mp x,k)
 | .mref,x,k=>(.val .mref x,k)
 | .part,x,k=>(.val .part x,k)
 | .fn,x,k=>(.val .fn x,k)
@[go_sem] def ZJ:List ((Σ t:Ty,t.den)×pX)->Nat->Option rA
 |[],_=>none
 |(⟨t,x⟩,k)::_,0=>some ⟨[],a6K t x k,[],[]⟩
 |_::r,n+1=>ZJ r n
@[go_sem] def Cu (b:Bool) (p c:Int):Nat->Option rA
 |0=>some ⟨[],(.val .bool b,none),[],[]⟩
 |1=>some ⟨[b=true],(.val (.int .i64) p,none),[],[]⟩
 |2=>some ⟨[b=true],(.val (.int .i32) c,none),[],[]⟩
 |_=>none
@[go_sem] def mi (i:Nat):qP->Option rA
 |(.tup l,_)=>ZJ l i
 |(.nxt b p c,_)=>Cu b p c i
 |_=>none
@[go_sem] def ZK (i:Nat):Option qQ->Option rA
 |some (.map _ _ l)=>some ⟨[],(.val (.int .i64) (List.length l:Int),none),[],[i]⟩
 |_=>none
@[go_sem] def mj (H:List (Nat×qQ)):Option TI->List qP->Option rA
 |some ⟨.mp,_,_,_,_⟩,[(.val .mp (some i),_)]=>ZK i (qU H i)
 |some ⟨.str,_,_,_,_⟩,[(.val .str l,_)]=>some ⟨[],(.val (.int .i64) (List.length l:Int),none),[],[]⟩
 |some ⟨.list _,_,_,_,_⟩,[(.val (.list _) l,_)]=>some ⟨[],(.val (.int .i64) (List.length l:Int),none),[],[]⟩
 |some ⟨.list _,_,_,_,_⟩,[(.own _ n,_)]=>some ⟨[],(.val (.int .i64) (n:Int),none),[],[]⟩
 |_,_=>none
@[go_sem] def ZL (a:Ty) (l r:List a.den) (k e' by':Nat):Option qQ->Option rA
 |some (.grow e c n)=>if e=e'/\c=a.cells/\0<c/\0<by' then some ⟨[List.length l=n,(List.length l+List.length r)*by'<=140737488355328],(.val (.list a) (l++r),some k),[(k,.grow e c (List.length (l++r)))],[k]⟩ else none
 |_=>none
@[go_sem] def ZM (b:Ty) (r:List b.den) (k n e' by':Nat):Option qQ->Option rA
 |some (.row e t l m)=>if h:b=t then(if e=e'/\0<t.cells/\0<by' then some ⟨[n=m,(n+List.length r)*by'<=140737488355328],(.own k (List.length (l++uJ (t:= .list b) (u:= .list t) (by rw[h]) r)),none),[(k,.row e t (l++uJ (t:= .list b) (u:= .list t) (by rw[h]) r) (List.length (l++uJ (t:= .list b) (u:= .list t) (by rw[h]) r)))],[k]⟩ else none) else none
 |_=>none
@[go_sem] def ZN (H:List (Nat×qQ)):Option TI->List qP->Option rA
 |some ⟨.list u,e,by',_,_⟩,[(.own k n,_),(.val (.list b) r,_)]=>if b=u then ZM b r k n e by' (qU H k) else none
 |some ⟨.list u,e,by',_,_⟩,[(.val (.list a) l,some k),(.val (.list b) r,_)]=>if h:b=a/\a=u then ZL a l (uJ (t:= .list b) (u:= .list a) (by rw[h.1]) r) k e by' (qU H k) else none
 |_,_=>none
@[go_sem] def ZO (mx:Bool):List qP->Option (List Prop×DV)
 |[(.val (.int k) a,_),(.val (.int k') b,_)]=>if k=k' then some ([],.val (.int k) (if mx then max (a:Int) b else min (a:Int) b)) else none
 |_=>none
@[go_sem] def ml:pT->List qP
 |[]=>[]
 |c::r=>(.val .ref (some c),none)::ml r
@[go_sem] def ZP (H:List (Nat×qQ)) (base:Nat) (args:List qP) (g:r8):Option ((t:Ty)->List t.den->Option (List t.den))->Option rA
 |some F=>Z0 H F args
 |none=>Ce H base args g (VD g.ps args)
@[go_sem] def M4 (H:List (Nat×qQ)) (base:Nat) (args:List qP):Option r8->Option rA
 |some g=>ZP H base args g g.row
 |none=>none
@[go_sem] def VK (Γ:tV) (f:Nat):Option r8:=if f<1000000000 then Γ f else none
@[go_sem] def R4 (Γ:tV) (H:List (Nat×qQ)) (base:Nat) (args:List qP):qP->Option rA
 |(.val .clo (some (f,caps)),_)=>M4 H base (args++ml caps) (VK Γ f)
 |(.val .fn (some f),_)=>M4 H base args (VK Γ f)
 |_=>none
@[go_sem] def H8 (T:sJ) (ρ:Operand->qP):List Operand->List TypeId->List qP
 |x::xs,t::ts=>QT (s4 T t) (ρ x)::H8 T ρ xs ts
 |_,_=>[]
@[go_sem] def w4 (ρ:Operand->qP):List Operand->List qP
 |[]=>[]
 |x::xs=>ρ x::w4 ρ xs
@[go_sem] def uU (ρ:Operand->qP):List (Nat×Operand)->List (Nat×qP)
 |[]=>[]
 |(i,x)::xs=>(i,ρ x)::uU ρ xs
@[go_sem] def wS (ρ:Operand->qP):Option Operand->Option qP
 |some x=>some (ρ x)
 |none=>none
@[go_sem] def ZQ (T:sJ) (H:List (Nat×qQ)) (ss:List qP):List TypeId->Option rA
 |t::_=>mj H (s4 T t) ss
 |[]=>none
@[go_sem] def ZR (l:pU) (s:pJ) (k e':Nat):Option qQ->Option rA
 |some (.grow e c n)=>if e=e'/\c=1 then some ⟨[List.length l=n,List.length l+List.length s<=140737488355328],(.val (.list (.int .u8)) (l++tK s),some k),[(k,.grow e c (List.length (l++tK s)))],[k]⟩ else none
 |_=>none
@[go_sem] def mm (H:List (Nat×qQ)):Option TI->Option TI->List qP->Option rA
 |some ⟨.list (.int .u8),e,1,_,_⟩,some ⟨.str,_,_,_,_⟩,[(.val (.list (.int .u8)) l,some k),(.val .str s,_)]=>ZR l s k e (qU H k)
 |_,_,_=>none
@[go_sem] def ZS (T:sJ) (H:List (Nat×qQ)) (ss:List qP):List TypeId->Option rA
 |[t,u]=>if t=u then ZN H (s4 T t) ss else mm H (s4 T t) (s4 T u) ss
 |_=>none
@[go_sem] def M5:List Operand->List TypeId->Bool
 |[],[]=>true
 |_::xs,_::ts=>M5 xs ts
 |_,_=>false
@[go_sem] def mn (T:sJ) (Γ:tV) (ρ:Operand->qP) (base:Nat) (H:List (Nat×qQ)) (args:List Operand) (tys:List TypeId) (f:qP):Bool->Option rA
 |true=>R4 Γ H base (H8 T ρ args tys) f
 |false=>none
@[go_sem] def M6 (T:sJ) (Γ:tV) (ρ:Operand->qP) (base:Nat) (H:List (Nat×qQ)) (args:Array Operand) (tys:Array TypeId):Callee->Option rA
 | .builtin .len=>ZQ T H (w4 ρ args.toList) tys.toList
 | .builtin .append=>ZS T H (w4 ρ args.toList) tys.toList
 | .builtin .max=>B2 (ZO true (w4 ρ args.toList))
 | .builtin .min=>B2 (ZO false (w4 ρ args.toList))
 | .value f=>mn T Γ ρ base H args.toList tys.toList (ρ f) (M5 args.toList tys.toList)
 |_=>none
@[go_sem] def tN:Ty->Bool
 | .int _| .str| .bool=>true
 |_=>false
@[go_sem] def CQ:Ty->Bool
 | .unit=>true
 | .pair a b=>tN a&&CQ b
 |_=>false
@[go_sem] def JD:TI->Bool
 |⟨.pair _ _,_,b,ar,_⟩=>decide (b=1)&& !ar
 |_=>true
@[go_sem] def DS:Ty->Bool
 | .pair a b=>CQ (.pair a b)
 | .int _| .str| .bool=>true
 |_=>false
def wG:(k:Ty)->k.den->k.den->Bool
 | .int _,a,b=>decide ((a:Int)=b)
 | .str,a,b=>decide ((a:pJ)=b)
 | .bool,a,b=>a==b
 | .pair s t,a,b=>(zQ (.pair s t) a b).getD false
 |_,_,_=>false
def sC (k v:Ty):List (k.den×v.den)->k.den->v.den
 |[],_=>v.zero
 |(x,y)::r,a=>if wG k a x=true then y else sC k v r a
def w5 (k v:Ty):List (k.den×v.den)->k.den->Bool
 |[],_=>false
 |(x,_)::r,a=>if wG k a x=true then true else w5 k v r a
def rN (k v:Ty) (a:k.den) (b:v.den):List (k.den×v.den)->List (k.den×v.den)
 |[]=>[(a,b)]
 |(x,y)::r=>if wG k a x=true then(a,b)::r else(x,y)::rN k v a b r
@[go_sem] def Cv (base:Nat):Option TI->Option TI->Option rA
 |some k,some v=>if DS k.ty=true/\JD k=true then some ⟨[],(.val .mp (some base),none),[(base,.map k.ty v.ty [])],[]⟩ else none
 |_,_=>none
@[go_sem] def mq (T:sJ) (base:Nat):Option TI->Option Operand->Option rA
 |some ⟨.mp,e,f,_,_⟩,none=>Cv base (s4 T e) (s4 T f)
 |_,_=>none
@[go_sem] def ZT (k:Ty) (a:k.den) (u:Ty) (i:Nat) (ok:Bool):Option qQ->Option rA
 |some (.map k' v l)=>if h:k=k'/\v=u then(if DS k=true then(match ok with
   |true=>some ⟨[],(.tup [(⟨v,sC k' v l (uJ h.1 a)⟩,none),(⟨.bool,w5 k' v l (uJ h.1 a)⟩,none)],none),[],[i]⟩
   |false=>some ⟨[],(.val v (sC k' v l (uJ h.1 a)),none),[],[i]⟩) else none) else none
 |_=>none
@[go_sem] def mr (H:List (Nat×qQ)) (ok:Bool) (i:Nat):Option TI->Option TI->qP->Option rA
 |some kt,some vt,(.val k a,_)=>if k=kt.ty/\JD kt=true then ZT k a vt.ty i ok (qU H i) else none
 |_,_,_=>none
@[go_sem] def Cw (ok:Bool):Option TI->Option TI->qP->Option rA
 |some kt,some vt,(.val k _,_)=>if k=kt.ty/\JD kt=true then(if DS k=true then(match ok with
   |true=>some ⟨[],(.tup [(⟨vt.ty,vt.ty.zero⟩,none),(⟨.bool,false⟩,none)],none),[],[]⟩
   |false=>some ⟨[],(.val vt.ty vt.ty.zero,none),[],[]⟩) else none) else none
 |_,_,_=>none
@[go_sem] def ZU (T:sJ) (H:List (Nat×qQ)) (ok:Bool):Option TI->qP->qP->Option rA
 |some ⟨.mp,e,f,_,_⟩,(.val .mp (some i),_),s=>mr H ok i (s4 T e) (s4 T f) s
 |some ⟨.mp,e,f,_,_⟩,(.val .mp none,_),s=>Cw ok (s4 T e) (s4 T f) s
 |_,_,_=>none
@[go_sem] def R5 (k:Ty) (a:k.den) (u:Ty) (b:u.den) (i:Nat):Option qQ->Option rA
 |some (.map k' v l)=>if h:k=k'/\u=v then(if DS k=true then some ⟨[],(.any,none),[(i,.map k' v (rN k' v (uJ h.1 a) (uJ h.2 b) l))],[i]⟩ else none) else none
 |_=>none
@[go_sem] def ZV (H:List (Nat×qQ)) (i:Nat):Option TI->qP->qP->Option rA
 |some kt,(.val k a,_),(.val u b,_)=>if k=kt.ty/\JD kt=true then R5 k a u b i (qU H i) else none
 |_,_,_=>none
@[go_sem] def Cx:Option TI->qP->qP
 |some ⟨.fn,_,_,_,_⟩,(.val .clo (some (f,[])),_)=>(.val .fn (some f),none)
 |_,s=>s
@[go_sem] def ZW (T:sJ):Option TI->qP->qP
 |some ⟨.mp,_,f,_,_⟩,s=>Cx (s4 T f) s
 |_,s=>s
@[go_sem] def R6 (T:sJ) (H:List (Nat×qQ)):Option TI->qP->qP->qP->Option rA
 |some ⟨.mp,e,_,_,_⟩,(.val .mp (some i),_),s,x=>ZV H i (s4 T e) s x
 |_,_,_,_=>none
def xW (s:pJ) (p:Nat):Int:=((Utf8.decode ⟨s.toArray⟩ p).1:Int)
def ms (s:pJ) (p:Nat):Nat:=(Utf8.decode ⟨s.toArray⟩ p).2
def B7 (s:pJ) (p:Nat):Nat:=if p<s.length then p+ms s p else p
@[go_sem] def mu (base:Nat):Option TI->qP->Option rA
 |some ⟨.str,_,_,_,_⟩,(.val .str s,_)=>some ⟨[],(.val .ref (some (base,0)),none),[(base,.iter s 0)],[]⟩
 |_,_=>none
@[go_sem] def mv (i:Nat):Option qQ->Option rA
 |some (.iter s p)=>some ⟨[],(.nxt (decide (p<List.length s)) ((p:Nat):Int) (xW s p),none),[(i,.iter s (B7 s p))],[i]⟩
 |_=>none
@[go_sem] def ZX (H:List (Nat×qQ)):Bool->qP->Option rA
 |true,(.val .ref (some (i,0)),_)=>mv i (qU H i)
 |_,_=>none
@[go_sem] def mw (base k n:Nat):Option qP->Option qP->Option qQ->Option rA
 |none,some (.val (.int _) b,_),some (.row e t l m)=>some ⟨[n=m,0<=b/\b<=(n:Int)],(.own base b.toNat,none),[(k,.dead),(base,.row e t (List.take b.toNat l) b.toNat)],[k]⟩
 |_,_,_=>none
@[go_sem] def ZY (base:Nat) (H:List (Nat×qQ)):Option TI->qP->Option qP->Option qP->Option rA
 |some ⟨.list _,_,_,_,_⟩,(.own k n,_),lo,hi=>mw base k n lo hi (qU H k)
 |ti,s,lo,hi=>B2 (kj ti s lo hi)
@[go_sem] def uQ (T:sJ) (Γ:tV) (ty:TypeId) (ρ:Operand->qP) (base:Nat) (H:List (Nat×qQ)):Op->Option rA
 | .move x| .assign x=>kw base (s4 T ty) (ρ x)
 | .alloc e=>VH base e (s4 T e)
 | .box e x=>lh base e (s4 T e) (ρ x)
 | .build t ps=>ll (uU ρ ps.toList) (s4 T t)
 | .buildSlice t n ps=>lm base n (uU ρ ps.toList) (s4 T t)
 | .load t a=>ZA H (s4 T t) (ρ a)
 | .store t a x=>ZG base H (s4 T t) (ρ a) (QT (s4 T t) (ρ x))
 | .nilCheck x=>mb (ρ x)
 | .binOp op t x y _=>B2 (kf (YM op (s4 T t) (ρ x) (ρ y)) (kf (YL op (ρ x) (ρ y)) (ke (s4 T t) op (ρ x) (ρ y))))
 | .unOp op _ x=>B2 (kg op (ρ x))
 | .convert src dst x=>B2 (kf (YO (s4 T src) (s4 T dst) (ρ x)) (kh T (s4 T src) (s4 T dst) (ρ x)))
 | .makeFunc (.func f) first caps=>a6G f (LR (w4 ρ caps.toList)) first.toList
 | .slice t x lo hi none=>ZY base H (s4 T t) (ρ x) (wS ρ lo) (wS ρ hi)
 | .fieldAddr t x f=>mc f (s4 T t) (ρ x)
 | .field t x f=>md f (s4 T t) (ρ x)
 | .indexAddr t x ix=>mg (s4 T t) (ρ x) (ρ ix)
 | .index t x ix=>mh (s4 T t) (ρ x) (ρ ix)
 | .extract x i=>mi i (ρ x)
 | .makeMap t r=>mq T base (s4 T t) r
 | .range t x=>mu base (s4 T t) (ρ x)
 | .next x b=>ZX H b (ρ x)
 | .lookup t x i ok=>ZU T H ok (s4 T t) (ρ x) (ρ i)
 | .mapUpdate t m k x=>R6 T H (s4 T t) (ρ m) (ρ k) (ZW T (s4 T t) (ρ x))
 | .insert t m k x=>R6 T H (s4 T t) (ρ m) (ρ k) (ZW T (s4 T t) (ρ x))
 | .call c=>M6 T Γ ρ base H c.args c.argTypes c.callee
 |_=>none
@[go_sem] def yA:qP->qP
 |(.cond _ d,_)=>(d,none)
 |s=>s
@[go_sem] def zF (G:Bool):List qP->List Prop
 |[]=>[]
 |(.cond p _,_)::r=>(G=true->p=true)::zF G r
 |_::r=>zF G r
@[go_sem] def Cy (b:Bool):qP->Option Bool
 |(.val .bool c,_)=>some (c==b)
 |(.cond p (.val .bool c),_)=>some (p&&(c==b))
 |_=>none
@[go_sem] def AF:List Oper->Nat->Option Tmp
 |[],_=>none
 |o::_,0=>o.dst
 |_::r,n+1=>AF r n
@[go_sem] def H9 (env:List (Nat×qP)) (b:Bool):Option Tmp->Option Bool
 |some t=>Cy b (lk env t)
 |none=>none
@[go_sem] def Cz (b:Bool):qP->Bool
 |(.val .bool c,_)=>c==b
 |(.cond p (.val .bool c),_)=>p&&(c==b)
 |(.cond p .any,_)=>p
 |_=>true
@[go_sem] def M7 (env:List (Nat×qP)) (b:Bool):Option Tmp->Bool
 |some t=>Cz b (lk env t)
 |none=>true
@[go_sem] def ZZ (j:Nat) (b:Bool):Nat:=1000000000+(2*j+if b=true then 1 else 0)
@[go_sem] theorem aKS (x y:Bool):cond x y false=(x&&y):=by cases x<;>rfl
@[go_sem] theorem aKT (x y:Bool):cond x true y=(x||y):=by cases x<;>rfl
@[go_sem] def Da (x:Bool):qP->qP->Option rA
 |(.val .bool y,_),(.val .bool z,_)=>some ⟨[],(.val .bool (cond x y z),none),[],[]⟩
 |(.cond p (.val .bool y),_),(.val .bool z,_)=>some ⟨[x=true->p=true],(.val .bool (cond x y z),none),[],[]⟩
 |(.val .bool y,_),(.cond p (.val .bool z),_)=>some ⟨[x=false->p=true],(.val .bool (cond x y z),none),[],[]⟩
 |(.cond q (.val .bool y),_),(.cond p (.val .bool z),_)=>some ⟨[x=true->q=true,x=false->p=true],(.val .bool (cond x y z),none),[],[]⟩
 |(.val .bool y,_),(.cond _ .any,_)=>some ⟨[x=true],(.val .bool y,none),[],[]⟩
 |(.cond q (.val .bool y),_),(.cond _ .any,_)=>some ⟨[x=true,q=true],(.val .bool y,none),[],[]⟩
 |(.cond _ .any,_),(.val .bool z,_)=>some ⟨[x=false],(.val .bool z,none),[],[]⟩
 |(.cond _ .any,_),(.cond p (.val .bool z),_)=>some ⟨[x=false,p=true],(.val .bool z,none),[],[]⟩
 |_,_=>none
@[go_sem] def VL:qP->qP->qP->Option rA
 |(.val .bool x,_),a,b=>Da x a b
 |_,_,_=>none
@[go_sem] def sQ:Op->List Operand
 | .move x| .assign x| .box _ x| .load _ x| .nilCheck x| .unOp _ _ x| .convert _ _ x| .fieldAddr _ x _| .field _ x _| .extract x _=>[x]
 | .build _ ps| .buildSlice _ _ ps=>parts ps.toList
 | .store _ a v| .binOp _ _ a v _| .indexAddr _ a v| .index _ a v=>[a,v]
 | .lookup _ a v _=>[a,v]
 | .range _ x| .next x _=>[x]
 | .mapUpdate _ m k x=>[m,k,x]
 | .insert _ m k x=>[m,k,x]
 | .makeFunc _ _ caps=>caps.toList
 | .slice _ x l h _=>x::rL (opt l) (opt h)
 | .call ⟨.value f,args,_⟩=>f::args.toList
 | .call ⟨_,args,_⟩=>args.toList
 |_=>[]
where
 parts:List (Nat×Operand)->List Operand
  |[]=>[]
  |(_,x)::r=>x::parts r
 opt:Option Operand->List Operand
  |some x=>[x]
  |none=>[]
attribute [go_sem] sQ.parts sQ.opt
@[go_sem] def R7 (l:List Prop):Option rA->Option rA
 |some e=>some ⟨rL l e.side,e.slot,e.upd,e.rds⟩
 |none=>none
@[go_sem] def VM (G:Bool):List Prop->List Prop
 |[]=>[]
 |p::r=>(G=true->p)::VM G r
@[go_sem] def JF (G:Bool) (l:List Prop):Option rA->Option rA
 |some ⟨side,(d,_),[],rds⟩=>some ⟨rL l (VM G side),(.cond G d,none),[],rds⟩
 |some ⟨side,s,u::us,rds⟩=>some ⟨(G=true)::rL l (VM G side),s,u::us,rds⟩
 |none=>none
@[go_sem] def CR (env:List (Nat×qP)):List Operand->List qP
 |[]=>[]
 |x::r=>tB env x::CR env r
@[go_sem] def R8 (T:sJ) (Γ:tV) (o:Oper) (s:St):Option Bool->Op->Option rA
 |some G,.pick c a b=>JF G (zF G [tB s.env c]) (VL (yA (tB s.env c)) (tB s.env a) (tB s.env b))
 |some G,op=>JF G (zF G (CR s.env (sQ op))) (uQ T Γ o.type (λx=>yA (tB s.env x)) s.nb s.H op)
 |none,_=>none
@[go_sem] def Db:Op->Bool
 | .defer _=>true
 |_=>false
@[go_sem] def Dc (up:Bool):Bool->Option rA
 |true=>none
 |false=>some ⟨[up=false],(.cond false .any,none),[],[]⟩
@[go_sem] def VN (T:sJ) (Γ:tV) (o:Oper) (s:St) (up:Bool) (g:Option Bool) (op:Op):Option r8->Option rA
 |some _=>Dc up (Db op)
 |none=>R8 T Γ o s g op
@[go_sem] def R9 (T:sJ) (Γ:tV) (o:Oper) (s:St):Op->Option rA
 | .pick c a b=>VL (tB s.env c) (tB s.env a) (tB s.env b)
 |op=>R7 (zF true (CR s.env (sQ op))) (uQ T Γ o.type (λx=>yA (tB s.env x)) s.nb s.H op)
@[go_sem] def JG (np:Nat):List (Nat×qQ)->Bool
 |[]=>true
 |(i,.cells _ _ _)::r=>if np<=i then JG np r else false
 |_::r=>JG np r
@[go_sem] def Dd (np:Nat) (e:rA):Bool->Option rA
 |true=>if JG np e.upd=true then some e else none
 |false=>some e
@[go_sem] def mz (np:Nat):Option rA->Option rA
 |some e=>Dd np e (J6 e.rds)
 |none=>none
@[go_sem] def RB (T:sJ) (Γ:tV) (ops:List Oper) (o:Oper) (s:St):Option rA:=
 match o.guard with
 |none=>R9 T Γ o s o.op
 |some (j,b)=>VN T Γ o s (M7 s.env b (AF ops j)) (H9 s.env b (AF ops j)) o.op (Γ (ZZ j b))
@[go_sem] def zU (T:sJ) (Γ:tV) (ops:List Oper) (o:Oper) (s:St):Option rA:=mz s.np (RB T Γ ops o s)
@[go_sem] def tH:Option Tmp->qP->List (Nat×qP)->List (Nat×qP)
 |some d,s,env=>(d,s)::env
 |none,_,env=>env
structure uR where
 s:St
 side:List Prop
 es:List rA
@[go_sem] def zV (N:Nat):Option Tmp->Bool
 |some d=>decide (d<N)
 |none=>true
@[go_sem] def JH (n:Nat):List (Nat×qQ)->Bool
 |[]=>true
 |(i,_)::r=>decide (i<n)&&JH n r
@[go_sem] def CS (i:Nat):pY->Bool
 |[]=>false
 |j::r=>if j=i then BP i r else CS i r
@[go_sem] def M8 (H U:List (Nat×qQ)) (rds:pY):List (Nat×qQ)->List Prop
 |[]=>[]
 |(i,_)::r=>if CS i rds=true then(qU U i=qU H i)::M8 H U rds r else M8 H U rds r
@[go_sem] def JI (rds:pY):List (Nat×qQ)->List (Nat×qQ)
 |[]=>[]
 |(i,b)::r=>if CS i rds=true then JI rds r else(i,b)::JI rds r
@[go_sem] def yB (e:rA):List (Nat×qQ):=JI e.rds e.upd
@[go_sem] def aa (o:Oper) (a:uR):Option rA->Option uR
 |some e=>if (zV a.s.N o.dst&&JH (a.s.nb+32) e.upd)=true then some ⟨⟨tH o.dst e.slot a.s.env,rL e.upd a.s.H,a.s.nb+32,a.s.N,a.s.np⟩,rL a.side (rL (M8 a.s.H e.upd e.rds e.upd) e.side),e::a.es⟩ else none
 |none=>none
@[go_sem] def tR (T:sJ) (Γ:tV) (ops:List Oper):List Oper->Option uR->Option uR
 |[],a=>a
 |o::r,some a=>tR T Γ ops r (aa o a (zU T Γ ops o a.s))
 |_::_,none=>none
@[go_sem] def VO:List (Nat×qQ)->pY->Bool
 |[],_=>false
 |(i,_)::r,l=>l.contains i||VO r l
@[go_sem] def HA (a b:rA):Bool:= !VO (yB a) (rL b.rds (qW b.upd))&& !VO (yB b) a.rds
def M9 (lo:Nat):List (Nat×qQ)->Bool
 |[]=>true
 |(i,_)::r=>(decide (i<lo)||decide (lo+32<=i))&&M9 lo r
def ab (i0 j0:Nat) (ops:Array Oper) (bs:pY) (nb i:Nat) (o:Oper) (e:rA):List Oper->List rA->Nat->Bool
 |p::ps,f::fs,j=>((bs.getD j 0).testBit i||(o.apart ops p&&(HA e f||(decide (i=i0)&&decide (j=j0)))&&M9 (nb+32*i) f.upd))&&ab i0 j0 ops bs nb i o e ps fs (j+1)
 |_,_,_=>true
def ac (i0 j0:Nat) (ops:Array Oper) (bs:pY) (nb:Nat):List Oper->List rA->Nat->Bool
 |o::os,e::es,i=>ab i0 j0 ops bs nb i o e os es (i+1)&&ac i0 j0 ops bs nb os es (i+1)
 |_,_,_=>true
def ae:List Oper->Nat->Bool
 |[],_=>true
 |o::r,i=>o.after.toList.all (λe=> !Region.binds .any e||decide (e.on<i))&&ae r (i+1)
def af (i0 j0:Nat) (ops:Array Oper) (nb:Nat) (es:List rA):Bool:=ae ops.toList 0&&ac i0 j0 ops (Region.before ops).toList nb ops.toList es 0
def JJ (ops:Array Oper) (nb:Nat) (es:List rA):Bool:=af ops.size 0 ops nb es
@[go_sem] def De (ops:Array Oper) (nb:Nat):Option uR->Option uR
 |some a=>if JJ ops nb a.es.reverse then some a else none
 |none=>none
@[go_sem] def VP (T:sJ) (Γ:tV) (ops:Array Oper) (s:St):Bool->Option uR
 |true=>De ops s.nb (tR T Γ ops.toList ops.toList (some ⟨s,[],[]⟩))
 |false=>tR T Γ ops.toList ops.toList (some ⟨s,[],[]⟩)
inductive Ex where
 |normal|exit (id:Nat) |ret
structure uA where
 slots:pY
 ids:pT:=[]
@[go_sem] def xL:pT->Nat->pX
 |[],_=>none
 |(n,o)::r,k=>if o=k then some n else xL r k
@[go_sem] def Df (m:pT):pW->pW
 |some (i,o)=>(xL m i).map λj=>(j,o)
 |none=>none
@[go_sem] def CT (m:pT):pT->Option pT
 |[]=>some []
 |(i,o)::r=>renCons (xL m i) o (CT m r)
where
 renCons:pX->Nat->Option pT->Option pT
  |some j,o,some r=>some ((j,o)::r)
  |_,_,_=>none
attribute [go_sem] CT.renCons
@[go_sem] def Dg (m:pT):pX->pX
 |some k=>xL m k
 |none=>none
@[go_sem] def a6L (n:Nat):pX->qP
 |some k=>(.own k n,none)
 |none=>(.any,none)
@[go_sem] def Dh (m:pT):Option (Nat×pT)->Option (Option (Nat×pT))
 |none=>some none
 |some (f,l)=>(CT m l).map λl'=>some (f,l')
@[go_sem] def ag (m:pT):pW->Option pW
 |none=>some none
 |some (i,o)=>(xL m i).map λj=>some (j,o)
@[go_sem] def Di (m:pT):pX->Option pX
 |none=>some none
 |some i=>(xL m i).map some
@[go_sem] def Dj (m:pT):pW->Option pW
 |none=>some none
 |some (k,n)=>(xL m k).map λj=>some (j,n)
@[go_sem] def zW (m:pT):(t:Ty)->t.den->Option t.den
 | .ref,x=>ag m x
 | .clo,x=>Dh m x
 | .mp,x=>Di m x
 | .pair a b,x=>LU (if a.pure=true then some x.1 else zW m a x.1) (if b.pure=true then some x.2 else zW m b x.2)
 | .list t,x=>if t.pure=true then some x else none
 | .bool,x=>some x
 | .int _,x=>some x
 | .str,x=>some x
 | .unit,x=>some x
 | .rl _ _,x=>Dj m x
 | .fn,x=>some x
 | .mref,x=>ag m x
 | .part,x=>some x
@[go_sem] def AG (m:pT):qP->qP
 |(.own k n,_)=>a6L n (xL m k)
 |(.val .ref none,_)=>(.val .ref none,none)
 |(.val .ref (some p),_)=>refSlot (Df m (some p))
 |(.val .clo (some (f,l)),_)=>cloSlot f (CT m l)
 |(.val .mp (some i),_)=>mpSlot (xL m i)
 |(.val t x,k)=>if t.pure then(.val t x,Dg m (FY t k)) else valSlot t (zW m t x)
 |(.at t x,_)=>if t.pure then(.at t x,none) else(.any,none)
 |(.nilS,_)=>(.nilS,none)
 |(.itr n,_)=>(.itr n,none)
 |_=>(.any,none)
where
 refSlot:pW->qP
  |some p=>(.val .ref (some p),none)
  |none=>(.any,none)
 cloSlot (f:Nat):Option pT->qP
  |some l=>(.val .clo (some (f,l)),none)
  |none=>(.any,none)
 valSlot (t:Ty):Option t.den->qP
  |some y=>(.val t y,none)
  |none=>(.any,none)
 mpSlot:pX->qP
  |some j=>(.val .mp (some j),none)
  |none=>(.any,none)
attribute [go_sem] AG.refSlot AG.cloSlot AG.mpSlot AG.valSlot
@[go_sem] def ah (q j:Nat):pT->pT
 |[]=>[(q,j)]
 |(a,b)::r=>if q<=a then(q,j)::(a,b)::r else(a,b)::ah q j r
@[go_sem] def MA (m:pT):pT->pT
 |[]=>[]
 |(q,k)::r=>renTok1 q (xL m k) (MA m r)
where
 renTok1 (q:Nat):pX->pT->pT
  |some j,r=>ah q j r
  |none,r=>r
attribute [go_sem] MA.renTok1
@[go_sem] def na (t:Ty) (toks:pT):Option t.den->qQ
 |some y=> .cells t y toks
 |none=> .dead
@[go_sem] def JK (m:pT):Option qQ->qQ
 |some (.cells t x toks)=>if t.pure then .cells t x (MA m toks) else na t (MA m toks) (zW m t x)
 |some (.grow e c n)=> .grow e c n
 |some (.row e t l n)=>if t.pure then .row e t l n else .dead
 |some (.map k v l)=>if k.pure&&v.pure then .map k v l else .dead
 |some (.iter s p)=> .iter s p
 |_=> .dead
@[go_sem] def VQ (m:pT) (env:List (Nat×qP)):pY->List (Nat×qP)
 |[]=>[]
 |t::r=>(t,AG m (lk env t))::VQ m env r
@[go_sem] def ai (m:pT) (H:List (Nat×qQ)):pT->List (Nat×qQ)
 |[]=>[]
 |(n,o)::r=>(n,JK m (qU H o))::ai m H r
@[go_sem] def aj:pT->Nat
 |[]=>0
 |(n,_)::r=>max (n+1) (aj r)
@[go_sem] def RD (n o:Nat):pT->Bool
 |[]=>false
 |(n',o')::r=>decide (n'=n)||decide (o'=o)||RD n o r
@[go_sem] def vN (np:Nat):pT->Bool
 |[]=>true
 |(n,o)::r=>(decide (np<=n)||decide (n=o))&& !RD n o r&&vN np r
@[go_sem] def RE (s:St) (k:uA):Bool->St
 |true=>⟨VQ k.ids s.env k.slots,ai k.ids s.H k.ids,max s.np (aj k.ids),s.N,s.np⟩
 |false=>⟨[],[],s.nb,s.N,s.np⟩
@[go_sem] def St.keep (s:St) (k:uA):St:=RE s k (vN s.np k.ids)
@[go_sem] def vB:List Prop->Prop
 |[]=>True
 |[p]=>p
 |p::q::r=>p/\vB (q::r)
@[go_sem] def Dk (Q:Ex->St->Prop):Option uR->Prop
 |some a=>vB a.side/\Q .normal a.s
 |none=>False
@[go_sem] def Dl (A B:Prop):qP->Prop
 |(.val .bool x,_)=>(x=true->A)/\(x=false->B)
 |(.flag p q,_)=>(p->A)/\(q->B)
 |_=>False
@[go_sem] def HB (f:St->Prop) (Q:Ex->St->Prop):Ex->St->Prop
 | .normal,s=>f s
 | .exit j,s=>Q (.exit j) s
 | .ret,s=>Q .ret s
@[go_sem] def DT (id:Nat) (Q:Ex->St->Prop):Ex->St->Prop
 | .normal,s=>Q .normal s
 | .exit j,s=>if j=id then Q .normal s else Q (.exit j) s
 | .ret,s=>Q .ret s
@[go_sem] def a6M (I:St->Prop) (μ:St->Nat) (m:Nat) (Q:Ex->St->Prop):Ex->St->Prop
 | .normal,s=> ∃k:uA,I (s.keep k)/\μ (s.keep k)<m
 | .exit j,s=>Q (.exit j) s
 | .ret,s=>Q .ret s
def wT (T:sJ) (Γ:tV):Code->St->(Ex->St->Prop)->Prop
 | .skip,s,Q=>Q .normal s
 | .label _,s,Q=>Q .normal s
 | .region _ ops draw,s,Q=>Dk Q (VP T Γ ops s draw)
 | .seq a b,s,Q=>wT T Γ a s (HB (λs'=>wT T Γ b s' Q) Q)
 | .cond c a b,s,Q=>Dl (wT T Γ a s Q) (wT T Γ b s Q) (tB s.env c)
 | .block id c,s,Q=>wT T Γ c s (DT id Q)
 | .loop c,s,Q=> ∃(k:uA) (I:St->Prop) (μ:St->Nat),I (s.keep k)/\∀s,I s->wT T Γ c s (a6M I μ (μ s) Q)
 | .exit id,s,Q=>Q (.exit id) s
 | .ret,s,Q=>Q .ret s
 |_,_,_=>False
attribute [go_sem] Ty.list.injEq Ty.pair.injEq Ty.int.injEq
section
variable {T:sJ}{Γ:tV}{s:St}{Q:Ex->St->Prop}
theorem a6N {id:Nat}{ops:Array Oper}{a:uR}(h:tR T Γ ops.toList ops.toList (some ⟨s,[],[]⟩)=some a) (hp:vB a.side) (j:Q .normal a.s):wT T Γ (.region id ops false) s Q:=by
 unfold wT VP;rw[h];exact⟨hp,j⟩
theorem a6O {id:Nat}{ops:Array Oper}{a:uR}(h:tR T Γ ops.toList ops.toList (some ⟨s,[],[]⟩)=some a) (hf:JJ ops s.nb a.es.reverse=true) (hp:vB a.side) (j:Q .normal a.s):wT T Γ (.region id ops true) s Q:=by
 unfold wT VP;rw[h];show Dk Q (if JJ ops s.nb a.es.reverse=true then some a else none);rw[aOd hf];exact⟨hp,j⟩
end
end Go.Proofs.YtedimeeleabhnaaGreatDoor.Vc
namespace Go.Proofs.YtedimeeleabhnaaGreatDoor.Vc
open Go.RowKit
abbrev sA:=List (Nat×qQ)
structure Pl where
 b:Nat
 o:Nat
 k:Option (TypeId×Nat):=none
structure Gh where
 S:Nat->Nat->Prop
 J:Nat->Option Pl
 cur:Nat->Nat->Option qA
def wH {α:Type}(R:α->pV->Prop) (w:pZ) (S:Nat->Nat->Prop) (c b:Nat):Nat->List α->Prop
 |_,[]=>True
 |o,x::xs=>(∃cs,cs.length=c/\w.rangeAt b o cs/\(∀j,j<c->S b (o+j))/\R x cs)/\wH R w S c b (o+c) xs
def yN (g:Gh):pT->pV->Prop
 |[],vs=>vs=[]
 |(i,o)::l,vs=> ∃p vs',g.J i=some p/\vs= .pointer (some ⟨p.1,p.2+o,none⟩)::vs'/\yN g l vs'
def VR (g:Gh):pW->pV->Prop
 |none,cs=>cs=[.pointer none]
 |some (i,o),cs=> ∃p,g.J i=some p/\cs=[.pointer (some ⟨p.1,p.2+o,none⟩)]
def VS (g:Gh):Option (Nat×pT)->pV->Prop
 |none,cs=>cs=[.nilFunc]
 |some (f,l),cs=> ∃vs,yN g l vs/\cs=[.func (.func f) #[] vs.toArray]
def MB (g:Gh):pX->pV->Prop
 |none,cs=>cs=[.map none]
 |some i,cs=> ∃p,g.J i=some p/\cs=[.map (some p.1)]
def nc (k:Option (TypeId×Nat)) (o:Nat):Prop:=o=0/\∃e,kz e=true/\k=some (e,2)
def G3 (g:Gh):pW->pV->Prop
 |none,cs=>cs=[.slice none 0 0]
 |some (k,n),cs=> ∃v,g.cur k n=some v/\cs=[v]/\((v= .slice none 0 0/\n=0)\/∃b cap,v= .slice (some ⟨b,0,none⟩) n cap/\n<=cap)
def VT (g:Gh):pW->pV->Prop
 |none,cs=>cs=[.pointer none]
 |some (i,o),cs=> ∃p,g.J i=some p/\nc p.3 (p.2+o)/\(cs=[.pointer none]\/cs=[.pointer (some ⟨p.1,p.2+o,none⟩)])
def Dm:pX->pV->Prop
 |none,cs=>cs=[.nilFunc]
 |some f,cs=>cs=[.func (.func f) #[] #[]]
def RF (R:qG->pV->Prop) (g:Gh) (w:pZ) (c:pJ×List qG×Unit) (us:pV):Prop:=
 ∃a p,us=[.string ⟨List.toArray c.1⟩,.slice a (List.length c.2.1) p]/\List.length c.2.1<=p/\(c.2.1=[]\/∃b o,a=some ⟨b,o,none⟩/\wH R w g.S 6 b o c.2.1)
def BT (g:Gh) (w:pZ):Nat->qG->pV->Prop
 |0,_,_=>False
 |n+1,.mk k t nm s cs ps,vs=> ∃a1 p1 a2 p2,vs=[.int .i64 k,.string ⟨List.toArray t⟩,.string ⟨List.toArray nm⟩,.string ⟨List.toArray s⟩,.slice a1 (List.length cs) p1,.slice a2 (List.length ps) p2]/\
   (List.length cs<=p1/\(cs=[]\/∃b o,a1=some ⟨b,o,none⟩/\wH (RF (BT g w n) g w) w g.S 2 b o cs))/\
   (List.length ps<=p2/\(ps=[]\/∃b o,a2=some ⟨b,o,none⟩/\wH (BT g w n) w g.S 6 b o ps))
def ak (g:Gh) (w:pZ) (x:qG) (vs:pV):Prop:= ∃n,BT g w n x vs
def Rd (g:Gh) (w:pZ):(t:Ty)->t.den->pV->Prop
 | .bool,x,cs=>cs=[.bool x]
 | .int k,n,cs=>cs=[.int k n]
 | .str,l,cs=>cs=[.string ⟨List.toArray l⟩]
 | .list t,l,cs=> ∃a cap,cs=[.slice a (List.length l) cap]/\List.length l<=cap/\(l=[]\/∃b o,a=some ⟨b,o,none⟩/\wH (Rd g w t) w g.S t.cells b o l)
 | .unit,_,cs=>cs=[]
 | .pair s t,x,cs=> ∃c1 c2,cs=c1++c2/\Rd g w s x.1 c1/\Rd g w t x.2 c2
 | .ref,x,cs=>VR g x cs
 | .clo,x,cs=>VS g x cs
 | .mp,x,cs=>MB g x cs
 | .rl _ _,x,cs=>G3 g x cs
 | .fn,x,cs=>Dm x cs
 | .mref,x,cs=>VT g x cs
 | .part,x,cs=>ak g w x cs
def sS (g:Gh) (w:pZ) (t:Ty) (x:t.den) (v:qA):Prop:=
 (t.isRow=true/\∃cs:pV,v= .agg cs.toArray/\Rd g w t x cs)\/(t.isRow=false/\Rd g w t x [v])
def yC (k:Nat):Ty->Nat->pV->Prop
 | .list _,o,cs=>o+1=k\/cs=[.slice none 0 0]
 | .pair a b,o,cs=> ∃c1 c2,cs=c1++c2/\c1.length=a.cells/\yC k a o c1/\yC k b (o+a.cells) c2
 |_,_,_=>True
def DU (g:Gh) (t:Ty) (x:t.den) (v:qA):pX->Prop
 |none=>True
 |some k=>match t,x with
  | .list _,l=>g.cur k (List.length l)=some v
  | .pair a b,_=>yC k (.pair a b) 0 v.cells.toList
  |_,_=>False
def RG (g:Gh) (w:pZ):List ((Σ t:Ty,t.den)×pX)->pV->Prop
 |[],vs=>vs=[]
 |(⟨t,x⟩,k)::l,vs=> ∃v vs',vs=v::vs'/\sS g w t x v/\DU g t x v k/\RG g w l vs'
def zG (g:Gh) (w:pZ):DV->qA->Prop
 | .any,_=>True
 | .nilS,v=>v= .slice none 0 0
 | .val t x,v=>sS g w t x v
 | .at t x,v=> ∃b o cs,v= .pointer (some ⟨b,o,none⟩)/\w.rangeAt b o cs/\(∀j,j<t.cells->g.S b (o+j))/\Rd g w t x cs
 | .tup l,v=> ∃vs:pV,v= .tuple vs.toArray/\RG g w l vs
 | .cond p d,v=>(p=true->zG g w d v)/\(p=false->v=undef)
 | .flag p q,v=> ∃b,v= .bool b/\(b=true->p)/\(b=false->q)
 | .own k n,v=>g.cur k n=some v/\((v= .slice none 0 0/\n=0)\/∃b cap,v= .slice (some ⟨b,0,none⟩) n cap/\n<=cap)
 | .nxt b p c,v=>(b=true->v= .tuple #[.bool true,.int .i64 p,.int .i32 c])/\(b=false->v= .tuple #[.bool false])
 | .itr n,v=>v= .pointer (some ⟨n,0,none⟩)
 | .arr i off t m ix,v=> ∃p,g.J i=some p/\0<=ix/\ix<(m:Int)/\v= .pointer (some ⟨p.1,p.2+off+ix.toNat*t.cells,none⟩)
 | .elt k n c i o,v=> ∃b cap,g.cur k n=some (.slice (some ⟨b,0,none⟩) n cap)/\0<=i/\i<(n:Int)/\v= .pointer (some ⟨b,i.toNat*c+o,none⟩)
def rZ (g:Gh) (w:pZ) (s:qP) (v:qA):Prop:=
 zG g w s.1 v/\match s with
  |(_,none)=>True
  |(.val t x,some k)=>DU g t x v (some k)
  |(_,some _)=>False
structure Le (g:Gh) (w:pZ) (g':Gh) (w':pZ):Prop where
 S: ∀b o,g.S b o->g'.S b o
 cell: ∀b o,g.S b o->w'.cell? ⟨b,o,none⟩=w.cell? ⟨b,o,none⟩
 J: ∀i p,g.J i=some p->g'.J i=some p
 cur: ∀k n v,g.cur k n=some v->g'.cur k n=some v
def Le.refl (g:Gh) (w:pZ):Le g w g w:=⟨λ_ _ h=>h,λ_ _ _=>rfl,λ_ _ h=>h,λ_ _ _ h=>h⟩
def Le.trans {g g' g'':Gh}{w w' w'':pZ}(h:Le g w g' w') (k:Le g' w' g'' w''):Le g w g'' w'':=
 ⟨λb o x=>k.S b o (h.S b o x),λb o x=>(k.cell b o (h.S b o x)).trans (h.cell b o x),λi p x=>k.J i p (h.J i p x),λi n v x=>k.cur i n v (h.cur i n v x)⟩
def nd {g g':Gh}(j: ∀i p,g.J i=some p->g'.J i=some p): ∀{l:pT}{vs:pV},yN g l vs->yN g' l vs
 |[],_,h=>h
 |(_,_)::_,_,⟨p,vs',E,D,z⟩=>⟨p,vs',j _ _ E,D,nd j z⟩
def a6P {g g':Gh}(j: ∀i p,g.J i=some p->g'.J i=some p): ∀{x:pW}{cs:pV},VR g x cs->VR g' x cs
 |none,_,h=>h
 |some (_,_),_,⟨p,D,z⟩=>⟨p,j _ _ D,z⟩
def a6Q {g g':Gh}(j: ∀i p,g.J i=some p->g'.J i=some p): ∀{x:Option (Nat×pT)}{cs:pV},VS g x cs->VS g' x cs
 |none,_,h=>h
 |some (_,_),_,⟨vs,D,z⟩=>⟨vs,nd j D,z⟩
def a6R {g g':Gh}(j: ∀i p,g.J i=some p->g'.J i=some p): ∀{x:pX}{cs:pV},MB g x cs->MB g' x cs
 |none,_,h=>h
 |some _,_,⟨p,D,z⟩=>⟨p,j _ _ D,z⟩
def a6S {g g':Gh}(j: ∀k n v,g.cur k n=some v->g'.cur k n=some v): ∀{x:pW}{cs:pV},G3 g x cs->G3 g' x cs
 |none,_,h=>h
 |some (_,_),_,⟨v,D,z⟩=>⟨v,j _ _ _ D,z⟩
def a6T {g g':Gh}(j: ∀i p,g.J i=some p->g'.J i=some p): ∀{x:pW}{cs:pV},VT g x cs->VT g' x cs
 |none,_,h=>h
 |some (_,_),_,⟨p,D,z⟩=>⟨p,j _ _ D,z⟩
def B8 {α:Type}{R R':α->pV->Prop}{w w':pZ}{S S':Nat->Nat->Prop}{c b:Nat}(F: ∀x cs,R x cs->R' x cs) (E: ∀o,S b o->S' b o)
  (D: ∀o,S b o->w'.cell? ⟨b,o,none⟩=w.cell? ⟨b,o,none⟩): ∀{l:List α}{o:Nat},wH R w S c b o l->wH R' w' S' c b o l
 |[],_,_=>trivial
 |_::_,o,⟨⟨cs,I,O,G,M⟩,K⟩=>⟨⟨cs,I,λj v hv=>by
   have z:j<c:=I▸(aOw.1 hv).1;rw[D _ (G j z)];exact O j v hv,λj z=>E _ (G j z),F _ _ M⟩,B8 F E D K⟩
def al {R R':qG->pV->Prop}{g g':Gh}{w w':pZ}(E: ∀x cs,R x cs->R' x cs) (D: ∀b o,g.S b o->g'.S b o)
  (z: ∀b o,g.S b o->w'.cell? ⟨b,o,none⟩=w.cell? ⟨b,o,none⟩) {c:pJ×List qG×Unit}{us:pV}(h:RF R g w c us):RF R' g' w' c us:=
 let ⟨a,p,e,hp,j⟩:=h
 ⟨a,p,e,hp,j.imp id λ⟨b,o,ea,hr⟩=>⟨b,o,ea,B8 E (λ_=>D _ _) (λ_=>z _ _) hr⟩⟩
def ne {g g':Gh}{w w':pZ}(z: ∀b o,g.S b o->g'.S b o) (j: ∀b o,g.S b o->w'.cell? ⟨b,o,none⟩=w.cell? ⟨b,o,none⟩):
  ∀(n:Nat) (x:qG) (vs:pV),BT g w n x vs->BT g' w' n x vs
 |0,_,_,h=>h.elim
 |n+1,.mk _ _ _ _ _ _,_,⟨a1,p1,a2,p2,e,⟨G,F⟩,E,D⟩=>⟨a1,p1,a2,p2,e,
   ⟨G,F.imp id λ⟨b,o,ea,hr⟩=>⟨b,o,ea,B8 (λ_ _=>al (ne z j n) z j) (λ_=>z _ _) (λ_=>j _ _) hr⟩⟩,
   E,D.imp id λ⟨b,o,ea,hr⟩=>⟨b,o,ea,B8 (ne z j n) (λ_=>z _ _) (λ_=>j _ _) hr⟩⟩
def Dn {g g':Gh}{w w':pZ}(z: ∀b o,g.S b o->g'.S b o) (j: ∀b o,g.S b o->w'.cell? ⟨b,o,none⟩=w.cell? ⟨b,o,none⟩) {x:qG}{vs:pV}(h:ak g w x vs):ak g' w' x vs:=
 let ⟨n,h⟩:=h
 ⟨n,ne z j n x vs h⟩
def Do {g:Gh}{w:pZ}{x:qG}{vs:pV}(h:ak g w x vs): ∃k t nm s a1 n1 p1 a2 n2 p2,vs=[.int .i64 k,.string t,.string nm,.string s,.slice a1 n1 p1,.slice a2 n2 p2]:=by
 obtain⟨n,h⟩:=h;cases n with
 |zero=>exact h.elim
 |succ n=>
  cases x with
  |mk k t nm s cs ps=>
   obtain⟨a1,p1,a2,p2,e,_⟩:=h;exact⟨_,_,_,_,_,_,_,_,_,_,e⟩
def xM {g g':Gh}{w w':pZ}(h:Le g w g' w'): ∀{t:Ty}{x:t.den}{cs:pV},Rd g w t x cs->Rd g' w' t x cs
 | .bool,_,_,r=>r
 | .int _,_,_,r=>r
 | .str,_,_,r=>r
 | .unit,_,_,r=>r
 | .ref,_,_,r=>a6P h.J r
 | .clo,_,_,r=>a6Q h.J r
 | .mp,_,_,r=>a6R h.J r
 | .rl _ _,_,_,r=>a6S h.cur r
 | .fn,_,_,r=>r
 | .mref,_,_,r=>a6T h.J r
 | .part,_,_,r=>Dn h.S h.cell r
 | .pair _ _,_,_,⟨c1,c2,e,r1,r2⟩=>⟨c1,c2,e,xM h r1,xM h r2⟩
 | .list _,_,_,⟨a,cap,e,j,z⟩=>⟨a,cap,e,j,z.imp id λ⟨b,o,ea,hr⟩=>⟨b,o,ea,B8 (λ_ _=>xM h) (λ_=>h.S _ _) (λ_=>h.cell _ _) hr⟩⟩
def sU {g:Gh}{w:pZ}: ∀{t:Ty}{x:t.den}{cs:pV},Rd g w t x cs->cs.length=t.cells
 | .bool,_,_,r=>by cases r;rfl
 | .int _,_,_,r=>by cases r;rfl
 | .str,_,_,r=>by cases r;rfl
 | .unit,_,_,r=>by cases r;rfl
 | .ref,none,_,r=>by cases r;rfl
 | .ref,some (_,_),_,⟨_,_,e⟩=>by cases e;rfl
 | .clo,none,_,r=>by cases r;rfl
 | .clo,some (_,_),_,⟨_,_,e⟩=>by cases e;rfl
 | .mp,none,_,r=>by cases r;rfl
 | .mp,some _,_,⟨_,_,e⟩=>by cases e;rfl
 | .fn,none,_,r=>by cases r;rfl
 | .fn,some _,_,r=>by cases r;rfl
 | .rl _ _,none,_,r=>by cases r;rfl
 | .rl _ _,some (_,_),_,⟨_,_,e,_⟩=>by cases e;rfl
 | .part,_,_,r=>by obtain⟨_,_,_,_,_,_,_,_,_,_,e⟩:=Do r;cases e;rfl
 | .mref,none,_,r=>by cases r;rfl
 | .mref,some (_,_),_,⟨_,_,_,e⟩=>by rcases e with e|e<;>(cases e;rfl)
 | .pair _ _,_,_,⟨c1,c2,e,r1,r2⟩=>by rw[e,aOg,sU r1,sU r2];rfl
 | .list _,_,_,⟨_,_,e,_,_⟩=>by cases e;rfl
def MC {g g':Gh}{w w':pZ}(h:Le g w g' w') {t:Ty}{x:t.den}{v:qA}(r:sS g w t x v):sS g' w' t x v:=
 r.imp (λ⟨a,cs,e,q⟩=>⟨a,cs,e,xM h q⟩) (λ⟨a,q⟩=>⟨a,xM h q⟩)
def Dp {g g':Gh}{w w':pZ}(h:Le g w g' w') {t:Ty}{x:t.den}{v:qA}{k:pX}(r:DU g t x v k):DU g' t x v k:=by
 cases k with
 |none=>trivial
 |some k=>
  cases t with
  |list u=>exact h.cur _ _ _ r
  |pair a b=>exact r
  |_=>exact r.elim
def Dq {g g':Gh}{w w':pZ}(h:Le g w g' w'): ∀{l:List ((Σ t:Ty,t.den)×pX)}{vs:pV},RG g w l vs->RG g' w' l vs
 |[],_,r=>r
 |(⟨_,_⟩,_)::_,_,⟨v,vs',e,r1,r2,r3⟩=>⟨v,vs',e,MC h r1,Dp h r2,Dq h r3⟩
def Dr {g g':Gh}{w w':pZ}(h:Le g w g' w'): ∀{d:DV}{v:qA},zG g w d v->zG g' w' d v
 | .any,_,r=>r
 | .nilS,_,r=>r
 | .val _ _,_,r=>MC h r
 | .at t _,_,⟨b,o,cs,e,D,z,F⟩=>⟨b,o,cs,e,λj v hv=>by
   by_cases E:j<t.cells
   .rw[h.cell _ _ (z j E)];exact D j v hv
   .exact absurd (aOw.1 hv).1 (by rw[sU F];exact E),λj E=>h.S _ _ (z j E),xM h F⟩
 | .tup _,_,⟨vs,e,r⟩=>⟨vs,e,Dq h r⟩
 | .cond _ _,_,⟨r1,r2⟩=>⟨λp=>Dr h (r1 p),r2⟩
 | .flag _ _,_,r=>r
 | .own _ _,_,⟨D,z⟩=>⟨h.cur _ _ _ D,z⟩
 | .nxt _ _ _,_,r=>r
 | .elt _ _ _ _ _,_,⟨b,cap,D,z⟩=>⟨b,cap,h.cur _ _ _ D,z⟩
 | .itr _,_,r=>r
 | .arr _ _ _ _ _,_,⟨p,D,z⟩=>⟨p,h.J _ _ D,z⟩
def DW {g g':Gh}{w w':pZ}(h:Le g w g' w') {s:qP}{v:qA}(r:rZ g w s v):rZ g' w' s v:=by
 obtain⟨d,k⟩:=s;refine⟨Dr h r.1,?_⟩;have r2:=r.2;cases k with
 |none=>trivial
 |some k=>
  cases d with
  |val t x=>exact Dp h r2
  |_=>exact r2.elim
def BU {g:Gh}{w:pZ}: ∀{t:Ty}{x:t.den}{cs:pV},Rd g w t x cs->∀v∈cs,v.oneCell'=true
 | .bool,_,_,r=>by cases r;intro v hv;simp at hv;subst hv;rfl
 | .int _,_,_,r=>by cases r;intro v hv;simp at hv;subst hv;rfl
 | .str,_,_,r=>by cases r;intro v hv;simp at hv;subst hv;rfl
 | .unit,_,_,r=>by cases r;intro v hv;simp at hv
 | .ref,none,_,r=>by cases r;intro v hv;simp at hv;subst hv;rfl
 | .ref,some (_,_),_,⟨_,_,e⟩=>by cases e;intro v hv;simp at hv;subst hv;rfl
 | .clo,none,_,r=>by cases r;intro v hv;simp at hv;subst hv;rfl
 | .clo,some (_,_),_,⟨_,_,e⟩=>by cases e;intro v hv;simp at hv;subst hv;rfl
 | .mp,none,_,r=>by cases r;intro v hv;simp at hv;subst hv;rfl
 | .mp,some _,_,⟨_,_,e⟩=>by cases e;intro v hv;simp at hv;subst hv;rfl
 | .fn,none,_,r=>by cases r;intro v hv;simp at hv;subst hv;rfl
 | .fn,some _,_,r=>by cases r;intro v hv;simp at hv;subst hv;rfl
 | .rl _ _,none,_,r=>by cases r;intro v hv;simp at hv;subst hv;rfl
 | .rl _ _,some (_,_),_,⟨_,_,e,j⟩=>by
  cases e;intro v hv;simp at hv;subst hv;rcases j with⟨rfl,_⟩ |⟨_,_,rfl,_⟩<;>rfl
 | .part,_,_,r=>by
  obtain⟨_,_,_,_,_,_,_,_,_,_,e⟩:=Do r;cases e;intro v hv;simp at hv;rcases hv with rfl|rfl|rfl|rfl|rfl|rfl<;>rfl
 | .mref,none,_,r=>by cases r;intro v hv;simp at hv;subst hv;rfl
 | .mref,some (_,_),_,⟨_,_,_,e⟩=>by rcases e with e|e<;>(cases e;intro v hv;simp at hv;subst hv;rfl)
 | .pair _ _,_,_,⟨c1,c2,e,r1,r2⟩=>by
  subst e;intro v hv;rcases aOR.1 hv with h|h
  .exact BU r1 v h
  .exact BU r2 v h
 | .list _,_,_,⟨_,_,e,_,_⟩=>by cases e;intro v hv;simp at hv;subst hv;rfl
def vJ {g g':Gh}{w:pZ}(j:g'.S=g.S): ∀{t:Ty}{x:t.den}{cs:pV},t.pure=true->Rd g w t x cs->Rd g' w t x cs
 | .bool,_,_,_,r=>r
 | .int _,_,_,_,r=>r
 | .str,_,_,_,r=>r
 | .unit,_,_,_,r=>r
 | .ref,_,_,h,_=>by simp [Ty.pure] at h
 | .clo,_,_,h,_=>by simp [Ty.pure] at h
 | .mp,_,_,h,_=>by simp [Ty.pure] at h
 | .rl _ _,_,_,h,_=>by simp [Ty.pure] at h
 | .fn,_,_,_,r=>r
 | .mref,_,_,h,_=>by simp [Ty.pure] at h
 | .part,_,_,_,r=>Dn (λb o q=>by rw[j];exact q) (λ_ _ _=>rfl) r
 | .pair _ _,_,_,h,⟨c1,c2,e,r1,r2⟩=>by
  simp only[Ty.pure,aOo] at h;exact⟨c1,c2,e,vJ j h.1 r1,vJ j h.2 r2⟩
 | .list _,_,_,h,⟨a,cap,e,z,D⟩=>by
  simp only[Ty.pure] at h;exact⟨a,cap,e,z,D.imp id λ⟨b,o,ea,hr⟩=>⟨b,o,ea,B8 (λ_ _ r=>vJ j h r) (λ_ q=>by rw[j];exact q) (λ_ _=>rfl) hr⟩⟩
def MD {g:Gh}{w:pZ}: ∀(n m:Nat),n<=m->∀(x:qG) (vs:pV),BT g w n x vs->BT g w m x vs
 |0,_,_,_,_,h=>h.elim
 |n+1,0,hm,_,_,_=>absurd hm pN
 |n+1,m+1,hm,.mk _ _ _ _ _ _,_,⟨a1,p1,a2,p2,e,⟨E,D⟩,z,j⟩=>⟨a1,p1,a2,p2,e,
   ⟨E,D.imp id λ⟨b,o,ea,hr⟩=>⟨b,o,ea,B8 (λ_ _=>al (MD n m pN) (λ_ _=>id) (λ_ _ _=>rfl)) (λ_=>id) (λ_ _=>rfl) hr⟩⟩,
   z,j.imp id λ⟨b,o,ea,hr⟩=>⟨b,o,ea,B8 (MD n m pN) (λ_=>id) (λ_ _=>rfl) hr⟩⟩
def ao {α:Type}{Q:Nat->α->pV->Prop}(j: ∀n m,n<=m->∀x vs,Q n x vs->Q m x vs) {w:pZ}{S:Nat->Nat->Prop}{c b:Nat}: ∀{l:List α}{o:Nat},wH (λx vs=> ∃n,Q n x vs) w S c b o l->∃n,wH (Q n) w S c b o l
 |[],_,_=>⟨0,trivial⟩
 |_::_,_,⟨⟨cs,I,G,F,n,E⟩,D⟩=>
  let ⟨m,z⟩:=ao j D
  ⟨max n m,⟨cs,I,G,F,j _ _ (Nat.le_max_left _ _) _ _ E⟩,B8 (j _ _ (Nat.le_max_right _ _)) (λ_=>id) (λ_ _=>rfl) z⟩
def a6U {g:Gh}{w:pZ}{x:qG}{vs:pV}(h:Rd g w .part x vs):Rd g w sN x.un vs:=by
 obtain⟨n,h⟩:=h;cases n with
 |zero=>exact h.elim
 |succ n=>
  cases x with
  |mk k t nm s cs ps=>
   obtain⟨a1,p1,a2,p2,e,⟨G,F⟩,E,D⟩:=h;have j: ∀y us,BT g w n y us->Rd g w .part y us:=λy us q=>⟨n,q⟩;refine⟨[.int .i64 k],_,e,rfl,[.string ⟨List.toArray t⟩],_,rfl,rfl,[.string ⟨List.toArray nm⟩],_,rfl,rfl,[.string ⟨List.toArray s⟩],_,rfl,rfl,[.slice a1 (List.length cs) p1],_,rfl,⟨a1,p1,rfl,G,F.imp id λ⟨b,o,ea,hr⟩=>⟨b,o,ea,B8 (λc us q=>?_) (λ_=>id) (λ_ _=>rfl) hr⟩⟩,
    [.slice a2 (List.length ps) p2],[],rfl,⟨a2,p2,rfl,E,D.imp id λ⟨b,o,ea,hr⟩=>⟨b,o,ea,B8 j (λ_=>id) (λ_ _=>rfl) hr⟩⟩,rfl⟩
   obtain⟨a,p,e2,hp,z⟩:=q;exact⟨[.string ⟨List.toArray c.1⟩],_,e2,rfl,[.slice a (List.length c.2.1) p],[],rfl,⟨a,p,rfl,hp,z.imp id λ⟨b,o,ea,hr⟩=>⟨b,o,ea,B8 j (λ_=>id) (λ_ _=>rfl) hr⟩⟩,rfl⟩
def a6V {g:Gh}{w:pZ}{x:qG}{vs:pV}(h:Rd g w sN x.un vs):Rd g w .part x vs:=by
 cases x with
 |mk k t nm s cs ps=>
  obtain⟨c1,r1,e1,rfl,c2,r2,rfl,rfl,c3,r3,rfl,rfl,c4,r4,rfl,rfl,c5,r5,rfl,⟨a1,p1,rfl,K,F⟩,c6,r6,rfl,⟨a2,p2,rfl,I,E⟩,rfl⟩:=h;have G: ∃n,cs=[]\/∃b o,a1=some ⟨b,o,none⟩/\wH (RF (BT g w n) g w) w g.S 2 b o cs:=by
   rcases F with F|⟨b,o,ea,hr⟩
   .exact⟨0,.inl F⟩
   obtain⟨n,z⟩:=ao (Q:=λn=>RF (BT g w n) g w) (λn m j c us q=>al (MD n m j) (λ_ _=>id) (λ_ _ _=>rfl) q) (B8 (R':=λc us=> ∃n,RF (BT g w n) g w c us) (λc us q=>by
    obtain⟨d1,d2,e2,rfl,d3,d4,rfl,⟨a,p,rfl,hp,D⟩,rfl⟩:=q;rcases D with D|⟨b,o,ea,hr⟩
    .exact⟨0,a,p,e2,hp,.inl D⟩
    obtain⟨n,z⟩:=ao (Q:=λn=>BT g w n) (λn m j=>MD n m j) hr;exact⟨n,a,p,e2,hp,.inr ⟨b,o,ea,z⟩⟩) (λ_=>id) (λ_ _=>rfl) hr)
   exact⟨n,.inr ⟨b,o,ea,z⟩⟩
  have hP: ∃n,ps=[]\/∃b o,a2=some ⟨b,o,none⟩/\wH (BT g w n) w g.S 6 b o ps:=by
   rcases E with E|⟨b,o,ea,hr⟩
   .exact⟨0,.inl E⟩
   obtain⟨n,z⟩:=ao (Q:=λn=>BT g w n) (λn m j=>MD n m j) hr;exact⟨n,.inr ⟨b,o,ea,z⟩⟩
  obtain⟨n,z⟩:=G;obtain⟨m,hm⟩:=hP;exact⟨max n m+1,a1,p1,a2,p2,e1,
   ⟨K,z.imp id λ⟨b,o,ea,hr⟩=>⟨b,o,ea,B8 (λ_ _=>al (MD _ _ (Nat.le_max_left _ _)) (λ_ _=>id) (λ_ _ _=>rfl)) (λ_=>id) (λ_ _=>rfl) hr⟩⟩,
   I,hm.imp id λ⟨b,o,ea,hr⟩=>⟨b,o,ea,B8 (MD _ _ (Nat.le_max_right _ _)) (λ_=>id) (λ_ _=>rfl) hr⟩⟩
def xN (g:Gh) (w:pZ) (k v:Ty):List (k.den×v.den)->List MapEntry->Prop
 |[],es=>es=[]
 |(a,b)::l,es=> ∃e es',es=e::es'/\sS g w k a e.key/\sS g w v b e.val/\xN g w k v l es'
def VU {g g':Gh}{w w':pZ}(h:Le g w g' w') {k v:Ty}: ∀{l:List (k.den×v.den)}{es:List MapEntry},xN g w k v l es->xN g' w' k v l es
 |[],_,r=>r
 |_::_,_,⟨e,es',E,D,z,j⟩=>⟨e,es',E,MC h D,MC h z,VU h j⟩
def Ds {g g':Gh}{w:pZ}(j:g'.S=g.S) {t:Ty}{x:t.den}{v:qA}(hp:t.pure=true) (r:sS g w t x v):sS g' w t x v:=
 r.imp (λ⟨a,cs,e,q⟩=>⟨a,cs,e,vJ j hp q⟩) (λ⟨a,q⟩=>⟨a,vJ j hp q⟩)
def ME {g g':Gh}{w:pZ}(j:g'.S=g.S) {k v:Ty}(hk:k.pure=true) (hv:v.pure=true): ∀{l:List (k.den×v.den)}{es:List MapEntry},xN g w k v l es->xN g' w k v l es
 |[],_,r=>r
 |_::_,_,⟨e,es',F,E,D,z⟩=>⟨e,es',F,Ds j hk E,Ds j hv D,ME j hk hv z⟩
def uV {α:Type}(R:α->pV->Prop) (c:Nat):List α->pV->Prop
 |[],cs=>cs=[]
 |x::xs,cs=> ∃c1 c2,cs=c1++c2/\c1.length=c/\R x c1/\uV R c xs c2
def MF {α:Type}{R:α->pV->Prop}{c:Nat}: ∀{l:List α}{cs:pV},uV R c l cs->cs.length=l.length*c
 |[],_,h=>by rw[h];simp
 |_::l,_,⟨c1,c2,e,z,_,j⟩=>by rw[e,aOg,z,MF j,aOe,aPd];omega
def nf {α:Type}{R:α->pV->Prop}{c:Nat}: ∀{l m:List α}{cs ds:pV},uV R c l cs->uV R c m ds->uV R c (l++m) (cs++ds)
 |[],_,_,_,h,k=>by rw[h];exact k
 |_::_,_,_,_,⟨c1,c2,e,D,z,j⟩,k=>⟨c1,c2++_,by rw[e,aOk],D,z,nf j k⟩
def CU {α:Type}{R R':α->pV->Prop}{c:Nat}(j: ∀x cs,R x cs->R' x cs): ∀{l:List α}{cs:pV},uV R c l cs->uV R' c l cs
 |[],_,h=>h
 |_::_,_,⟨c1,c2,e,E,D,z⟩=>⟨c1,c2,e,E,j _ _ D,CU j z⟩
def DX {g:Gh}{w:pZ}{u:Ty}: ∀{t:Ty}{x:t.den}{cs:pV}{o:Nat}{y:u.den},Rd g w t x cs->rT u t x o=some y->
  ∃c1 c2 c3,cs=c1++c2++c3/\c1.length=o/\Rd g w u y c2:=by
 intro t
 induction t with
 |pair a b iha ihb=>
  intro x cs o y r h;obtain⟨c1,c2,e,r1,r2⟩:=r;have key: ∀o,(if o<a.cells then rT u a x.1 o else rT u b x.2 (o-a.cells))=some y->∃d1 d2 d3,cs=d1++d2++d3/\d1.length=o/\Rd g w u y d2:=by
   intro o h;by_cases D:o<a.cells
   .rw[aOd D] at h;obtain⟨d1,d2,d3,e',z,hr⟩:=iha r1 h;exact⟨d1,d2,d3++c2,by rw[e,e'];simp,z,hr⟩
   rw[aOi D] at h;obtain⟨d1,d2,d3,e',z,hr⟩:=ihb r2 h;refine⟨c1++d1,d2,d3,by rw[e,e'];simp,?_,hr⟩;rw[aOg,z,sU r1];omega
  cases o with
  |zero=>
   unfold rT at h;by_cases j:Ty.pair a b=u
   .rw[aP4 j] at h;subst j;simp only[uJ,aOf] at h;subst h;exact⟨[],cs,[],by simp,rfl,⟨c1,c2,e,r1,r2⟩⟩
   .rw[aPN j] at h;refine key 0 ?_;simpa using h
  |succ o=>exact key (o+1) (by simpa[rT] using h)
 |_=>
  intro x cs o y r h;cases o with
  |zero=>
   unfold rT at h;split at h
   .rename_i j;subst j;simp only[uJ,aOf] at h
    try subst h
    exact⟨[],cs,[],by simp,rfl,r⟩
   .simp at h
  |succ o=>simp [rT] at h
def ap {g:Gh}{w:pZ}{u:Ty}{y:u.den}{cy:pV}(G:Rd g w u y cy): ∀{t:Ty}{x z:t.den}{cs:pV}{o:Nat},Rd g w t x cs->sW u y t x o=some z->
  ∃c1 c2 c3,cs=c1++c2++c3/\c1.length=o/\c2.length=u.cells/\Rd g w t z (c1++cy++c3):=by
 intro t
 induction t with
 |pair a b iha ihb=>
  intro x z cs o r h;obtain⟨c1,c2,e,r1,r2⟩:=r;have key: ∀o,(if o<a.cells then(sW u y a x.1 o).map (λq=>(q,x.2)) else(sW u y b x.2 (o-a.cells)).map (λq=>(x.1,q)))=some z->
    ∃d1 d2 d3,cs=d1++d2++d3/\d1.length=o/\d2.length=u.cells/\Rd g w (.pair a b) z (d1++cy++d3):=by
   intro o h;by_cases I:o<a.cells
   .rw[aOd I] at h;obtain⟨q,E,rfl⟩:=aOq.1 h;obtain⟨d1,d2,d3,e',F,j,hr⟩:=iha r1 E;exact⟨d1,d2,d3++c2,by rw[e,e'];simp,F,j,⟨d1++cy++d3,c2,by simp,hr,r2⟩⟩
   rw[aOi I] at h;obtain⟨q,E,rfl⟩:=aOq.1 h;obtain⟨d1,d2,d3,e',F,j,hr⟩:=ihb r2 E;refine⟨c1++d1,d2,d3,by rw[e,e'];simp,?_,j,⟨c1,d1++cy++d3,by simp,r1,hr⟩⟩;rw[aOg,F,sU r1];omega
  cases o with
  |zero=>
   unfold sW at h;by_cases D:u=Ty.pair a b
   .rw[aP4 D] at h;subst D;simp only[uJ,aOf] at h;subst h;exact⟨[],cs,[],by simp,rfl,sU (t:= .pair a b) (x:=x) ⟨c1,c2,e,r1,r2⟩,by simpa using G⟩
   .rw[aPN D] at h;refine key 0 ?_;simpa using h
  |succ o=>exact key (o+1) (by simpa[sW] using h)
 |_=>
  intro x z cs o r h;cases o with
  |zero=>
   unfold sW at h;split at h
   .rename_i D;subst D;simp only[uJ,aOf] at h
    try subst h
    exact⟨[],cs,[],by simp,rfl,sU r,by simpa using G⟩
   .simp at h
  |succ o=>simp [sW] at h
def a6W {e:Nat}{u:Ty}{kn:pW}: ∀{t:Ty}{x:t.den}{o:Nat}{q: Σ t:Ty,t.den},yM e u kn t x o=some q->q.1.cells=t.cells:=by
 intro t
 induction t with
 |pair a b iha ihb=>
  intro x o q h;unfold yM at h;split at h
  .cases j:yM e u kn a x.1 o with
   |none=>rw[j] at h;cases h
   |some r=>
    obtain⟨a',x'⟩:=r;rw[j] at h;simp only[lx,aOf] at h;subst h;have:=iha j;simp only[Ty.cells] at this|-;omega
  .cases j:yM e u kn b x.2 (o-a.cells) with
   |none=>rw[j] at h;cases h
   |some r=>
    obtain⟨b',y'⟩:=r;rw[j] at h;simp only[ly,aOf] at h;subst h;have:=ihb j;simp only[Ty.cells] at this|-;omega
 |list v=>
  intro x o q h;cases o with
  |zero=>
   simp only[yM] at h;split at h
   .simp only[aOf] at h;subst h;rfl
   .cases h
  |succ o=>simp [yM] at h
 |_=>intro x o q h;cases o<;>simp [yM] at h
def a6X {g:Gh}{w:pZ}{e:Nat}{u:Ty}{kn:pW}{cy:pV}(F:G3 g kn cy): ∀{t:Ty}{x:t.den}{cs:pV}{o:Nat}{q: Σ t:Ty,t.den},Rd g w t x cs->yM e u kn t x o=some q->
  ∃c1 c2 c3,cs=c1++c2++c3/\c1.length=o/\c2.length=1/\Rd g w q.1 q.2 (c1++cy++c3):=by
 intro t
 induction t with
 |pair a b iha ihb=>
  intro x cs o q r h;obtain⟨c1,c2,e1,r1,r2⟩:=r;unfold yM at h;split at h
  .cases j:yM e u kn a x.1 o with
   |none=>rw[j] at h;cases h
   |some z=>
    obtain⟨a',x'⟩:=z;rw[j] at h;simp only[lx,aOf] at h;subst h;obtain⟨d1,d2,d3,e',E,D,hr⟩:=iha r1 j;exact⟨d1,d2,d3++c2,by rw[e1,e'];simp,E,D,⟨d1++cy++d3,c2,by simp,hr,r2⟩⟩
  .cases j:yM e u kn b x.2 (o-a.cells) with
   |none=>rw[j] at h;cases h
   |some z=>
    obtain⟨b',y'⟩:=z;rw[j] at h;simp only[ly,aOf] at h;subst h;obtain⟨d1,d2,d3,e',E,D,hr⟩:=ihb r2 j;refine⟨c1++d1,d2,d3,by rw[e1,e'];simp,?_,D,⟨c1,d1++cy++d3,by simp,r1,hr⟩⟩;rw[aOg,E,sU r1];omega
 |list v=>
  intro x cs o q r h;cases o with
  |zero=>
   simp only[yM] at h;split at h
   .simp only[aOf] at h;subst h;exact⟨[],cs,[],by simp,rfl,sU r,by rw[List.nil_append,List.append_nil];exact F⟩
   .cases h
  |succ o=>simp [yM] at h
 |_=>intro x cs o q r h;cases o<;>simp [yM] at h
def HC (g:Gh) (t:Ty) (x:t.den) (cs:pV) (toks:pT):Prop:=
 ∀o k,(o,k)∈toks->∃(u:Ty) (l:List u.den) (v:qA),rT (.list u) t x o=some l/\cs[o]? =some v/\g.cur k l.length=some v
def a6Y (w:pZ) (p:Pl) (n:Nat):Prop:=w.there p.1 p.2 n/\(0<n->∀s,p.3=some s->w.shape? p.1=some s)
def F6 {w:pZ}{b:Nat}{s:TypeId×Nat}(h:w.shape? b=some s):b<w.heap.size:=by
 unfold World.shape? at h;cases hb:w.heap[b]? with
 |none=>rw[hb] at h;cases h
 |some x=>exact(aOB.1 hb).1
def F7 {w w':pZ}{b:Nat}(h:w'.heap[b]? =w.heap[b]?):w'.shape? b=w.shape? b:=by
 unfold World.shape?;rw[h]
def JL (es:Array MapEntry) (clock:Nat):Prop:=(∀x∈es.toList,x.born<clock)/\(es.toList.map (·.born)).Nodup
def a6Z {es:Array MapEntry}{clock:Nat}(h:JL es clock) (key val:qA):JL (es.push ⟨key,val,clock⟩) (clock+1):=by
 obtain⟨z,D⟩:=h;refine⟨λx j=>?_,?_⟩
 .rw[Array.toList_push,aOR] at j;rcases j with j|j
  .have:=z x j;omega
  simp at j;subst j;exact Nat.lt_succ_self _
 rw[Array.toList_push,List.map_append,List.nodup_append];refine⟨D,by simp,λa ha b hb=>?_⟩;obtain⟨x,j,rfl⟩:=List.mem_map.1 ha;simp at hb;have:=z x j;omega
def Dt (f:MapEntry->MapEntry) (hf: ∀e,(f e).born=e.born): ∀(l:List MapEntry) (i:Nat),(l.modify i f).map (·.born)=l.map (·.born)
 |[],i=>by simp
 |x::l,0=>by simp [hf]
 |x::l,i+1=>by simp [Dt f hf l i]
def a60 {es:Array MapEntry}{clock:Nat}(h:JL es clock) (i:Nat) (f:MapEntry->MapEntry) (hf: ∀e,(f e).born=e.born):JL (es.modify i f) clock:=by
 obtain⟨F,E⟩:=h;have e:(es.modify i f).toList.map (·.born)=es.toList.map (·.born):=by rw[Array.toList_modify];exact Dt f hf _ _
 refine⟨λx D=>?_,by rw[e];exact E⟩;have hm:x.born∈es.toList.map (·.born):=by rw[<-e];exact List.mem_map.2 ⟨x,D,rfl⟩
 obtain⟨y,z,j⟩:=List.mem_map.1 hm;rw[<-j];exact F y z
def AH (g:Gh) (w:pZ) (i:Nat):qQ->Prop
 | .cells t x toks=> ∃p cs,g.J i=some p/\Rd g w t x cs/\w.rangeAt p.1 p.2 cs/\a6Y w p t.cells/\(∀j,j<t.cells->¬g.S p.1 (p.2+j))/\HC g t x cs toks
 | .grow e c n=> ∃v xs,g.cur i n=some v/\w.ownsRow 0 e c v n xs/\(∀m,n<m->g.cur i m=none)/\∀b,v.ownBlock=some b->∀o,g.S b o->o<n*c
 | .row e t l n=>l.length=n/\∃v xs,g.cur i n=some v/\w.ownsRow 0 e t.cells v n xs/\uV (Rd g w t) t.cells l xs/\(∀m,n<m->g.cur i m=none)/\∀b,v.ownBlock=some b->∀o,¬g.S b o
 | .map k v l=> ∃p es clock,g.J i=some p/\(p.2=0/\JL es clock)/\w.heap[p.1]? =some (.map es clock)/\xN g w k v l es.toList/\∀o,¬g.S p.1 o
 | .iter s n=> ∃p,g.J i=some p/\p.2=0/\w.heap[p.1]? =some (.stringIter ⟨s.toArray⟩ n)/\∀o,¬g.S p.1 o
 | .dead=>True
def sD (g:Gh) (i:Nat):qQ->Nat->Nat->Prop
 | .cells t _ _,b,o=> ∃p,g.J i=some p/\b=p.1/\p.2<=o/\o<p.2+t.cells
 | .grow _ _ n,b,_=> ∃v,g.cur i n=some v/\v.ownBlock=some b
 | .row _ _ _ n,b,_=> ∃v,g.cur i n=some v/\v.ownBlock=some b
 | .map _ _ _,b,_=> ∃p,g.J i=some p/\b=p.1
 | .iter _ _,b,_=> ∃p,g.J i=some p/\b=p.1
 | .dead,_,_=>False
structure sM (g:Gh) (w:pZ) (H:sA):Prop where
 blk: ∀i b,qU H i=some b->AH g w i b
 dis: ∀i j bi bj b o,i≠j->qU H i=some bi->qU H j=some bj->sD g i bi b o->sD g j bj b o->False
 sl: ∀b o,g.S b o->b<w.heap.size
 tab:J5 w/\∀i blk b o,qU H i=some blk->sD g i blk b o->NG<=b
def sX (g:Gh) (H:sA) (ids:pY) (b o:Nat):Prop:= ∃i blk,i∈ids/\qU H i=some blk/\sD g i blk b o
structure Fr (A:Nat->Nat->Prop) (w w':pZ) (S S':Nat->Nat->Prop):Prop where
 os:w'.os=w.os
 tape:w'.tape=w.tape
 output:w'.output=w.output
 size:w.heap.size<=w'.heap.size
 blk: ∀b,b<w.heap.size->(∀o,¬A b o)->w'.heap[b]? =w.heap[b]?
 cell: ∀b o,b<w.heap.size->¬A b o->w'.cell? ⟨b,o,none⟩=w.cell? ⟨b,o,none⟩/\w'.frozen? ⟨b,o,none⟩=w.frozen? ⟨b,o,none⟩
 new: ∀b o,S' b o->S b o\/w.heap.size<=b\/A b o
 shape: ∀b s,w.shape? b=some s->w'.shape? b=some s\/∀o,A b o
def Fr.refl (A:Nat->Nat->Prop) (w:pZ) (S:Nat->Nat->Prop):Fr A w w S S:=
 ⟨rfl,rfl,rfl,aOA _,λ_ _ _=>rfl,λ_ _ _ _=>⟨rfl,rfl⟩,λ_ _ h=> .inl h,λ_ _ h=> .inl h⟩
def Fr.trans {A B:Nat->Nat->Prop}{w w' w'':pZ}{S S' S'':Nat->Nat->Prop}(h:Fr A w w' S S') (k:Fr B w' w'' S' S'') (F: ∀b o,B b o->w.heap.size<=b\/A b o):Fr A w w'' S S'':=by
 refine⟨k.os.trans h.os,k.tape.trans h.tape,k.output.trans h.output,aOU h.size k.size,λb hb D=>?_,λb o hb D=>?_,λb o E=>?_,λb s E=>?_⟩
 .refine(k.blk b (aOS hb h.size) λo G=>?_).trans (h.blk b hb D);rcases F b o G with j|j
  .omega
  exact D o j
 .have j:=h.cell b o hb D;have z:=k.cell b o (aOS hb h.size) (λG=>by
   rcases F b o G with j|j
   .omega
   exact D j)
  exact⟨z.1.trans j.1,z.2.trans j.2⟩
 .rcases k.new b o E with j|j|j
  .exact h.new b o j
  .exact .inr (.inl (aOU h.size j))
  exact .inr (F b o j)
 rcases h.shape b s E with j|j
 .rcases k.shape b s j with z|z
  .exact .inl z
  refine .inr λo=>(F b o (z o)).resolve_left ?_;have:=F6 E;omega
 exact .inr j
structure sE (g:Gh) (w:pZ) (H:sA) (e:rA) (g':Gh) (w':pZ) (v:qA):Prop where
 le:Le g w g' w'
 slot:rZ g' w' e.slot v
 heap:sM g' w' (rL e.upd H)
 fr:Fr (sX g H (qW e.upd)) w w' g.S g'.S
 perm: ∀i blk b o,i∈qW e.upd->qU (rL e.upd H) i=some blk->sD g' i blk b o->w.heap.size<=b\/sX g H (qW e.upd) b o
 gho: ∀i,i∉qW e.upd->g'.J i=g.J i/\g'.cur i=g.cur i
 ty: ∀i u y us,qU (rL e.upd H) i=some (.cells u y us)->(∃x ts,qU H i=some (.cells u x ts))\/(g.J i=none/\∀n,g.cur i n=none)
structure zX (g:Gh) (w:pZ) (H:sA) (e:rA) (g':Gh) (w':pZ) (v:qA):Prop where
 le:Le g w g' w'
 slot:rZ g' w' e.slot v
 heap:sM g' w' (rL e.upd H)
 fr:Fr (sX g H (qW e.upd)) w w' g.S g'.S
 perm: ∀i blk b o,i∈qW e.upd->qU (rL e.upd H) i=some blk->sD g' i blk b o->w.heap.size<=b\/sX g H (qW e.upd) b o
 gho: ∀i,i∉qW e.upd->g'.J i=g.J i/\g'.cur i=g.cur i
 ty:J6 e.rds=false->∀i u y us,qU (rL e.upd H) i=some (.cells u y us)->(∃x ts,qU H i=some (.cells u x ts))\/(g.J i=none/\∀n,g.cur i n=none)
def sE.w {g:Gh}{w:pZ}{H:sA}{e:rA}{g':Gh}{w':pZ}{v:qA}(h:sE g w H e g' w' v):zX g w H e g' w' v:=⟨h.le,h.slot,h.heap,h.fr,h.perm,h.gho,λ_=>h.ty⟩
def VV {w:pZ}{B:Nat}{e:TypeId}{c n:Nat}{v:qA}{xs:pV}(h:w.ownsRow B e c v n xs) {b:Nat}(hb:v.ownBlock=some b):b<w.heap.size:=(h.lt b hb).2
def nh {w:pZ}{b o:Nat}{v:qA}(h:w.cell? ⟨b,o,none⟩=some v):b<w.heap.size:=by
 have:=World.block_lt_of_cell? w ⟨b,o,none⟩ h;exact this
def VW {g:Gh}{w:pZ}{i:Nat}{blk:qQ}(h:AH g w i blk) {b o:Nat}(D:sD g i blk b o):b<w.heap.size:=by
 cases blk with
 |cells t x toks=>
  obtain⟨p,cs,hp,_,_,F,_⟩:=h;obtain⟨q,z,rfl,I,G⟩:=D;rw[hp] at z;obtain rfl:=aOj z;have:=(F.1 (o-p.2) pN).1;obtain⟨v,hv⟩:=aPc.1 this;exact nh hv
 |grow e c n=>
  obtain⟨v,xs,hv,hr,_⟩:=h;obtain⟨v',j,hb⟩:=D;rw[hv] at j;obtain rfl:=aOj j;exact VV hr hb
 |row e t l n=>
  obtain⟨_,v,xs,hv,hr,_⟩:=h;obtain⟨v',j,hb⟩:=D;rw[hv] at j;obtain rfl:=aOj j;exact VV hr hb
 |map k v l=>
  obtain⟨p,es,cl,hp,_,E,_,_⟩:=h;obtain⟨q,z,rfl⟩:=D;rw[hp] at z;obtain rfl:=aOj z;exact(aOB.1 E).1
 |iter s n=>
  obtain⟨p,hp,_,E,_⟩:=h;obtain⟨q,z,rfl⟩:=D;rw[hp] at z;obtain rfl:=aOj z;exact(aOB.1 E).1
 |dead=>exact D.elim
def Du {g g':Gh}(j: ∀k n v,g.cur k n=some v->g'.cur k n=some v) {t:Ty}{x:t.den}{cs:pV}{toks:pT}(h:HC g t x cs toks):HC g' t x cs toks:=
 λo k hm=>let ⟨u,l,v,E,D,z⟩:=h o k hm;⟨u,l,v,E,D,j _ _ _ z⟩
def RH {g g':Gh}{w w':pZ}{i:Nat}{blk:qQ}(h:AH g w i blk) (le:Le g w g' w') (U:g'.J i=g.J i) (E:g'.cur i=g.cur i)
  (R: ∀b o,sD g i blk b o->w'.cell? ⟨b,o,none⟩=w.cell? ⟨b,o,none⟩/\w'.frozen? ⟨b,o,none⟩=w.frozen? ⟨b,o,none⟩)
  (hb: ∀b,(∀o,sD g i blk b o)->w'.heap[b]? =w.heap[b]?) (M: ∀b o,sD g i blk b o->g'.S b o->g.S b o) (X: ∀b o s,sD g i blk b o->w.shape? b=some s->w'.shape? b=some s):AH g' w' i blk:=by
 cases blk with
 |cells t x toks=>
  obtain⟨p,cs,hp,hr,Z,ht,G,V⟩:=h;have K: ∀j,j<t.cells->sD g i (.cells t x toks) p.1 (p.2+j):=λj I=>⟨p,hp,rfl,pN,pN⟩;refine⟨p,cs,U.trans hp,xM le hr,λj v hv=>?_,⟨λj I=>?_,λh0 s Y=>X _ _ _ (K 0 h0) (ht.2 h0 s Y)⟩,λj I D=>G j I (M _ _ (K j I) D),Du le.cur V⟩
  .have I:j<t.cells:=sU hr▸(aOw.1 hv).1;rw[(R _ _ (K j I)).1];exact Z j v hv
  .rw[(R _ _ (K j I)).1,(R _ _ (K j I)).2];exact ht.1 j I
 |grow e c n=>
  obtain⟨v,xs,hv,hr,O,G⟩:=h;have z: ∀b,v.ownBlock=some b->∀o,sD g i (.grow e c n) b o:=λb hb o=>⟨v,hv,hb⟩;refine⟨v,xs,by rw[E];exact hv,⟨hr.1,?_⟩,λm hm=>by rw[E];exact O m hm,λb F o D=>G b F o (M _ _ (z b F o) D)⟩;rcases hr.2 with h0|⟨q,cap,cur,e1,e2,e3,e4⟩
  .exact .inl h0
  .subst e1;exact .inr ⟨q,cap,cur,rfl,e2,by rw[hb q (z q rfl)];exact e3,e4⟩
 |row e t l n=>
  obtain⟨hl,v,xs,hv,hr,hF,O,G⟩:=h;have z: ∀b,v.ownBlock=some b->∀o,sD g i (.row e t l n) b o:=λb hb o=>⟨v,hv,hb⟩;refine⟨hl,v,xs,by rw[E];exact hv,⟨hr.1,?_⟩,CU (λ_ _ h=>xM le h) hF,λm hm=>by rw[E];exact O m hm,λb F o D=>G b F o (M _ _ (z b F o) D)⟩;rcases hr.2 with h0|⟨q,cap,cur,e1,e2,e3,e4⟩
  .exact .inl h0
  .subst e1;exact .inr ⟨q,cap,cur,rfl,e2,by rw[hb q (z q rfl)];exact e3,e4⟩
 |map k v l=>
  obtain⟨p,es,cl,hp,h0,Q,hM,G⟩:=h;have z: ∀o,sD g i (.map k v l) p.1 o:=λo=>⟨p,hp,rfl⟩;exact⟨p,es,cl,U.trans hp,h0,(hb _ z).trans Q,VU le hM,λo D=>G o (M _ _ (z o) D)⟩
 |iter s n=>
  obtain⟨p,hp,h0,Q,G⟩:=h;have z: ∀o,sD g i (.iter s n) p.1 o:=λo=>⟨p,hp,rfl⟩;exact⟨p,U.trans hp,h0,(hb _ z).trans Q,λo D=>G o (M _ _ (z o) D)⟩
 |dead=>trivial
def zY {g g':Gh}{i:Nat}{blk:qQ}(z:g'.J i=g.J i) (j:g'.cur i=g.cur i) {b o:Nat}:sD g' i blk b o↔sD g i blk b o:=by
 cases blk<;>simp [sD,z,j]
def CV {i:Nat}: ∀{u:List (Nat×qQ)}{H:sA},i∉qW u->qU (rL u H) i=qU H i
 |[],_,_=>rfl
 |(k,b)::r,H,h=>by
  simp only[qW,aOv,not_or] at h;simp only[rL,qU];rw[aOi (Ne.symm h.1)];exact CV h.2
def sM.upd {g g':Gh}{w w':pZ}{H:sA}{u:List (Nat×qQ)}(h:sM g w H) (le:Le g w g' w') (fr:Fr (sX g H (qW u)) w w' g.S g'.S)
  (perm: ∀i blk b o,i∈qW u->qU (rL u H) i=some blk->sD g' i blk b o->w.heap.size<=b\/sX g H (qW u) b o)
  (gho: ∀i,i∉qW u->g'.J i=g.J i/\g'.cur i=g.cur i)
  (hb: ∀i blk,i∈qW u->qU (rL u H) i=some blk->AH g' w' i blk)
  (V: ∀i j bi bj b o,i∈qW u->j∈qW u->i≠j->qU (rL u H) i=some bi->qU (rL u H) j=some bj->sD g' i bi b o->sD g' j bj b o->False)
  (sl: ∀b o,g'.S b o->b<w'.heap.size):sM g' w' (rL u H):=by
 have out: ∀i blk,i∉qW u->qU H i=some blk->∀b o,sD g i blk b o->b<w.heap.size/\¬sX g H (qW u) b o:=λi blk hi Q b o D=>
  ⟨VW (h.blk i blk Q) D,λ⟨j,bj,I,G,F⟩=>h.dis i j blk bj b o (λe=>hi (e▸I)) Q G D F⟩
 refine⟨λi blk Q=>?_,λi j bi bj b o R O G M F=>?_,sl,V7 h.tab.1 fr.size (λb hb=>fr.blk b (aOS hb h.tab.1.1) (λo ⟨j,bj,_,k1,k2⟩=>Nat.not_lt.2 (h.tab.2 j bj b o k1 k2) hb)),λi blk b o Q D=>?_⟩
 rotate_right
 .by_cases hi:i∈qW u
  .rcases perm i blk b o hi Q D with E|⟨j,bj,_,k1,k2⟩
   .exact aOU h.tab.1.1 E
   exact h.tab.2 j bj b o k1 k2
  exact h.tab.2 i blk b o ((CV hi).symm.trans Q) ((zY (gho i hi).1 (gho i hi).2).1 D)
 .by_cases hi:i∈qW u
  .exact hb i blk hi Q
  have z:=(CV hi).symm.trans Q;have hk:=gho i hi;refine RH (h.blk i blk z) le hk.1 hk.2 (λb o D=>?_) (λb D=>?_) (λb o D U=>?_) (λb o s D U=>(fr.shape b s U).resolve_right λE=>(out i blk hi z b o D).2 (E o))
  .exact fr.cell b o (out i blk hi z b o D).1 (out i blk hi z b o D).2
  .exact fr.blk b (out i blk hi z b 0 (D 0)).1 (λo=>(out i blk hi z b o (D o)).2)
  rcases fr.new b o U with E|E|E
  .exact E
  .have:=(out i blk hi z b o D).1;omega
  exact absurd E (out i blk hi z b o D).2
 by_cases hi:i∈qW u<;>by_cases I:j∈qW u
 .exact V i j bi bj b o hi I R O G M F
 .have z:=(CV I).symm.trans G;have K:=(zY (gho j I).1 (gho j I).2).1 F;rcases perm i bi b o hi O M with E|E
  .have:=(out j bj I z b o K).1;omega
  exact(out j bj I z b o K).2 E
 .have z:=(CV hi).symm.trans O;have K:=(zY (gho i hi).1 (gho i hi).2).1 M;rcases perm j bj b o I G F with E|E
  .have:=(out i bi hi z b o K).1;omega
  exact(out i bi hi z b o K).2 E
 exact h.dis i j bi bj b o R ((CV hi).symm.trans O) ((CV I).symm.trans G) ((zY (gho i hi).1 (gho i hi).2).1 M) ((zY (gho j I).1 (gho j I).2).1 F)
def sE.pure {g:Gh}{w:pZ}{H:sA}{side:List Prop}{s:qP}{rds:pY}{v:qA}(h:sM g w H) (j:rZ g w s v):sE g w H ⟨side,s,[],rds⟩ g w v:=
 ⟨.refl _ _,j,h,.refl _ _ _,λ_ _ _ _ hi=>(by cases hi),λ_ _=>⟨rfl,rfl⟩,λ_ _ y us h=> .inl ⟨y,us,h⟩⟩
def zX.pure {g:Gh}{w:pZ}{H:sA}{side:List Prop}{s:qP}{rds:pY}{v:qA}(h:sM g w H) (j:rZ g w s v):zX g w H ⟨side,s,[],rds⟩ g w v:=(sE.pure h j).w
def uS:Ty->pV
 | .bool=>[.bool false]
 | .int k=>[.int k 0]
 | .str=>[.string ⟨#[]⟩]
 | .list _=>[.slice none 0 0]
 | .unit=>[]
 | .pair a b=>uS a++uS b
 | .ref=>[.pointer none]
 | .clo=>[.nilFunc]
 | .mp=>[.map none]
 | .rl _ _=>[.slice none 0 0]
 | .fn=>[.nilFunc]
 | .mref=>[.pointer none]
 | .part=>[.int .i64 0,.string ⟨#[]⟩,.string ⟨#[]⟩,.string ⟨#[]⟩,.slice none 0 0,.slice none 0 0]
def yD (t:Ty):qA:=if t.isRow then .agg (uS t).toArray else(uS t).headD undef
def RI (P:Program):Ty->Nat->List Field->Prop
 | .unit,_,[]=>True
 | .pair a b,o,f::r=>f.offset=o/\(P.info? f.type).map (·.size)=some a.cells/\(P.underlying f.type).map (·.isRow)=some a.isRow/\RI P b (o+a.cells) r
 |_,_,_=>False
def RJ (P:Program) (e:TypeId):Ty->Nat->Prop
 | .unit,0=>True
 | .pair a b,n+1=>(P.info? e).map (·.size)=some a.cells/\(P.underlying e).map (·.isRow)=some a.isRow/\RJ P e b n
 |_,_=>False
inductive ni where
 |ty (t:TypeId) |fs (o:Nat) (l:List Field) |el (e:TypeId) (i m:Nat)
inductive xD (P:Program):Nat->ni->Ty->Prop
 |bool {h t}:P.underlying t=some .bool->xD P h (.ty t) .bool
 |int {h t k}:P.underlying t=some (.int k)->xD P h (.ty t) (.int k)
 |str {h t}:P.underlying t=some .string->xD P h (.ty t) .str
 |struct {h t fs ty}:ty.isRow=true->P.underlying t=some (.struct fs)->P.stoodInHeld t=false->xD P h (.fs 0 fs.toList) ty->xD P (h+1) (.ty t) ty
 |arr {h t e n ty}:ty.isRow=true->P.underlying t=some (.array n e)->(P.info? e).isSome=true->xD P h (.el e 0 n) ty->xD P (h+1) (.ty t) ty
 |nil {h o}:xD P h (.fs o []) .unit
 |cons {h o}{f:Field}{r a b}:f.name≠ "_" ->f.offset=o->(P.info? f.type).map (·.size)=some a.cells->(P.underlying f.type).map (·.isRow)=some a.isRow->xD P h (.ty f.type) a->xD P h (.fs (o+a.cells) r) b->xD P h (.fs o (f::r)) (.pair a b)
 |anil {h e i}:xD P h (.el e i 0) .unit
 |acons {h e i m a b}:(P.info? e).map (·.size)=some a.cells->(P.underlying e).map (·.isRow)=some a.isRow->xD P h (.ty e) a->xD P h (.el e (i+1) m) b->xD P h (.el e i (m+1)) (.pair a b)
def xO (P:Program) (t:TypeId) (ti:TI):Prop:=
 match ti.ty with
 | .bool=>P.underlying t=some .bool
 | .int k=>P.underlying t=some (.int k)
 | .str=>P.underlying t=some .string
 | .ref=> ∃e,P.underlying t=some (.pointer e)
 | .clo=> ∃a b c,P.underlying t=some (.func a b c)
 | .mp=>P.underlying t=some (.map ti.elem ti.bytes)
 | .rl _ _=> ∃e,P.underlying t=some (.slice e)
 | .fn=> ∃a b c,P.underlying t=some (.func a b c)
 | .mref=> ∃e,P.underlying t=some (.pointer e)
 | .part=>False
 | .list u=>P.underlying t=some (.slice ti.elem)/\(P.info? ti.elem).map (λi=>(i.size,i.bytes,i.zero))=some (u.cells,ti.bytes,some (yD u))/\(P.underlying ti.elem).map (·.isRow)=some u.isRow
 |ty=>((ti.arr=false/\∃fs,P.underlying t=some (.struct fs)/\RI P ty 0 fs.toList)\/(ti.arr=true/\∃n e,P.underlying t=some (.array n e)/\RJ P e ty n/\(P.info? e).isSome=true))/\(ti.bytes=1->P.eqGuardType P.depth t=false/\∃h,h<9000/\xD P h (.ty t) ty)
def sY (P:Program) (t:TypeId) (ti:TI):Prop:=(P.info? t).map (λi=>(i.size,i.zero))=some (ti.ty.cells,some (yD ti.ty))/\xO P t ti
def w6 (P:Program):sJ->Prop
 |[]=>True
 |(t,ti)::r=>sY P t ti/\w6 P r
theorem t7 {P:Program}: ∀{T:sJ},w6 P T->∀{t:TypeId}{ti:TI},s4 T t=some ti->sY P t ti
 |[],_,_,_,h=>by simp [s4] at h
 |(k,ti)::r,hT,t,ti',h=>by
  simp only[s4] at h;by_cases hk:k=t
  .rw[aOd hk] at h;subst hk;rw[<-aOj h];exact hT.1
  rw[aOi hk] at h;exact t7 hT.2 h
theorem F8 (g:Gh) (w:pZ): ∀t:Ty,Rd g w t t.zero (uS t)
 | .bool=>rfl
 | .int _=>rfl
 | .str=>rfl
 | .list _=>⟨none,0,rfl,aOA _,.inl rfl⟩
 | .unit=>rfl
 | .pair a b=>⟨_,_,rfl,F8 g w a,F8 g w b⟩
 | .ref=>rfl
 | .clo=>rfl
 | .mp=>rfl
 | .rl _ _=>rfl
 | .fn=>rfl
 | .mref=>rfl
 | .part=>⟨1,none,0,none,0,rfl,⟨aOA _,.inl rfl⟩,aOA _,.inl rfl⟩
theorem MG (g:Gh) (w:pZ) (t:Ty):sS g w t t.zero (yD t):=by
 unfold sS yD;by_cases h:t.isRow=true
 .left;rw[aOd h];exact⟨h,_,rfl,F8 g w t⟩
 right;rw[aOi h];refine⟨by simpa using h,?_⟩;cases t<;>first|exact F8 g w _|(simp [Ty.isRow] at h)
theorem F9 {g:Gh}{w:pZ}{t:Ty}{x:t.den}{v:qA}(h:sS g w t x v):Rd g w t x v.cells.toList:=by
 rcases h with⟨_,cs,rfl,r⟩ |⟨hr,r⟩
 .simpa[Value.cells] using r
 have j:=BU r v pP;have:v.cells= #[v]:=by cases v<;>first|rfl|(simp [Value.oneCell'] at j)
 rw[this];exact r
theorem B9 {g:Gh}{w:pZ}{t:Ty}{x:t.den}{v:qA}(hr:t.isRow=false) (h:sS g w t x v):Rd g w t x [v]:=by
 rcases h with⟨j,_⟩ |⟨_,r⟩
 .rw[hr] at j;cases j
 exact r
theorem vK {g:Gh}{w:pZ}{k:IntKind}{n:Int}{v:qA}(h:sS g w (.int k) n v):v= .int k n:=by
 have:=B9 rfl h;simp only[Rd,aO5,and_true] at this;exact this
theorem vT {g:Gh}{w:pZ}{n:Bool}{v:qA}(h:sS g w .bool n v):v= .bool n:=by
 have:=B9 rfl h;simp only[Rd,aO5,and_true] at this;exact this
theorem xX {g:Gh}{w:pZ}{l:pJ}{v:qA}(h:sS g w .str l v):v= .string ⟨l.toArray⟩:=by
 have:=B9 rfl h;simp only[Rd,aO5,and_true] at this;exact this
theorem FA {g:Gh}{w:pZ}{t:Ty}{l:List t.den}{v:qA}(h:sS g w (.list t) l v): ∃a cap,v= .slice a l.length cap/\l.length<=cap/\(l=[]\/∃b o,a=some ⟨b,o,none⟩/\wH (Rd g w t) w g.S t.cells b o l):=by
 have:=B9 rfl h;obtain⟨a,cap,e,z,j⟩:=this;simp only[aO5,and_true] at e;exact⟨a,cap,e,z,j⟩
theorem zH {g:Gh}{w:pZ}{i o:Nat}{v:qA}(h:sS g w .ref (some (i,o)) v): ∃p,g.J i=some p/\v= .pointer (some ⟨p.1,p.2+o,none⟩):=by
 have:=B9 rfl h;obtain⟨p,j,e⟩:=this;simp only[aO5,and_true] at e;exact⟨p,j,e⟩
theorem DY {g:Gh}{w:pZ}{t:Ty}{x:t.den}{v:qA}(hr:t.isRow=true) (h:sS g w t x v): ∃cs:pV,v= .agg cs.toArray/\Rd g w t x cs:=by
 rcases h with⟨_,r⟩ |⟨j,_⟩
 .exact r
 rw[hr] at j;cases j
theorem wU (g:Gh) (w:pZ) (k:IntKind) (n:Int):sS g w (.int k) n (.int k n):= .inr ⟨rfl,rfl⟩
theorem wA (g:Gh) (w:pZ) (b:Bool):sS g w .bool b (.bool b):= .inr ⟨rfl,rfl⟩
theorem BV (g:Gh) (w:pZ) (l:pJ):sS g w .str l (.string ⟨l.toArray⟩):= .inr ⟨rfl,rfl⟩
def rU (P:Program) (o:Oper) (a:Act) (g:Gh) (w:pZ) (H:sA) (e:rA):Prop:=
 ∀(K:Act->pZ->Prop) (Q:Exit->Act->pZ->Prop),(∀g' w' v,zX g w H e g' w' v->K (a.put o.dst v) w')->o.wp P a w K Q
theorem rU.valueW {P:Program}{o:Oper}{a:Act}{g g':Gh}{w w':pZ}{H:sA}{e:rA}{v:qA}(hr:(execOp a.eval o).run P w= .ok (.value v) w') (h:zX g w H e g' w' v):rU P o a g w H e:=by
 intro K Q j;unfold Oper.wp;rw[hr];exact j g' w' v h
theorem rU.skipW {P:Program}{o:Oper}{a:Act}{g g':Gh}{w w':pZ}{H:sA}{e:rA}(hr:(execOp a.eval o).run P w= .ok .skip w') (h:zX g w H e g' w' undef):rU P o a g w H e:=by
 intro K Q j;unfold Oper.wp;rw[hr];exact j g' w' undef h
theorem rU.value {P:Program}{o:Oper}{a:Act}{g g':Gh}{w w':pZ}{H:sA}{e:rA}{v:qA}(hr:(execOp a.eval o).run P w= .ok (.value v) w') (h:sE g w H e g' w' v):rU P o a g w H e:= .valueW hr h.w
theorem rU.skip {P:Program}{o:Oper}{a:Act}{g g':Gh}{w w':pZ}{H:sA}{e:rA}(hr:(execOp a.eval o).run P w= .ok .skip w') (h:sE g w H e g' w' undef):rU P o a g w H e:= .skipW hr h.w
theorem rU.pure {P:Program}{o:Oper}{a:Act}{g:Gh}{w:pZ}{H:sA}{side:List Prop}{d:DV}{rds:pY}{v:qA}(hH:sM g w H) (hr:(execOp a.eval o).run P w= .ok (.value v) w) (h:zG g w d v):
  rU P o a g w H ⟨side,(d,none),[],rds⟩:= .value hr (.pure hH ⟨h,trivial⟩)
section
variable {P:Program}{o:Oper}{a:Act}{g:Gh}{w:pZ}{H:sA}
theorem aq {g:Gh}{w:pZ}{k:IntKind}(q:Int) (j: ∀p∈(LQ k q).1,p):zG g w (LQ k q).2 (.int k (k.wrap q)):=by
 cases k<;>simp only[LQ] at j|- <;>first|exact wU _ _ _ _|skip
 have h0:=j _ (aOs.2 rfl);rw[show IntKind.i64.wrap q=q from IntWalk.i64_in q pN];exact wU _ _ _ _
theorem a61 (g:Gh) {op:BinOp}{xt:TypeId}{x y:Operand}{k:IntKind}{m n:Int}{r:List Prop×DV}(hr:jx k m n op=some r) (j: ∀p∈r.1,p):
  ∃v,(do eqGuard op xt x y (.int k m) (.int k n);Go.binOp op xt (.int k m) (.int k n):Sem qA).run P w= .ok v w/\zG g w r.2 v:=by
 cases op<;>simp only[jx,aOf,reduceCtorEq] at hr
 all_goals subst hr
 case add=>exact⟨.int k (k.wrap _),by simp [eqGuard,Go.binOp,Op.intArith],aq _ j⟩
 case sub=>exact⟨.int k (k.wrap _),by simp [eqGuard,Go.binOp,Op.intArith],aq _ j⟩
 case mul=>exact⟨.int k (k.wrap _),by simp [eqGuard,Go.binOp,Op.intArith],aq _ j⟩
 case eql=>exact⟨.bool (decide (m=n)),by simp [eqGuard,Go.binOp,Op.intCmp];rfl,wA _ _ _⟩
 case neq=>exact⟨.bool (!decide (m=n)),by simp [eqGuard,Go.binOp,Op.intCmp,bne];rfl,wA _ _ _⟩
 case lss=>exact⟨.bool (decide _),by simp [eqGuard,Go.binOp,Op.intCmp],wA _ _ _⟩
 case leq=>exact⟨.bool (decide _),by simp [eqGuard,Go.binOp,Op.intCmp],wA _ _ _⟩
 case gtr=>exact⟨.bool (decide (n<m)),by simp [eqGuard,Go.binOp,Op.intCmp],wA _ _ _⟩
 case geq=>exact⟨.bool (decide (n<=m)),by simp [eqGuard,Go.binOp,Op.intCmp],wA _ _ _⟩
 case quo=>
  have h0:=j _ (aOs.2 rfl);exact⟨.int k (k.wrap (Int.tdiv m n)),by simp [eqGuard,Go.binOp,Op.intDiv,h0],wU _ _ _ _⟩
 case rem=>
  have h0:=j _ (aOs.2 rfl);exact⟨.int k (Int.tmod m n),by simp [eqGuard,Go.binOp,Op.intDiv,h0],wU _ _ _ _⟩
 case and=>exact⟨.int k (bits .and k m n),by simp [eqGuard,Go.binOp,intBits_and],wU _ _ _ _⟩
 case or=>exact⟨.int k (bits .or k m n),by simp [eqGuard,Go.binOp,intBits_or],wU _ _ _ _⟩
 case xor=>exact⟨.int k (bits .xor k m n),by simp [eqGuard,Go.binOp,intBits_xor],wU _ _ _ _⟩
 case andNot=>exact⟨.int k (bits .andNot k m n),by simp [eqGuard,Go.binOp,intBits_andNot],wU _ _ _ _⟩
theorem VX (m n:pJ):(m==n)=decide (m=n):=by rw[aOE];simp
theorem a62 (g:Gh) {op:BinOp}{xt:TypeId}{x y:Operand}{m n:pJ}{r:List Prop×DV}(hr:ka m n op=some r) (z: ∀p∈r.1,p):
  ∃v,(do eqGuard op xt x y (.string ⟨m.toArray⟩) (.string ⟨n.toArray⟩);Go.binOp op xt (.string ⟨m.toArray⟩) (.string ⟨n.toArray⟩):Sem qA).run P w= .ok v w/\zG g w r.2 v:=by
 have j: ∀l:pJ,(⟨l.toArray⟩:ByteArray).size=l.length:=λl=>by simp [ByteArray.size]
 cases op<;>simp only[ka,aOf,reduceCtorEq] at hr
 all_goals subst hr
 case add=>
  have h0:=z _ (aOs.2 rfl);refine⟨.string ⟨(m++n).toArray⟩,?_,BV _ _ _⟩;rw[aOg] at h0;have D: ¬(((⟨m.toArray⟩:ByteArray).size+(⟨n.toArray⟩:ByteArray).size:Nat):Int) >IntKind.i64.max:=by rw[j,j,show IntKind.i64.max=9223372036854775807 from by decide];omega
  simp only[eqGuard,Go.binOp,Op.stringOp,aOr,aOi D];simp;rfl
 case eql=>exact⟨.bool (decide (m=n)),by simp [eqGuard,Go.binOp,Op.stringOp,VX],wA _ _ _⟩
 case neq=>exact⟨.bool (!decide (m=n)),by simp [eqGuard,Go.binOp,Op.stringOp,VX],wA _ _ _⟩
 case lss=>exact⟨.bool (Op.bytesLess m n),by simp [eqGuard,Go.binOp,Op.stringOp],wA _ _ _⟩
 case leq=>exact⟨.bool (Op.bytesLess m n||decide (m=n)),by simp [eqGuard,Go.binOp,Op.stringOp,VX],wA _ _ _⟩
 case gtr=>exact⟨.bool (!(Op.bytesLess m n||decide (m=n))),by simp [eqGuard,Go.binOp,Op.stringOp,VX],wA _ _ _⟩
 case geq=>exact⟨.bool (!Op.bytesLess m n),by simp [eqGuard,Go.binOp,Op.stringOp],wA _ _ _⟩
theorem JM {r:Option (List Prop×DV)}{e:rA}(h:B2 r=some e): ∃q,r=some q/\e=⟨q.1,(q.2,none),[],[]⟩:=by
 cases r with
 |none=>cases h
 |some q=>obtain⟨p,d⟩:=q;exact⟨(p,d),rfl,(aOj h).symm⟩
theorem a63 (hH:sM g w H) {op:BinOp}{xt yt:TypeId}{x y:Operand}(I:o.op= .binOp op xt x y yt) {sx sy:qP}(E:rZ g w sx (a.eval x)) (D:rZ g w sy (a.eval y)) {e:rA}
  (hr:B2 (YL op sx sy)=some e) (F: ∀p∈e.side,p):rU P o a g w H e:=by
 obtain⟨q,j,rfl⟩:=JM hr;have go: ∀{u v:qA},a.eval x=u->a.eval y=v->(∃z,(do eqGuard op xt x y u v;Go.binOp op xt u v:Sem qA).run P w= .ok z w/\zG g w q.2 z)->rU P o a g w H ⟨q.1,(q.2,none),[],[]⟩:=by
  rintro u v rfl rfl ⟨z,G,K⟩;refine rU.pure hH (v:=z) ?_ K;unfold execOp;rw[I];simp only[aOr,aOD] at G|-;rw[G];rfl
 obtain⟨dx,kx⟩:=sx;obtain⟨dy,ky⟩:=sy;replace E:=E.1;replace D:=D.1;unfold YL at j;split at j
 .rename_i k m k1 k' n k2 e1 e2;simp only[aOJ] at e1 e2;obtain⟨rfl,-⟩:=e1;obtain⟨rfl,-⟩:=e2;unfold Bp at j;split at j
  .cases j;have h0:=F _ (aOs.2 rfl);exact go (vK E) (vK D) ⟨.int k (jy k m n),by simp [eqGuard,Go.binOp,Op.shift,jy,Int.not_lt.2 h0],wU _ _ _ _⟩
  .cases j;have h0:=F _ (aOs.2 rfl);exact go (vK E) (vK D) ⟨.int k (jz k m n),by simp [eqGuard,Go.binOp,Op.shift,jz,Int.not_lt.2 h0],wU _ _ _ _⟩
  by_cases hk:k=k'
  .subst hk;rw[aOd rfl] at j;exact go (vK E) (vK D) (a61 g j F)
  rw[aOi hk] at j;cases j
 .rename_i m k1 n k2 e1 e2;simp only[aOJ] at e1 e2;obtain⟨rfl,-⟩:=e1;obtain⟨rfl,-⟩:=e2;exact go (xX E) (xX D) (a62 g j F)
 cases j
theorem a64 (hH:sM g w H) {op:BinOp}{xt yt:TypeId}{x y:Operand}(G:o.op= .binOp op xt x y yt) {ti:Option TI}{sx sy:qP}(F:rZ g w sx (a.eval x)) (E:rZ g w sy (a.eval y)) {e:rA}
  (hr:B2 (YM op ti sx sy)=some e):rU P o a g w H e:=by
 obtain⟨q,j,rfl⟩:=JM hr;unfold YM at j;split at j
 .rename_i k m _ k' n _;by_cases hk:k=k'
  .subst hk;rw[aOd rfl] at j;have D:=vK F.1;have z:=vK E.1;cases op<;>simp only[Br,aOf,reduceCtorEq] at j
   all_goals subst j
   all_goals refine rU.pure hH (v:= .int k (k.wrap _)) ?_ (wU _ _ _ _)
   all_goals
    unfold execOp;rw[G];simp [D,z,eqGuard,Go.binOp,Op.intArith]
  rw[aOi hk] at j;cases j
 cases j
theorem a65 (hH:sM g w H) {op:UnOp}{xt:TypeId}{x:Operand}(D:o.op= .unOp op xt x) {sx:qP}(z:rZ g w sx (a.eval x)) {e:rA}
  (hr:B2 (kg op sx)=some e) (E: ∀p∈e.side,p):rU P o a g w H e:=by
 obtain⟨q,j,rfl⟩:=JM hr;replace z:=z.1;unfold kg at j;split at j
 .have:=vT z;cases j;refine rU.pure hH (v:= .bool _) ?_ (wA _ _ _);simp [execOp,D,this,Op.unary]
 .rename_i k n _;have:=vK z;cases j;refine rU.pure hH (v:= .int k (k.wrap (-n))) ?_ (aq _ E);simp [execOp,D,this,Op.unary,Op.intArith]
 cases j
theorem VY {t:TypeId}{ti:TI}(h:sY P t ti): ∃d,P.underlying t=some d/\d.isRow=ti.ty.isRow:=by
 have j:=h.2;unfold xO at j;obtain⟨ty,el,by',ar,ls⟩:=ti;cases ty<;>simp only at j
 case bool=>exact⟨_,j,rfl⟩
 case int=>exact⟨_,j,rfl⟩
 case str=>exact⟨_,j,rfl⟩
 case list=>exact⟨_,j.1,rfl⟩
 case ref=>obtain⟨e,h⟩:=j;exact⟨_,h,rfl⟩
 case clo=>obtain⟨a,b,c,h⟩:=j;exact⟨_,h,rfl⟩
 case mp=>exact⟨_,j,rfl⟩
 case rl=>obtain⟨e,h⟩:=j;exact⟨_,h,rfl⟩
 case fn=>obtain⟨a,b,c,h⟩:=j;exact⟨_,h,rfl⟩
 case mref=>obtain⟨e,h⟩:=j;exact⟨_,h,rfl⟩
 all_goals
  rcases j.1 with⟨_,fs,h,_⟩ |⟨_,n,e,h,_⟩
  .exact⟨_,h,rfl⟩
  exact⟨_,h,rfl⟩
theorem HD {t:TypeId}{ti:TI}(h:sY P t ti): ∃i,P.info? t=some i/\i.size=ti.ty.cells/\i.zero=some (yD ti.ty):=by
 obtain⟨i,hi,j⟩:=aOq.1 h.1;simp only[aOJ] at j;exact⟨i,hi,j.1,j.2⟩
theorem a66 {T:sJ}(hT:w6 P T) (hH:sM g w H) {st dt:TypeId}{x:Operand}(G:o.op= .convert st dt x) {sx:qP}(E:rZ g w sx (a.eval x)) {e:rA}
  (hr:B2 (YO (s4 T st) (s4 T dt) sx)=some e):rU P o a g w H e:=by
 obtain⟨q,D,rfl⟩:=JM hr;replace E:=E.1;generalize F:s4 T st=os at D;generalize I:s4 T dt=od at D;unfold YO at D;split at D
 .rename_i k' k _ _ _ _ k0 n _;obtain⟨d,z,_⟩:=VY (t7 hT F);have j:=(t7 hT I).2;simp only[xO] at j;have:=vK E;cases D;refine rU.pure hH (v:= .int k (k.wrap n)) ?_ (wU _ _ _ _);simp [execOp,G,this,Go.convert,aOC z,aOC j,Conv.intToInt]
 .rename_i k' _ _ _ _ s _;obtain⟨d,z,_⟩:=VY (t7 hT F);have j:=(t7 hT I).2;simp only[xO] at j;have:=xX E;cases D;refine rU.pure hH (v:= .string ⟨List.toArray s⟩) ?_ (BV _ _ _);simp [execOp,G,this,Go.convert,aOC z,aOC j]
 .rename_i k' _ _ _ _ k0 n _;obtain⟨d,z,_⟩:=VY (t7 hT F);have j:=(t7 hT I).2;simp only[xO] at j;have:=vK E;have e1:Utf8.encode n=⟨List.toArray (J7 n)⟩:=by simp [J7]
  cases D;refine rU.pure hH (v:= .string ⟨List.toArray (J7 n)⟩) ?_ (BV _ _ _);simp only[execOp,G,this,run_convert_int_string w _ _ _ _ (by rw[z];rfl) j,e1,aOr,aOl,aOD]
 cases D
theorem VZ {α:Type}{R:α->pV->Prop}{w:pZ}{S:Nat->Nat->Prop}{c b:Nat}: ∀{l:List α}{o i:Nat}{x:α},wH R w S c b o l->l[i]? =some x->
  ∃cs,cs.length=c/\w.rangeAt b (o+i*c) cs/\(∀j,j<c->S b (o+i*c+j))/\R x cs
 |y::l,o,0,x,⟨⟨cs,F,E,D,z⟩,_⟩,h=>by
  simp only[aOL,aOf] at h;subst h;exact⟨cs,F,by simpa using E,by simpa using D,z⟩
 |y::l,o,i+1,x,⟨_,G⟩,h=>by
  simp only[aOZ] at h;obtain⟨cs,F,E,D,z⟩:=VZ G h;have e:o+c+i*c=o+(i+1)*c:=by rw[aPd];omega
  exact⟨cs,F,by rw[<-e];exact E,by rw[<-e];exact D,z⟩
theorem Dv {α:Type}{R:α->pV->Prop}{w:pZ}{S:Nat->Nat->Prop}{c b:Nat}: ∀{l:List α}{o:Nat}(i:Nat),wH R w S c b o l->i<=l.length->wH R w S c b (o+i*c) (l.drop i)
 |_,o,0,h,_=>by simpa using h
 |[],o,i+1,_,h=>by simp at h
 |y::l,o,i+1,⟨_,j⟩,h=>by
  have:=Dv i j aQe;have e:o+c+i*c=o+(i+1)*c:=by rw[aPd];omega
  rw[<-e];simpa using this
theorem Dw {α:Type}{R:α->pV->Prop}{w:pZ}{S:Nat->Nat->Prop}{c b:Nat}: ∀{l:List α}{o:Nat}(i:Nat),wH R w S c b o l->wH R w S c b o (l.take i)
 |_,_,0,_=>by simp [wH]
 |[],_,_+1,_=>by simp [wH]
 |_::_,_,i+1,⟨h,j⟩=>by simpa[wH] using⟨h,Dw i j⟩
theorem nj {g:Gh}{w:pZ}: ∀{t:Ty}{x:t.den}{cs:pV}{f:Nat}{u:Ty}{y:u.den},Rd g w t x cs->t.proj x f=some ⟨u,y⟩->
  ∃o c1 c2 c3,t.offs f=some o/\t.fld f=some u/\cs=c1++c2++c3/\c1.length=o/\Rd g w u y c2:=by
 intro t
 induction t with
 |pair a b _ ihb=>
  intro x cs f u y r h;obtain⟨c1,c2,e,r1,r2⟩:=r;cases f with
  |zero=>
   simp only[Ty.proj,aOf,Sigma.mk.injEq] at h;obtain⟨rfl,j⟩:=h;obtain rfl:=eq_of_heq j;exact⟨0,[],c1,c2,rfl,rfl,by simpa using e,rfl,r1⟩
  |succ f=>
   simp only[Ty.proj] at h;obtain⟨o,d1,d2,d3,F,j,E,D,z⟩:=ihb r2 h;refine⟨a.cells+o,c1++d1,d2,d3,by simp [Ty.offs,F],by simpa[Ty.fld] using j,by rw[e,E];simp,?_,z⟩;rw[aOg,D,sU r1]
 |_=>intro x cs f u y r h;cases f<;>simp [Ty.proj] at h
theorem nk {P:Program}: ∀{ty:Ty}{off:Nat}{fs:List Field}{f o:Nat}{u:Ty},RI P ty off fs->ty.offs f=some o->ty.fld f=some u->
  ∃fd,fs[f]? =some fd/\fd.offset=off+o/\(P.info? fd.type).map (·.size)=some u.cells/\(P.underlying fd.type).map (·.isRow)=some u.isRow:=by
 intro ty
 induction ty with
 |pair a b _ ihb=>
  intro off fs f o u h j z;cases fs with
  |nil=>exact h.elim
  |cons fd fs=>
   obtain⟨I,G,F,E⟩:=h;cases f with
   |zero=>
    simp only[Ty.offs,aOf] at j;simp only[Ty.fld,aOf] at z;subst j;subst z;exact⟨fd,rfl,pN,G,F⟩
   |succ f=>
    simp only[Ty.offs,aOq] at j;obtain⟨o',D,rfl⟩:=j;obtain⟨fd',k1,k2,k3,k4⟩:=ihb E D z;exact⟨fd',by simpa using k1,pN,k3,k4⟩
 |_=>intro off fs f o u h j z;cases f<;>simp [Ty.offs] at j
theorem nn {P:Program}{e:TypeId}: ∀{ty:Ty}{n f o:Nat}{u:Ty},RJ P e ty n->ty.offs f=some o->ty.fld f=some u->
  f<n/\(P.info? e).map (·.size)=some u.cells/\(P.underlying e).map (·.isRow)=some u.isRow/\o=f*u.cells:=by
 intro ty
 induction ty with
 |pair a b _ ihb=>
  intro n f o u h j z;cases n with
  |zero=>exact h.elim
  |succ n=>
   obtain⟨D,I,G⟩:=h;cases f with
   |zero=>
    simp only[Ty.offs,aOf] at j;simp only[Ty.fld,aOf] at z;subst j;subst z;exact⟨pN,D,I,by simp⟩
   |succ f=>
    simp only[Ty.offs,aOq] at j;obtain⟨o',E,rfl⟩:=j;obtain⟨k1,k2,k3,k4⟩:=ihb G E z;rw[D] at k2;have F:a.cells=u.cells:=aOj k2;exact⟨pN,by rw[D,F],k3,by rw[k4,F,aPd];omega⟩
 |_=>intro n f o u h j z;cases f<;>simp [Ty.offs] at j
theorem RK {t:TypeId}{u:Ty}(hi:(P.info? t).map (·.size)=some u.cells) (hr:(P.underlying t).map (·.isRow)=some u.isRow) {y:u.den}{c1 c2 c3:pV}(h:Rd g w u y c2):
  ∃v,(part t (c1++c2++c3).toArray c1.length).run P w= .ok v w/\sS g w u y v:=by
 obtain⟨i,hi,G⟩:=aOq.1 hi;obtain⟨d,I,z⟩:=aOq.1 hr;have F:=sU h;by_cases E:u.isRow=true
 .refine⟨.agg c2.toArray,?_,.inl ⟨E,c2,rfl,h⟩⟩;have j:(isAgg t).run P w= .ok true w:=by
   unfold isAgg;rw[aOr,aOC I w];rw[E] at z;cases d<;>simp_all [TypeDesc.isRow]
  simp only[part,aOr,j,aOl,aPl,sizeOf,typeInfo,aPe,hi,G,aOD];congr 2;apply aPn.1;simp [<-F]
 have D:u.isRow=false:=by simpa using E
 have K:u.cells=1:=by cases u<;>first|rfl|(simp [Ty.isRow] at D)
 obtain⟨v,rfl⟩: ∃v,c2=[v]:=by
  rw[K] at F;exact aPx.1 F
 refine⟨v,?_,.inr ⟨D,h⟩⟩;have j:(isAgg t).run P w= .ok false w:=by
  unfold isAgg;rw[aOr,aOC I w];rw[D] at z;cases d<;>simp_all [TypeDesc.isRow]
 simp only[part,aOr,j,aOl];simp
theorem nq {t:TypeId}{ti:TI}(h:sY P t ti) (hr:ti.ty.isRow=true):
  (ti.arr=false/\∃fs,P.underlying t=some (.struct fs)/\RI P ti.ty 0 fs.toList)\/(ti.arr=true/\∃n e,P.underlying t=some (.array n e)/\RJ P e ti.ty n/\(P.info? e).isSome=true):=by
 have j:=h.2;unfold xO at j;obtain⟨ty,el,by',ar,ls⟩:=ti;cases ty<;>simp only[Ty.isRow,aOT] at hr<;>first|exact j.1|exact j.elim
theorem Dx {t:TypeId}{ti:TI}(h:sY P t ti) (hr:ti.ty.isRow=true) (ha:ti.arr=false): ∃fs,P.underlying t=some (.struct fs)/\RI P ti.ty 0 fs.toList:=by
 rcases nq h hr with⟨_,h⟩ |⟨h,_⟩
 .exact h
 rw[ha] at h;cases h
theorem nr {t:TypeId}{ti:TI}(h:sY P t ti) (hr:ti.ty.isRow=true) (ha:ti.arr=true): ∃n e,P.underlying t=some (.array n e)/\RJ P e ti.ty n/\(P.info? e).isSome=true:=by
 rcases nq h hr with⟨h,_⟩ |⟨_,h⟩
 .rw[ha] at h;cases h
 exact h
theorem a67 {t:Ty}{x:t.den}{f:Nat}{q: Σ u:Ty,u.den}(h:t.proj x f=some q):t.isRow=true:=by
 cases t<;>first|rfl|(cases f<;>simp [Ty.proj] at h)
theorem a68 {t:Ty}{f o:Nat}(h:t.offs f=some o):t.isRow=true:=by
 cases t<;>first|rfl|(cases f<;>simp [Ty.offs] at h)
end
theorem a69 (l:pJ) (n:Nat) (h:n<l.length):(⟨l.toArray⟩:ByteArray)[n]? =some l[n]:=by
 have:n<(⟨l.toArray⟩:ByteArray).size:=by simpa[ByteArray.size] using h
 rw[getElem?_pos (⟨l.toArray⟩:ByteArray) n this];rfl
theorem yZ {i:Int}{n:Nat}(h0:0<=i) (j:i<n):i.toNat<n:=by omega
theorem Dy {i:Int}{n:Nat}(h0:0<=i) (j:i.toNat<n):i<n:=by omega
section
variable {P:Program}{o:Oper}{a:Act}{g:Gh}{w:pZ}{H:sA}{T:sJ}(hT:w6 P T) (hH:sM g w H)
include hT hH
theorem a7a {t:TypeId}{x:Operand}{f:Nat}(Q:o.op= .field t x f) {sx:qP}(D:rZ g w sx (a.eval x)) {e:rA}(hr:md f (s4 T t) sx=some e):rU P o a g w H e:=by
 generalize O:s4 T t=ot at hr;replace D:=D.1;unfold md at hr;split at hr
 .rename_i ty el by' ls_ u y _;split at hr
  .rename_i M;subst M;have G:=t7 hT O;generalize hp:u.proj y f=q at hr;cases q with
   |none=>cases hr
   |some q=>
    obtain⟨u,z⟩:=q;cases hr;have j:=a67 hp;obtain⟨cs,hv,R⟩:=DY j D;obtain⟨oo,c1,c2,c3,X,V,rfl,rfl,U⟩:=nj R hp;obtain⟨fs,I,K⟩:=Dx G j rfl;obtain⟨fd,k1,k2,k3,k4⟩:=nk K X V;obtain⟨v,F,E⟩:=RK k3 k4 (P:=P) (c1:=c1) (c3:=c3) U;refine rU.pure hH (v:=v) ?_ E;have k1':fs[f]? =some fd:=by simpa using k1
    simp only[execOp,Q,hv,Instr.field,aOr,aOC I,aOl,k1',asAgg,aOD,k2,aOO,F]
  cases hr
 cases hr
theorem nu {t:TypeId}{ti:TI}(j:sY P t ti) (G:ti.arr=false) {f oo:Nat}{u:Ty}(I:ti.ty.offs f=some oo) (M:ti.ty.fld f=some u) (K:0<u.cells) (b off:Nat):
  (Instr.fieldAt t (.pointer (some ⟨b,off,none⟩)) f).run P w= .ok (.pointer (some ⟨b,off+oo,none⟩)) w:=by
 obtain⟨fs,E,F⟩:=Dx j (a68 I) G;obtain⟨fd,k1,k2,k3,k4⟩:=nk F I M;obtain⟨i,hi,z⟩:=aOq.1 k3;have k1':fs[f]? =some fd:=by simpa using k1
 have D: ¬(u.cells=0):=by omega
 simp only[Instr.fieldAt,aOr,aOC E,aOl,k1',Instr.sureAddr,aOD,fieldPlace,sizeOf,typeInfo,aPe,hi,z,aOi D,k2,aOO,aPp]
theorem a7b {t:TypeId}{x:Operand}{f:Nat}(M:o.op= .fieldAddr t x f) {sx:qP}(F:rZ g w sx (a.eval x)) {e:rA}(hr:mc f (s4 T t) sx=some e):rU P o a g w H e:=by
 generalize K:s4 T t=ot at hr;replace F:=F.1;unfold mc at hr;split at hr
 .rename_i ty el by' ls_ k n c i o' _;have E:=t7 hT K;generalize I:ty.offs f=o1 at hr;generalize G:ty.fld f=o2 at hr;unfold Cs at hr;split at hr
  .split at hr
   .rename_i oo u D;cases hr;obtain⟨b,cap,hc,V,U,hv⟩:=F;refine rU.pure hH (v:= .pointer (some ⟨b,i.toNat*c+o'+oo,none⟩)) ?_ ⟨b,cap,hc,V,U,by rw[aOX]⟩;simp only[execOp,M,hv,aOr,nu hT hH E rfl I G D,aOl,aOD]
   cases hr
  cases hr
 .rename_i ty el by' ls_ u y _;split at hr
  .rename_i Z;subst Z;have E:=t7 hT K;generalize hp:u.proj y f=q at hr;cases q with
   |none=>cases hr
   |some q=>
    obtain⟨u,z⟩:=q;simp only[ZH] at hr;split at hr
    .rename_i D;cases hr;obtain⟨b,off,cs,hv,Q,hS,X⟩:=F;obtain⟨oo,c1,c2,c3,I,G,rfl,rfl,Y⟩:=nj X hp;refine rU.pure hH (v:= .pointer (some ⟨b,off+c1.length,none⟩)) ?_ ⟨b,off+c1.length,c2,rfl,λj v O=>?_,λj O=>?_,Y⟩
     .simp only[execOp,M,hv,aOr,nu hT hH E rfl I G D,aOl,aOD]
     .have:=Q (c1.length+j) v (by
       have R:=(aOw.1 O).1;rw[aOk,aOp pN,aOW,aOy R];exact O)
      rw[aOX];exact this
     have:=hS (c1.length+j) (by
      have:=sU X;have h6:=sU Y;simp only[aOg] at this;omega)
     rw[aOX];exact this
    cases hr
  cases hr
 .rename_i ty el by' ls_ i off _;have E:=t7 hT K;generalize I:ty.offs f=o1 at hr;generalize G:ty.fld f=o2 at hr;unfold ZI at hr;split at hr
  .split at hr
   .rename_i oo u D;cases hr;obtain⟨p,hp,hv⟩:=zH F;refine rU.pure hH (v:= .pointer (some ⟨p.1,p.2+off+oo,none⟩)) ?_ (.inr ⟨rfl,p,hp,by rw[aOX]⟩);simp only[execOp,M,hv,aOr,nu hT hH E rfl I G D,aOl,aOD]
   cases hr
  cases hr
 cases hr
theorem a7c {x:Operand}{i:Nat}(I:o.op= .extract x i) {sx:qP}(E:rZ g w sx (a.eval x)) {e:rA}(hr:mi i sx=some e) (G: ∀p∈e.side,p):rU P o a g w H e:=by
 replace E:=E.1;unfold mi at hr;split at hr
 rotate_left
 .rename_i b p c _;have run: ∀(v:qA) (vs:Array qA),a.eval x= .tuple vs->vs[i]? =some v->(execOp a.eval o).run P w= .ok (.value v) w:=by
   intro v vs z j;simp [execOp,I,z,Instr.extract,j]
  obtain⟨z,j⟩:=E;unfold Cu at hr;split at hr
  .cases hr;cases b with
   |true=>exact rU.pure hH (run (.bool true) _ (z rfl) rfl) (wA _ _ _)
   |false=>exact rU.pure hH (run (.bool false) _ (j rfl) rfl) (wA _ _ _)
  .cases hr;have hb:=G (b=true) pP;exact rU.pure hH (run (.int .i64 p) _ (z hb) rfl) (wU _ _ _ _)
  .cases hr;have hb:=G (b=true) pP;exact rU.pure hH (run (.int .i32 c) _ (z hb) rfl) (wU _ _ _ _)
  cases hr
 rotate_left
 .rename_i l _;obtain⟨vs,hv,K⟩:=E;have key: ∀(l:List ((Σ t:Ty,t.den)×pX)) (vs:pV) (i:Nat),RG g w l vs->ZJ l i=some e->∃v,vs[i]? =some v/\rZ g w e.slot v/\e.upd=[]/\e.rds=[]:=by
   intro l
   induction l with
   |nil=>intro vs i _ h;cases i<;>cases h
   |cons q l ih=>
    obtain⟨⟨t,x⟩,k⟩:=q;rintro vs i ⟨v,vs',rfl,r1,r2,r3⟩ h;cases i with
    |zero=>
     simp only[ZJ,aOf] at h;subst h;refine⟨v,rfl,?_,rfl,rfl⟩;have gen:rZ g w (.val t x,k) v:=⟨r1,by
      cases k with
      |none=>trivial
      |some k=>exact r2⟩
     cases t with
     |rl e u=>
      cases x with
      |none=>exact⟨r1,trivial⟩
      |some q=>
       obtain⟨k',n⟩:=q;obtain⟨v',z,j,D⟩:=B9 rfl r1;simp only[aO5,and_true] at j;subst j;exact⟨⟨z,D⟩,trivial⟩
     |_=>exact gen
    |succ i=>
     obtain⟨v',z,j,D,F⟩:=ih vs' i r3 h;exact⟨v',by simpa using z,j,D,F⟩
  obtain⟨v,z,j,D,F⟩:=key l vs i K hr;obtain⟨side,slot,upd,rds⟩:=e;simp only at j D F;subst D;refine rU.value (v:=v) (g':=g) (w':=w) ?_ (.pure hH j);have:vs.toArray[i]? =some v:=by simpa using z
  simp [execOp,I,hv,Instr.extract,this]
 cases hr
theorem a7d {x:Operand}(z:o.op= .nilCheck x) {sx:qP}(j:rZ g w sx (a.eval x)) {e:rA}(hr:mb sx=some e):rU P o a g w H e:=by
 replace j:=j.1;unfold mb at hr;split at hr
 .rename_i p _;obtain⟨i,off⟩:=p;cases hr;obtain⟨p,hp,hv⟩:=zH j;refine rU.pure hH (v:=a.eval x) ?_ j;simp [execOp,z,hv]
 .cases hr;obtain⟨b,off,cs,hv,h⟩:=j;refine rU.pure hH (v:=a.eval x) ?_ ⟨b,off,cs,hv,h⟩;simp [execOp,z,hv]
 .cases hr;obtain⟨b,cap,F,E,D,hv⟩:=j;refine rU.pure hH (v:=a.eval x) ?_ ⟨b,cap,F,E,D,hv⟩;simp [execOp,z,hv]
 cases hr
theorem a7e {t:TypeId}{x ix:Operand}(K:o.op= .index t x ix) {sx si:qP}(E:rZ g w sx (a.eval x)) (hi:rZ g w si (a.eval ix)) {e:rA}(hr:mh (s4 T t) sx si=some e) (I: ∀p∈e.side,p):rU P o a g w H e:=by
 generalize hst:s4 T t=ot at hr;replace E:=E.1;replace hi:=hi.1;unfold mh at hr;split at hr
 .rename_i _ _ _ _ l _ k i _;cases hr;have hb:=I _ (aOs.2 rfl);have G:=(t7 hT hst).2;simp only[xO] at G;have hv:=xX E;have F:=vK hi;have z:(Int.toNat i)<List.length l:=yZ hb.1 hb.2;refine rU.pure hH (v:= .int .u8 (r7 l i)) ?_ (wU _ _ _ _);have D:(if (0:Int)<=i then(⟨List.toArray l⟩:ByteArray)[Int.toNat i]? else none)=some (l[Int.toNat i]):=by
   rw[aOd hb.1];exact a69 l _ z
  have j:r7 l i=((l[Int.toNat i]).toNat:Int):=by
   unfold r7;rw[aOF,aOn z];rfl
  simp only[execOp,K,hv,F,Instr.index,asIntOf,aOr,aOD,aOl,aOC G,D,j]
 cases hr
omit hT hH in
theorem Dz {e:TypeId}: ∀{t:Ty}{n:Nat},RJ P e t n->n=R1 t
 | .unit,0,_=>rfl
 | .pair a b,n+1,h=>by rw[show R1 (.pair a b)=R1 b+1 from rfl,<-Dz (t:=b) h.2.2]
omit hT hH in
theorem a7f {t:Ty}{x:t.den}{v:qA}(h:zG g w (.at t x) v):zG g w (mf t x) v:=by
 unfold mf;split
 .rename_i e;subst e;obtain⟨b,o,cs,E,D,z,j⟩:=h;exact⟨b,o,cs,E,D,z,a6U j⟩
 exact h
theorem a7g {t:TypeId}{x ix:Operand}(V:o.op= .indexAddr t x ix) {sx si:qP}(O:rZ g w sx (a.eval x)) (hi:rZ g w si (a.eval ix)) {e:rA}(hr:mg (s4 T t) sx si=some e) (U: ∀p∈e.side,p):rU P o a g w H e:=by
 generalize hst:s4 T t=ot at hr;replace O:=O.1;replace hi:=hi.1;unfold mg at hr;split at hr
 .rename_i t' el by' ar ls_ k n _ k' i _;split at hr
  .rename_i M;cases hr;have hb:=U _ (aOs.2 rfl);obtain⟨Q,h3,_⟩:=(t7 hT hst).2;obtain⟨ei,E,I⟩:=aOq.1 h3;simp only[aOJ] at I;have D:=vK hi;obtain⟨hc,hv⟩:=O;rcases hv with⟨_,rfl⟩ |⟨b,cap,hv,hA⟩
   .exact absurd (Int.lt_of_le_of_lt hb.1 hb.2) (Int.lt_irrefl 0)
   refine rU.pure hH (v:= .pointer (some ⟨b,0+Int.toNat i*t'.cells,none⟩)) ?_ ⟨b,cap,by rw[<-hv];exact hc,hb.1,hb.2,by rw[aOO,aPm]⟩;simp only[execOp,V,hv,D,Instr.indexAt,asIntOf,aOr,aOD,aOl,aOC Q,sizeOf,typeInfo,aPe,E,I.1,aOd hb,aPp]
  cases hr
 .rename_i t' el by' ar ls_ t1 l _ k i _;split at hr
  .rename_i hg;subst hg;cases hr;have hb:=U _ (aOs.2 rfl);obtain⟨Q,h3,_⟩:=(t7 hT hst).2;obtain⟨ei,E,I⟩:=aOq.1 h3;simp only[aOJ] at I;have D:=vK hi;obtain⟨ad,cap,hv,hB,hl⟩:=FA O;have Y:(Int.toNat i)<List.length l:=yZ hb.1 hb.2;rcases hl with rfl|⟨b,off,rfl,hL⟩
   .simp at Y
   have Z:l[Int.toNat i]? =some (qI t1 l i):=by
    unfold qI;rw[aOF,aOn Y];rfl
   obtain⟨cs,hC,hy,hw,ht⟩:=VZ hL Z;refine rU.pure hH (v:= .pointer (some ⟨b,off+Int.toNat i*t1.cells,none⟩)) ?_ (a7f ⟨b,_,cs,rfl,hy,hw,ht⟩);simp only[execOp,V,hv,D,Instr.indexAt,asIntOf,aOr,aOD,aOl,aOC Q,sizeOf,typeInfo,aPe,E,I.1,aOd hb,aPp]
  cases hr
 .rename_i s u el by' ls_ i off _ k n _;have K:=t7 hT hst;split at hr
  .cases hr;obtain⟨F,X⟩:=U _ (aOs.2 rfl);obtain⟨p,hp,hv⟩:=zH O;have D:=vK hi;obtain⟨len,el',R,G,_⟩:=nr K rfl rfl;have hd:len=R1 (.pair s u):=Dz G;have hh:(P.info? el').map (·.size)=some s.cells:=by
    cases len with
    |zero=>exact G.elim
    |succ len=>exact G.1
   obtain⟨ei,E,I⟩:=aOq.1 hh;have hb:(0:Int)<=n/\(n:Int)<(len:Int):=⟨F,by rw[hd];exact X⟩;refine rU.pure hH (v:= .pointer (some ⟨p.1,p.2+off+n.toNat*s.cells,none⟩)) ?_ ⟨p,hp,F,X,rfl⟩;simp only[execOp,V,hv,D,Instr.indexAt,Instr.sureAddr,asIntOf,aOr,aOD,aOl,aOC R,sizeOf,typeInfo,aPe,E,I,aOd hb,aPp]
  generalize h1:(Ty.pair s u).offs (Int.toNat n)=o1 at hr;generalize Q:(Ty.pair s u).fld (Int.toNat n)=o2 at hr;unfold ZI at hr;split at hr
  .split at hr
   .rename_i oo v M;cases hr;have F:=U _ (aOs.2 rfl);obtain⟨p,hp,hv⟩:=zH O;have D:=vK hi;obtain⟨len,el',R,G,_⟩:=nr K rfl rfl;obtain⟨k1,k2,k3,k4⟩:=nn G h1 Q;obtain⟨ei,E,I⟩:=aOq.1 k2;have hb:(0:Int)<=n/\(n:Int)<(len:Int):=⟨F,Dy F k1⟩;refine rU.pure hH (v:= .pointer (some ⟨p.1,p.2+off+oo,none⟩)) ?_ (.inr ⟨rfl,p,hp,by rw[aOX]⟩);simp only[execOp,V,hv,D,Instr.indexAt,Instr.sureAddr,asIntOf,aOr,aOD,aOl,aOC R,sizeOf,typeInfo,aPe,E,I,aOd hb,aPp,k4]
   cases hr
  cases hr
 .rename_i s u el by' ls_ u' y _ k n _;split at hr
  .rename_i he;subst he;have K:=t7 hT hst;generalize hp:(Ty.pair s u).proj y (Int.toNat n)=q at hr;cases q with
   |none=>cases hr
   |some q=>
    obtain⟨v,z⟩:=q;simp only[ZH] at hr;split at hr
    .rename_i M;cases hr;have F:=U _ (aOs.2 rfl);obtain⟨b,off,cs,hv,hn,hS,hR⟩:=O;have D:=vK hi;obtain⟨oo,c1,c2,c3,h1,Q,rfl,rfl,h5⟩:=nj hR hp;obtain⟨len,el',R,G,_⟩:=nr K rfl rfl;obtain⟨k1,k2,k3,k4⟩:=nn G h1 Q;obtain⟨ei,E,I⟩:=aOq.1 k2;have hb:(0:Int)<=n/\(n:Int)<(len:Int):=⟨F,Dy F k1⟩;refine rU.pure hH (v:= .pointer (some ⟨b,off+c1.length,none⟩)) ?_ ⟨b,off+c1.length,c2,rfl,λj v hj=>?_,λj hj=>?_,h5⟩
     .simp only[execOp,V,hv,D,Instr.indexAt,Instr.sureAddr,asIntOf,aOr,aOD,aOl,aOC R,sizeOf,typeInfo,aPe,E,I,aOd hb,aPp,<-k4]
     .have:=hn (c1.length+j) v (by
       have hq:=(aOw.1 hj).1;rw[aOk,aOp pN,aOW,aOy hq];exact hj)
      rw[aOX];exact this
     have:=hS (c1.length+j) (by
      have:=sU hR;have h6:=sU h5;simp only[aOg] at this;omega)
     rw[aOX];exact this
    cases hr
  cases hr
 cases hr
end
theorem Ea (off:Nat): ∀(vl:pV) (k:Nat) (cs:Array qA) (c1 c2 c3:pV),cs.toList=c1++c2++c3->c1.length=off+k->c2.length=vl.length->
  ((vl.zipIdx k).foldl (fun(cs:Array qA) (p:qA×Nat)=>cs.setIfInBounds (off+p.2) p.1) cs).toList=c1++vl++c3
 |[],_,cs,c1,c2,c3,h,_,j=>by
  have:c2=[]:=aOM aQf;subst this;simpa using h
 |v::vl,k,cs,c1,c2,c3,h,z,j=>by
  cases c2 with
  |nil=>simp at j
  |cons u c2=>
   simp only[List.zipIdx_cons,List.foldl_cons];have:=Ea off vl (k+1) (cs.setIfInBounds (off+k) v) (c1++[v]) c2 c3 (by
    rw[Array.toList_setIfInBounds,h,<-z];simp) pQ aQf
   rw[this];simp
theorem a7h (off:Nat) (vs cs:Array qA) (c1 c2 c3:pV) (h:cs.toList=c1++c2++c3) (D:c1.length=off) (z:c2.length=vs.size):
  (vs.zipIdx.foldl (fun(cs:Array qA) (x:qA×Nat)=>match x with|(c,j)=>cs.setIfInBounds (off+j) c) cs).toList=c1++vs.toList++c3:=by
 rw[<-aQb,Array.toList_zipIdx];exact Ea off vs.toList 0 cs c1 c2 c3 h pN aQg
theorem nv {place:Nat->pW}{cells:Array qA}{i:Nat}{v:qA}{rest:List (Nat×qA)}{off size:Nat}{c1 c2 c3:pV}(hp:place i=some (off,size)) (j:v.cells.size=size)
  (h:cells.toList=c1++c2++c3) (z:c1.length=off) (E:c2.length=size):
  Instr.fill place cells ((i,v)::rest)=Instr.fill place (c1++v.cells.toList++c3).toArray rest:=by
 have D:cells.size=c1.length+c2.length+c3.length:=by rw[<-aPi,h];simp;omega
 simp only[Instr.fill,hp];rw[aOi (by simp [j];omega)];congr 1;apply aPn.1;rw[a7h off v.cells cells c1 c2 c3 h z pN]
theorem nw {k:Nat}: ∀{t:Ty}{o:Nat}{cs:pV},M0 t=false->cs.length=t.cells->yC k t o cs
 | .bool,_,_,_,_=>trivial
 | .int _,_,_,_,_=>trivial
 | .str,_,_,_,_=>trivial
 | .unit,_,_,_,_=>trivial
 | .ref,_,_,_,_=>trivial
 | .clo,_,_,_,_=>trivial
 | .mp,_,_,_,_=>trivial
 | .rl _ _,_,_,_,_=>trivial
 | .fn,_,_,_,_=>trivial
 | .mref,_,_,_,_=>trivial
 | .part,_,_,_,_=>trivial
 | .list _,_,_,h,_=>by simp [M0] at h
 | .pair a b,_,cs,h,j=>by
  simp only[M0,aPW] at h;simp only[Ty.cells] at j;exact⟨cs.take a.cells,cs.drop a.cells,by simp,by rw[aO2];omega,nw h.1 (by rw[aO2];omega),nw h.2 (by rw[aON];omega)⟩
theorem nx: ∀t:Ty,(uS t).length=t.cells
 | .bool=>rfl
 | .int _=>rfl
 | .str=>rfl
 | .unit=>rfl
 | .ref=>rfl
 | .clo=>rfl
 | .mp=>rfl
 | .rl _ _=>rfl
 | .fn=>rfl
 | .mref=>rfl
 | .part=>rfl
 | .list _=>rfl
 | .pair a b=>by simp only[uS,aOg,nx a,nx b,Ty.cells]
theorem au {k:Nat}: ∀(t:Ty) (o:Nat),yC k t o (uS t)
 | .bool,_=>trivial
 | .int _,_=>trivial
 | .str,_=>trivial
 | .unit,_=>trivial
 | .ref,_=>trivial
 | .clo,_=>trivial
 | .mp,_=>trivial
 | .rl _ _,_=>trivial
 | .fn,_=>trivial
 | .mref,_=>trivial
 | .part,_=>trivial
 | .list _,_=> .inr rfl
 | .pair a b,_=>⟨uS a,uS b,rfl,nx a,au a _,au b _⟩
theorem Eb {g:Gh}{w:pZ}{k:Nat}: ∀{t:Ty}{x:t.den}{cs:pV}{off o:Nat},yC k t off cs->Rd g w t x cs->G0 t o=true->off+o+1≠k->∃(u:Ty),rT (.list u) t x o=some []/\cs[o]? =some (.slice none 0 0):=by
 intro t
 induction t with
 |pair a b iha ihb=>
  intro x cs off o F hr z hk;obtain⟨c1,c2,e,G,M,K⟩:=F;obtain⟨d1,d2,e',r1,r2⟩:=hr;have I:c1=d1/\c2=d2:=aP5 (e.symm.trans e') (by rw[G,sU r1]);obtain⟨rfl,rfl⟩:=I;have key: ∀(u:Ty) q,rT (.list u) (.pair a b) x q=if q<a.cells then rT (.list u) a x.1 q else rT (.list u) b x.2 (q-a.cells):=by
   intro u q;cases q with
   |zero=>
    conv=>lhs;unfold rT
    rw[aPN aQh,Nat.zero_sub]
   |succ q=>simp [rT]
  have j:(if o<a.cells then G0 a o else G0 b (o-a.cells))=true:=by
   cases o<;>simpa[G0] using z
  by_cases E:o<a.cells
  .rw[aOd E] at j;obtain⟨u,k1,k2⟩:=iha M r1 j hk;exact⟨u,by rw[key,aOd E];exact k1,by rw[e,aOy pN];exact k2⟩
  .rw[aOi E] at j;obtain⟨u,k1,k2⟩:=ihb K r2 j pN;exact⟨u,by rw[key,aOi E];exact k1,by rw[e,aOp pN,G];exact k2⟩
 |list u=>
  intro x cs off o F hr z hk;cases o with
  |succ o=>simp [G0] at z
  |zero=>
   obtain⟨a,cap,e,_,_⟩:=hr;have D:cs=[.slice none 0 0]:=F.resolve_left aQi;rw[D] at e;simp only[aO5,aPy,and_true] at e;have:(x:List u.den)=[]:=aOM e.2.1.symm;subst this;exact⟨u,by unfold rT;simp [uJ],by rw[D];rfl⟩
 |_=>intro x cs off o F hr z;cases o<;>simp [G0] at z
theorem a7i {g:Gh}{w:pZ}{u:Ty}{y:u.den}{cy:pV}(D:Rd g w u y cy): ∀{t:Ty}{x z:t.den}{cs:pV}{f:Nat},Rd g w t x cs->Ty.setPart u y t x f=some z->
  ∃o c1 c2 c3,t.offs f=some o/\t.fld f=some u/\cs=c1++c2++c3/\c1.length=o/\c2.length=u.cells/\Rd g w t z (c1++cy++c3)/\(∀k off,yC k t off cs->yC k u (off+o) cy->yC k t off (c1++cy++c3)):=by
 intro t
 induction t with
 |pair a b _ ihb=>
  intro x z cs f r h;obtain⟨c1,c2,e,r1,r2⟩:=r;cases f with
  |zero=>
   simp only[Ty.setPart] at h;split at h
   .rename_i E;subst E;simp only[uJ,aOf] at h;subst h;refine⟨0,[],c1,c2,rfl,rfl,by simpa using e,rfl,sU r1,⟨cy,c2,by simp,D,r2⟩,λk off ⟨d1,d2,e',k1,_,k3⟩ j=>?_⟩;obtain⟨rfl,rfl⟩:=aP5 (e'.symm.trans e) (by rw[k1,sU r1]);exact⟨cy,d2,by simp,sU D,j,k3⟩
   .cases h
  |succ f=>
   simp only[Ty.setPart,aOq] at h;obtain⟨q,F,rfl⟩:=h;obtain⟨o,d1,d2,d3,R,Q,O,M,K,I,G⟩:=ihb r2 F;refine⟨a.cells+o,c1++d1,d2,d3,by simp [Ty.offs,R],by simpa[Ty.fld] using Q,by rw[e,O];simp,?_,K,⟨c1,d1++cy++d3,by simp,r1,I⟩,λk off ⟨k1,k2,e',k3,k4,k5⟩ j=>by
    obtain⟨rfl,rfl⟩:=aP5 (e'.symm.trans e) (by rw[k3,sU r1]);exact⟨k1,d1++cy++d3,by simp,k3,k4,G k _ k5 (by rw[aOX];exact j)⟩⟩
   rw[aOg,M,sU r1]
 |_=>intro x z cs f r h;cases f<;>simp [Ty.setPart] at h
theorem ny {g:Gh}{w:pZ}{t:Ty}{ev:Operand->qA}{ρ:Operand->qP}{place:Nat->pW}(hp: ∀f o u,t.offs f=some o->t.fld f=some u->place f=some (o,u.cells)):
  ∀(ps:List (Nat×Operand)) (x z:t.den) (cs:pV),Rd g w t x cs->(∀q∈ps,rZ g w (ρ q.2) (ev q.2))->B3 t (some x) (uU ρ ps)=some z->
  ∃cs',Instr.fill place cs.toArray (ps.map λq=>(q.1,ev q.2))=some cs'.toArray/\Rd g w t z cs'/\(∀m k,B6 t (uU ρ ps)=some m->m=0\/m=k->yC k t 0 cs->yC k t 0 cs')
 |[],x,z,cs,r,_,h=>by
  simp only[uU,B3,aOf] at h;subst h;exact⟨cs,rfl,r,λ_ _ _ _ h=>h⟩
 |(i,q)::ps,x,z,cs,r,V,h=>by
  have h0:=V (i,q) pP;have step: ∀{u:Ty}{y:u.den}{z1:t.den},sS g w u y (ev q)->Ty.setPart u y t x i=some z1->B3 t (some z1) (uU ρ ps)=some z->(∀m k,B6 t (uU ρ ((i,q)::ps))=some m->m=0\/m=k->(∀o,t.offs i=some o->yC k u o (ev q).cells.toList)/\∃m',B6 t (uU ρ ps)=some m'/\(m'=0\/m'=k))->
    ∃cs',Instr.fill place cs.toArray (((i,q)::ps).map λq=>(q.1,ev q.2))=some cs'.toArray/\Rd g w t z cs'/\(∀m k,B6 t (uU ρ ((i,q)::ps))=some m->m=0\/m=k->yC k t 0 cs->yC k t 0 cs'):=by
   intro u y z1 hv D h F;obtain⟨o,c1,c2,c3,Y,h2,rfl,h4,h5,h6,h7⟩:=a7i (F9 hv) r D;obtain⟨cs',hf,hr,Z⟩:=ny hp ps z1 z _ h6 (λq O=>V q (by simp [O])) h;refine⟨cs',?_,hr,λm k j hm U=>?_⟩
   rotate_left
   .obtain⟨q1,m',q2,q3⟩:=F m k j hm;exact Z m' k q2 q3 (h7 k 0 U (by rw[aOO];exact q1 o Y))
   simp only[aO7];rw[nv (hp i o u Y h2) (by have:=sU (F9 hv);simpa using this) (c1:=c1) (c2:=c2) (c3:=c3) pP h4 h5];exact hf
  generalize M:ρ q=s at h0;simp only[uU,M] at h;obtain⟨d,k⟩:=s;cases d with
  |val u y=>
   simp only[B3] at h;generalize D:Ty.setPart u y t x i=o1 at h;cases o1 with
   |none=>cases ps with
    |nil=>simp [uU,B3] at h
    |cons p ps=>simp [uU,B3] at h
   |some z1=>
    have F: ∀m k,B6 t (uU ρ ((i,q)::ps))=some m->m=0\/m=k->(∀o,t.offs i=some o->yC k u o (ev q).cells.toList)/\∃m',B6 t (uU ρ ps)=some m'/\(m'=0\/m'=k):=by
     intro m k j hm;simp only[uU,M,B6] at j;cases K:M0 u with
     |false=>
      rw[K] at j;simp only[Z4] at j;exact⟨λo _=>nw K (sU (F9 h0.1)),m,j,hm⟩
     |true=>
      rw[K] at j;cases E:li u with
      |false=>rw[E] at j;simp [Z4] at j
      |true=>
       rw[E] at j;simp only[Z4] at j;cases X:t.offs i with
       |none=>rw[X] at j;simp [Z3] at j
       |some o=>
        rw[X] at j;cases G:B6 t (uU ρ ps) with
        |none=>rw[G] at j;simp [Z3] at j
        |some m'=>
         rw[G] at j;simp only[Z3] at j;split at j
         .rename_i R;subst R;simp only[aOf] at j;refine⟨λo' Q=>?_,0,rfl,.inl rfl⟩;obtain rfl:=aOj Q;cases u with
          |list u=>exact .inl pN
          |_=>simp [li] at E
         cases j
    obtain⟨cs',k1,k2,k3⟩:=step h0.1 D h F;exact⟨cs',k1,k2,k3⟩
  |nilS=>
   simp only[B3] at h;generalize hc:t.fld i=fl at h;cases fl with
   |none=>cases ps<;>simp [YQ,uU,B3] at h
   |some u=>
    cases u with
    |list u=>
     simp only[YQ] at h;generalize D:Ty.setPart (.list u) [] t x i=o1 at h;cases o1 with
     |none=>cases ps<;>simp [uU,B3] at h
     |some z1=>
      have I:ev q= .slice none 0 0:=h0.1;refine step (u:= .list u) (y:=[]) ?_ D h (λm k j hm=>?_)
      .rw[I];exact .inr ⟨rfl,none,0,rfl,aOA _,.inl rfl⟩
      .simp only[uU,M,B6] at j;exact⟨λo _=>by rw[I];exact .inr rfl,m,j,hm⟩
    |_=>cases ps<;>simp [YQ,uU,B3] at h
  |_=>simp [B3] at h
section
variable {P:Program}{o:Oper}{a:Act}{g:Gh}{w:pZ}{H:sA}{T:sJ}(hT:w6 P T) (hH:sM g w H)
include hT hH
theorem Ec {P:Program}(w:pZ): ∀(fs:List Field),(∀f∈fs,∃n,(P.info? f.type).map (·.size)=some n)->
  (fs.mapM (λf=>do pure (f.offset,<-sizeOf f.type):Field->Sem (Nat×Nat))).run P w= .ok (fs.map λf=>(f.offset,((P.info? f.type).map (·.size)).getD 0)) w
 |[],_=>rfl
 |f::fs,h=>by
  obtain⟨n,j⟩:=h f pP;obtain⟨i,hi,z⟩:=aOq.1 j;rw[List.mapM_cons];simp only[aOr,sizeOf,typeInfo,aPe,hi,aOl,aOD];have:=Ec w fs (λf hf=>h f (by simp [hf]));simp only[sizeOf,typeInfo,aOr,aPe] at this;rw[this];simp [hi]
theorem a7j {P:Program}: ∀{ty:Ty}{off:Nat}{fs:List Field},RI P ty off fs->∀f∈fs,∃n,(P.info? f.type).map (·.size)=some n:=by
 intro ty
 induction ty with
 |pair a b _ ihb=>
  intro off fs h f hf;cases fs with
  |nil=>cases hf
  |cons fd fs=>
   obtain⟨_,z,_,j⟩:=h;rcases aOv.1 hf with rfl|hf
   .exact⟨_,z⟩
   .exact ihb j f hf
 |unit=>intro off fs h f hf;cases fs with|nil=>cases hf|cons=>exact h.elim
 |_=>intro off fs h f hf;cases fs<;>exact h.elim
omit hT hH in
theorem Ed {t:Ty}{x:t.den}{cs:pV}{ps:List (Nat×qP)}(h: ∀m k,B6 t ps=some m->m=0\/m=k->yC k t 0 (uS t)->yC k t 0 cs):match ((DV.val t x,lj t (B6 t ps)):qP) with
  |(_,none)=>True
  |(.val t x,some k)=>DU g t x (.agg cs.toArray) (some k)
  |(_,some _)=>False:=by
 cases hp:B6 t ps with
 |none=>cases t<;>trivial
 |some m=>
  cases t with
  |pair a b=>
   have:=h m m hp (.inr rfl) (au _ _);simpa[lj,DU,Value.cells] using this
  |_=>trivial
omit hT in
theorem rU.pureS {s:qP}{v:qA}(hr:(execOp a.eval o).run P w= .ok (.value v) w) (j:rZ g w s v):rU P o a g w H ⟨[],s,[],[]⟩:=
 rU.value hr (.pure hH j)
theorem a7k {t:TypeId}{ps:Array (Nat×Operand)}(ho:o.op= .build t ps) {ρ:Operand->qP}(hρ: ∀q∈ps.toList,rZ g w (ρ q.2) (a.eval q.2)) {e:rA}(hr:ll (uU ρ ps.toList) (s4 T t)=some e):rU P o a g w H e:=by
 generalize hs:s4 T t=ot at hr;cases ot with
 |none=>cases hr
 |some ti=>
  have G:=t7 hT hs;simp only[ll] at hr;by_cases z:ti.ty.isRow=true
  case neg=>rw[aOi z] at hr;cases hr
  rw[aOd z] at hr;generalize hb:B3 ti.ty (some ti.ty.zero) (uU ρ ps.toList)=ox at hr;cases ox with
  |none=>cases hr
  |some x=>
   cases hr;obtain⟨i,hi,hd,hz⟩:=HD G;have U:yD ti.ty= .agg (uS ti.ty).toArray:=by unfold yD;rw[aOd z]
   have F: ∀w,(zeroValue t).run P w= .ok (.agg (uS ti.ty).toArray) w:=by
    intro w;simp [zeroValue,typeInfo,hi,hz,U]
   have D:(ps.map fun(q:Nat×Operand)=>(q.1,a.eval q.2)).toList=ps.toList.map λq=>(q.1,a.eval q.2):=by simp
   rcases nq G z with⟨hc,fs,Y,I⟩ |⟨hc,n,el,hu,Z,E⟩
   .have V:=Ec (P:=P) hT hH w fs.toList (a7j hT hH I);obtain⟨cs',hf,M,O⟩:=ny (g:=g) (w:=w) (ev:=a.eval) (ρ:=ρ) (t:=ti.ty) (place:=λj=>((fs.map λf=>(f.offset,((P.info? f.type).map (·.size)).getD 0))[j]?)) (λf oo u R Q=>by
     obtain⟨fd,k1,k2,k3,_⟩:=nk I R Q;have k1':fs[f]? =some fd:=by simpa using k1
     simp [k1',k2,k3]) ps.toList ti.ty.zero x (uS ti.ty) (F8 g w ti.ty) hρ hb
    refine rU.pureS hH (v:= .agg cs'.toArray) ?_ ⟨.inl ⟨z,cs',rfl,M⟩,Ed O⟩;have X:(fs.mapM (λf=>do pure (f.offset,<-sizeOf f.type):Field->Sem (Nat×Nat))).run P w= .ok (fs.map λf=>(f.offset,((P.info? f.type).map (·.size)).getD 0)) w:=by
     rw[Array.mapM_eq_mapM_toList,Sem.run_map,V];simp only[aOl];congr 1;apply aPn.1;simp
    simp only[execOp,ho,Instr.build,aOr,F,aOl,aOC Y,X,Value.cells];rw[D,hf];rfl
   obtain⟨cs',hf,M,O⟩:=ny (g:=g) (w:=w) (ev:=a.eval) (ρ:=ρ) (t:=ti.ty) (place:=λj=>some (j*((P.info? el).map (·.size)).getD 0,((P.info? el).map (·.size)).getD 0)) (λf oo u R Q=>by
    obtain⟨k1,k2,k3,k4⟩:=nn Z R Q;simp [k2,k4]) ps.toList ti.ty.zero x (uS ti.ty) (F8 g w ti.ty) hρ hb
   refine rU.pureS hH (v:= .agg cs'.toArray) ?_ ⟨.inl ⟨z,cs',rfl,M⟩,Ed O⟩;obtain⟨ei,K⟩:=aPc.1 E;simp only[K,Option.map_some,aP9] at hf;simp only[execOp,ho,Instr.build,aOr,F,aOl,aOC hu,sizeOf,typeInfo,aPe,K,aOD,Value.cells];rw[D,hf];rfl
theorem nz {ρ:Operand->qP}{ev:Operand->qA}: ∀{xs:List Operand}{ss:List qP},(∀x∈xs,rZ g w (ρ x) (ev x))->w4 ρ xs=ss->∃vs,xs.map ev=vs/\vs.length=ss.length/\∀(i:Nat) (s:qP) (v:qA),ss[i]? =some s->vs[i]? =some v->rZ g w s v
 |[],_,_,h=>⟨[],rfl,by rw[<-h];rfl,λi s v _ hv=>by simp at hv⟩
 |x::xs,ss,z,h=>by
  subst h;obtain⟨vs,G,F,E⟩:=nz (λy D=>z y (by simp [D])) rfl (xs:=xs);refine⟨ev x::vs,by simp [G],by simp [w4,F],λi s v j hv=>?_⟩;cases i with
  |zero=>
   simp only[w4,aOL,aOf] at j hv;subst j;subst hv;exact z x pP
  |succ i=>
   simp only[w4,aOZ] at j hv;exact E i s v j hv
theorem av {ρ:Operand->qP}{ev:Operand->qA}{args:Array Operand}{s:qP}(hρ: ∀x∈args.toList,rZ g w (ρ x) (ev x)) (h:w4 ρ args.toList=[s]): ∃v,args.map ev= #[v]/\rZ g w s v:=by
 obtain⟨vs,D,z,j⟩:=nz hT hH hρ h;obtain⟨v,rfl⟩:=aPx.1 z;exact⟨v,by apply aPn.1;simpa using D,j 0 s v rfl rfl⟩
theorem aw {ρ:Operand->qP}{ev:Operand->qA}{args:Array Operand}{s t:qP}(hρ: ∀x∈args.toList,rZ g w (ρ x) (ev x)) (h:w4 ρ args.toList=[s,t]): ∃v u,args.map ev= #[v,u]/\rZ g w s v/\rZ g w t u:=by
 obtain⟨vs,D,z,j⟩:=nz hT hH hρ h
 match vs,z with
 |[v,u],_=>exact⟨v,u,by apply aPn.1;simpa using D,j 0 s v rfl rfl,j 1 t u rfl rfl⟩
theorem HE {b:Builtin}{args:Array Operand}{tys:Array TypeId}(j:o.op= .call ⟨.builtin b,args,tys⟩):
  ∃cs,execOp a.eval o=builtin b tys o.type cs (args.map a.eval):=by
 refine⟨args.map fun| .const _=>true|_=>false,?_⟩
 unfold execOp;rw[j];rfl
theorem a7l (x y:Int):(if y<x then y else x)=min x y:=by rw[Int.min_def];split<;>split<;>omega
theorem a7m (x y:Int):(if y>x then y else x)=max x y:=by rw[Int.max_def];split<;>split<;>omega
theorem a7n {args:Array Operand}{tys:Array TypeId}(Q:o.op= .call ⟨.builtin .len,args,tys⟩) {ρ:Operand->qP}(hρ: ∀x∈args.toList,rZ g w (ρ x) (a.eval x)) {e:rA}
  (hr:ZQ T H (w4 ρ args.toList) tys.toList=some e):rU P o a g w H e:=by
 obtain⟨t0,tr,I⟩: ∃t0 tr,tys.toList=t0::tr:=by cases h:tys.toList with|nil=>(rw[h] at hr;cases hr) |cons t r=>exact⟨t,r,rfl⟩
 have D:tys[0]? =some t0:=by rw[<-aPJ,I];rfl
 rw[I] at hr;simp only[ZQ] at hr;generalize hst:s4 T t0=ot at hr;generalize E:w4 ρ args.toList=ss at hr;unfold mj at hr;split at hr
 .rename_i el fl ar ls_ i k;generalize hb:qU H i=ob at hr;unfold ZK at hr;split at hr
  .rename_i kt vt l;cases hr;obtain⟨v,hv,G⟩:=av hT hH hρ E;have z:=(t7 hT hst).2;simp only[xO] at z;obtain⟨p,es,cl,hp,hc,X,Y,hS⟩:=hH.blk i _ hb;obtain⟨p',K,R⟩: ∃p,g.J i=some p/\v= .map (some p.1):=by
    rcases G.1 with⟨h1,_⟩ |⟨_,p,h3,V⟩
    .cases h1
    simp only[aO5,and_true] at V;exact⟨p,h3,V⟩
   rw[hp] at K;obtain rfl:=aOj K;have O: ∀{l:List (kt.den×vt.den)}{es:List MapEntry},xN g w kt vt l es->es.length=l.length:=by
    intro l
    induction l with
    |nil=>intro es h;rw[show es=[] from h];rfl
    |cons q l ih=>intro es h;obtain⟨e,es',rfl,_,_,Z⟩:=h;simp [ih Z]
   refine rU.pure hH (v:= .int .i64 (List.length l:Int)) ?_ (wU _ _ _ _);obtain⟨cs,F⟩:=HE (a:=a) hT hH Q;rw[F,hv,R];have j:(#[Value.map (some p.1)]:Array qA)[0]? =some (.map (some p.1)):=rfl;have M:(getObj p.1).run P w= .ok (.map es cl) w:=by simp [getObj,Sem.run,X]
   simp only[builtin,Builtin.len_,D,j,aOr,aOC z,aOl,aOD,goInt,M];rw[<-O Y,aPi]
  cases hr
 .rename_i el by' ar ls_ l k;cases hr;obtain⟨v,hv,G⟩:=av hT hH hρ E;have z:=(t7 hT hst).2;simp only[xO] at z;have U:=xX G.1;refine rU.pure hH (v:= .int .i64 (List.length l:Int)) ?_ (wU _ _ _ _);subst U;obtain⟨cs,F⟩:=HE (a:=a) hT hH Q;rw[F,hv];have j:(#[Value.string ⟨List.toArray l⟩]:Array qA)[0]? =some (.string ⟨List.toArray l⟩):=rfl;simp only[builtin,Builtin.len_,D,j,aOr,aOC z,aOl,aOD,goInt];rfl
 .rename_i u el by' ar ls_ t l k;cases hr;obtain⟨v,hv,G⟩:=av hT hH hρ E;have z:=(t7 hT hst).2.1;obtain⟨ad,cap,rfl,_⟩:=FA G.1;refine rU.pure hH (v:= .int .i64 (List.length l:Int)) ?_ (wU _ _ _ _);obtain⟨cs,F⟩:=HE (a:=a) hT hH Q;rw[F,hv];have j:(#[Value.slice ad (List.length l) cap]:Array qA)[0]? =some (.slice ad (List.length l) cap):=rfl;simp only[builtin,Builtin.len_,D,j,aOr,aOC z,aOl,aOD,goInt]
 .rename_i u el by' ar ls_ ko n k;cases hr;obtain⟨v,hv,G⟩:=av hT hH hρ E;have z:=(t7 hT hst).2.1;obtain⟨ad,cap,rfl⟩: ∃ad cap,v= .slice ad n cap:=by
   rcases G.1.2 with⟨h,rfl⟩ |⟨b,cap,h,_⟩
   .exact⟨_,_,h⟩
   exact⟨_,_,h⟩
  refine rU.pure hH (v:= .int .i64 (n:Int)) ?_ (wU _ _ _ _);obtain⟨cs,F⟩:=HE (a:=a) hT hH Q;rw[F,hv];have j:(#[Value.slice ad n cap]:Array qA)[0]? =some (.slice ad n cap):=rfl;simp only[builtin,Builtin.len_,D,j,aOr,aOC z,aOl,aOD,goInt]
 cases hr
theorem Ee {args:Array Operand}{tys:Array TypeId}{mx:Bool}(G:o.op= .call ⟨.builtin (if mx then .max else .min),args,tys⟩) {ρ:Operand->qP}(hρ: ∀x∈args.toList,rZ g w (ρ x) (a.eval x)) {e:rA}
  (hr:B2 (ZO mx (w4 ρ args.toList))=some e):rU P o a g w H e:=by
 obtain⟨q,j,rfl⟩:=JM hr;generalize D:w4 ρ args.toList=ss at j;unfold ZO at j;split at j
 .rename_i k x k1 k' y k2;split at j
  .rename_i hk;subst hk;cases j;obtain⟨v,u,hv,F,E⟩:=aw hT hH hρ D;have e1:=vK F.1;have e2:=vK E.1;subst e1;subst e2;cases mx
   .refine rU.pure hH (v:= .int k (min (x:Int) y)) ?_ (wU _ _ _ _);obtain⟨cs,z⟩:=HE (a:=a) hT hH G;rw[z,hv];have:=a7l hT hH x y;simp [builtin,Builtin.min_,Builtin.min2,this]
   refine rU.pure hH (v:= .int k (max (x:Int) y)) ?_ (wU _ _ _ _);obtain⟨cs,z⟩:=HE (a:=a) hT hH G;rw[z,hv];have:=a7m hT hH x y;simp [builtin,Builtin.max_,Builtin.max2,this]
  cases j
 cases j
theorem a7o {f:FuncId}{caps:Array Operand}(F:o.op= .makeFunc (.func f) #[] caps) {ρ:Operand->qP}(hρ: ∀x∈caps.toList,rZ g w (ρ x) (a.eval x)) {e:rA}
  (hr:Cr f (LR (w4 ρ caps.toList))=some e):rU P o a g w H e:=by
 generalize G:LR (w4 ρ caps.toList)=oc at hr;cases oc with
 |none=>cases hr
 |some l=>
  cases hr;have key: ∀(xs:List Operand) (l:pT),(∀x∈xs,rZ g w (ρ x) (a.eval x))->LR (w4 ρ xs)=some l->yN g l (xs.map a.eval):=by
   intro xs
   induction xs with
   |nil=>intro l _ h;simp only[w4,LR,aOf] at h;subst h;rfl
   |cons x xs ih=>
    intro l z h;have h0:=z x pP;generalize E:ρ x=s at h0;simp only[w4,E] at h;obtain⟨d,k⟩:=s;unfold LR at h;split at h
    .cases ‹_=[]›
    .rename_i p k r heq;simp only[aO5,aOJ] at heq;obtain⟨⟨rfl,rfl⟩,rfl⟩:=heq;obtain⟨l',j,rfl⟩:=aOq.1 h;obtain⟨i,off⟩:=p;obtain⟨p,hp,hv⟩:=zH h0.1;exact⟨p,_,hp,by rw[aO7,hv],ih l' (λy D=>z y (by simp [D])) j⟩
    cases h
  refine rU.pure hH (v:= .func (.func f) #[] (caps.map a.eval)) ?_ (.inr ⟨rfl,caps.toList.map a.eval,key _ _ hρ G,by congr 2;apply aPn.1;simp⟩);simp [execOp,F,Instr.makeFunc]
end
theorem oa {α:Type}{l:List α}{m n:Int}(h0:0<=m) (z:m<=n) (j:n<=(l.length:Int)):(s8 l m n).length=n.toNat-m.toNat:=by
  unfold s8;rw[aO2,aON];omega
theorem Ef {α:Type}{R:α->pV->Prop}{c:Nat}: ∀{l:List α}{cs:pV}{i:Nat}{x:α},uV R c l cs->l[i]? =some x->∃c1 c2 c3,cs=c1++c2++c3/\c1.length=i*c/\c2.length=c/\R x c2
  | y::l,_,0,x,⟨c1,c2,e,j,D,z⟩,h=>by
    simp only[aOL,aOf] at h;subst h;exact⟨[],c1,c2,by simpa using e,by simp,j,D⟩
  | y::l,_,i+1,x,⟨c1,c2,e,j,D,z⟩,h=>by
    simp only[aOZ] at h;obtain⟨d1,d2,d3,e1,e2,e3,e4⟩:=Ef z h;exact⟨c1++d1,d2,d3,by rw[e,e1];simp,by rw[aOg,j,e2,aPd];omega,e3,e4⟩
theorem Eg {t:Ty}{l:List t.den}{i:Int}(h0:0<=i) (h:i.toNat<l.length):l[i.toNat]? =some (qI t l i):=by
  unfold qI;rw[aOF,aOn h];rfl
theorem RL {α:Type}{R:α->pV->Prop}{w:pZ}{S:Nat->Nat->Prop}{c b:Nat}: ∀{l:List α}{o:Nat}{cs:pV},uV R c l cs->w.rangeAt b o cs->(∀j,j<l.length*c->S b (o+j))->wH R w S c b o l
  |[],_,_,_,_,_=>trivial
  | x::l,o,cs,⟨c1,c2,e,D,G,F⟩,hr,z=>by
    subst e;refine⟨⟨c1,D,λj v hv=>hr j v (by rw[aOy (aOw.1 hv).1];exact hv),λj E=>z j (by rw[aOe,aPd];omega),G⟩,RL F (λj v hv=>?_) (λj E=>?_)⟩
    · have:=hr (c+j) v (by rw[aOp pN,D,aOW];exact hv)
      rwa [<-aOX] at this
    have:=z (c+j) (by rw[aOe,aPd];omega)
    rwa [<-aOX] at this
theorem oe {u0:Ty}{l:List u0.den}: ∀{t:Ty}{x:t.den}{q: Σ t:Ty,t.den},zT u0 l t x=some q->q.1.cells=t.cells:=by
  intro t
  induction t with
  | rl e u=>
    intro x q h;cases x with
    |none=>cases h
    | some p=>
      simp only[zT,lr] at h;split at h
      .cases h;rfl
      .cases h
  | pair a b iha ihb=>
    intro x q h;simp only[zT] at h;cases hf:BS a x.1 with
    | some p=>
      rw[hf] at h;cases j:zT u0 l a x.1 with
      |none=>rw[j] at h;cases h
      | some r=>
        obtain⟨a',x'⟩:=r;rw[j] at h;simp only[M1,aOf] at h;subst h;have:=iha j;simp only[Ty.cells] at this|-;omega
    | none=>
      rw[hf] at h;cases j:zT u0 l b x.2 with
      |none=>rw[j] at h;simp [M1] at h
      | some r=>
        obtain⟨b',y'⟩:=r;rw[j] at h;simp only[M1,aOf] at h;subst h;have:=ihb j;simp only[Ty.cells] at this|-;omega
  |_=>intro x q h;simp [zT] at h
theorem a7p {g:Gh}{w:pZ}{k n:Nat}{u0:Ty}{l:List u0.den}(hk: ∀cs,G3 g (some (k,n)) cs->Rd g w (.list u0) l cs): ∀{t:Ty}{x:t.den}{cs:pV}{q: Σ t:Ty,t.den},BS t x=some (k,n)->zT u0 l t x=some q->Rd g w t x cs->Rd g w q.1 q.2 cs:=by
  intro t
  induction t with
  | rl e u=>
    intro x cs q hf h r;simp only[BS] at hf;subst hf;simp only[zT,lr] at h;split at h
    · cases h
      exact hk _ r
    .cases h
  | pair a b iha ihb=>
    intro x cs q hf h r;obtain⟨c1,c2,e,r1,r2⟩:=r;simp only[BS] at hf;simp only[zT] at h;cases D:BS a x.1 with
    | some p=>
      rw[D] at h hf;simp only[lq,aOf] at hf;subst hf;cases j:zT u0 l a x.1 with
      |none=>rw[j] at h;cases h
      | some z=>
        obtain⟨a',x'⟩:=z;rw[j] at h;simp only[M1,aOf] at h;subst h;exact⟨c1,c2,e,iha D j r1,r2⟩
    | none=>
      rw[D] at h hf;simp only[lq] at hf;cases j:zT u0 l b x.2 with
      |none=>rw[j] at h;simp [M1] at h
      | some z=>
        obtain⟨b',y'⟩:=z;rw[j] at h;simp only[M1,aOf] at h;subst h;exact⟨c1,c2,e,r1,ihb hf j r2⟩
  |_=>intro x cs q hf;simp [BS] at hf
theorem a7q {g:Gh}{w:pZ}{H:sA}(hH:sM g w H) {k i:Nat}{e:TypeId}{t:Ty}{l:List t.den}{n:Nat}(hk:qU H k=some (.row e t l n)) {u:Ty}{x:u.den}{toks:pT}(hi:qU H i=some (.cells u x toks)) (hA:BS u x=some (k,n)) {q: Σ t:Ty,t.den}(hq:zT t l u x=some q):
    ∃ g',sM g' w (rL [(i,qQ.cells q.1 q.2 []),(k,qQ.grow e t.cells (List.length l))] H)/\g'.J=g.J/\
      ∀side s rds v,J6 rds=true->rZ g' w s v->zX g w H ⟨side,s,[(i,qQ.cells q.1 q.2 []),(k,qQ.grow e t.cells (List.length l))],rds⟩ g' w v:=by
  obtain⟨K,v,xs,hv,F,hF,U,R⟩:=hH.blk k _ hk
  let g':Gh:={g with S:=λb o=>g.S b o\/(v.ownBlock=some b/\o<n*t.cells)}
  have le:Le g w g' w:=⟨λ_ _ h=> .inl h,λ_ _ _=>rfl,λ_ _ h=>h,λ_ _ _ h=>h⟩;have E: ∀b,v.ownBlock=some b->∀o,sD g k (.row e t l n) b o:=λb hb o=>⟨v,hv,hb⟩
  have V: ∀u,g.cur k n=some u->((u= .slice none 0 0/\n=0)\/∃b cap,u= .slice (some ⟨b,0,none⟩) n cap/\n<=cap)->sS g' w (.list t) l u:=by
    intro u X M;rw[hv] at X;obtain rfl:=aOj X;rcases M with⟨rfl,h0⟩ |⟨b,cap,rfl,hh⟩
    · have:l=[]:=aOM (by rw[K,h0])
      subst this;exact .inr ⟨rfl,none,0,rfl,aOA _,.inl rfl⟩
    refine .inr ⟨rfl,some ⟨b,0,none⟩,cap,by rw[K],by rw[K];exact hh,.inr ⟨b,0,rfl,RL (CU (λ_ _ h=>xM le h) hF) (λj u X=>?_) (λj hj=>?_)⟩⟩
    · have:=F.cells (g:=b) rfl j u X
      rwa [aPp] at this
    right
    exact⟨rfl,by rw[K] at hj;omega⟩
  have hy:i≠k:=λe1=>by rw[e1,hk] at hi;cases hi
  obtain⟨p0,cs0,hc,hB,hd,O,he,_⟩:=hH.blk i _ hi
  let b':qQ:= .cells q.1 q.2 []
  let H':sA:=(i,b')::(k,qQ.grow e t.cells (List.length l))::H
  have Q: ∀i' b,qU H' i'=some b->(i'=i/\b=b')\/(i'=k/\b= .grow e t.cells (List.length l))\/(i'≠k/\i'≠i/\qU H i'=some b):=by
    intro i' b hb;simp only[H',qU] at hb;split at hb
    .rename_i e1;exact .inl ⟨e1.symm,(aOj hb).symm⟩
    rename_i e1
    split at hb
    .rename_i e2;exact .inr (.inl ⟨e2.symm,(aOj hb).symm⟩)
    rename_i e2;exact .inr (.inr ⟨Ne.symm e2,Ne.symm e1,hb⟩)
  have D: ∀i' b bb o,qU H' i'=some b->sD g' i' b bb o->∃b0,qU H i'=some b0/\sD g i' b0 bb o:=by
    intro i' b bb o hb I;rcases Q i' b hb with⟨rfl,rfl⟩ |⟨rfl,rfl⟩ |⟨_,_,Y⟩
    · obtain⟨p,hp,e1,e2,e3⟩:=I
      rw[oe hq] at e3;exact⟨_,hi,p,hp,e1,e2,e3⟩
    · obtain⟨u,X,hn⟩:=I
      have Z:g.cur i' (List.length l)=some u:=X;rw[K] at Z;exact⟨_,hk,u,Z,hn⟩
    exact⟨b,Y,(zY (g':=g') (g:=g) rfl rfl).1 I⟩
  have G:sM g' w H':=by
    refine⟨λi' b hb=>?_,λi' j bi bj b o hz Y h2 o1 o2=>?_,λb o z=>?_,hH.tab.1,λi' b bb oo hb I=>by
      obtain⟨c1,k1,k2⟩:=D i' b bb oo hb I;exact hH.tab.2 i' c1 bb oo k1 k2⟩
    · rcases Q i' b hb with⟨rfl,rfl⟩ |⟨rfl,rfl⟩ |⟨hw,_,Y⟩
      · have hx: ∀cs,G3 g' (some (k,n)) cs->Rd g' w (.list t) l cs:=by
          rintro cs ⟨v1,z1,z2,z3⟩;rw[z2];exact B9 rfl (V v1 z1 z3)
        refine⟨p0,cs0,hc,a7p (n:=n) hx hA hq (xM le hB),hd,?_,?_,λ_ _ hm=>by cases hm⟩
        .rw[oe hq];exact⟨O.1,O.2⟩
        rw[oe hq]
        intro j hj z;rcases z with z|z
        .exact he j hj z
        exact hH.dis i' k _ _ p0.1 (p0.2+j) hy hi hk ⟨p0,hc,rfl,pN,pN⟩ (E _ z.1 _)
      · refine⟨v,xs,by rw[K];exact hv,by rw[K];exact F,λm hm=>U m (by rw[K] at hm;exact hm),λb hb o z=>?_⟩
        rw[K];rcases z with z|z
        .exact absurd z (R b hb o)
        exact z.2
      exact RH (hH.blk i' b Y) le rfl rfl (λ_ _ _=>⟨rfl,rfl⟩) (λ_ _=>rfl) (λbb o I z=>by
         rcases z with z|z
         .exact z
         exact absurd (E bb z.1 o) (λh5=>hH.dis i' k b _ bb o hw Y hk I h5)) (λ_ _ _ _ h=>h)
    · obtain⟨c1,k1,k2⟩:=D i' bi b o Y o1
      obtain⟨c2,k3,k4⟩:=D j bj b o h2 o2;exact hH.dis i' j c1 c2 b o hz k1 k3 k2 k4
    rcases z with z|z
    .exact hH.sl b o z
    exact VV F z.1
  refine⟨g',G,rfl,λside s rds vv ht hs=>⟨le,hs,G,⟨rfl,rfl,rfl,aOA _,λ_ _ _=>rfl,λ_ _ _ _=>⟨rfl,rfl⟩,λb o z=>?_,λ_ _ h=> .inl h⟩,λi' blk b o hm hg I=>?_,λ_ _=>⟨rfl,rfl⟩,λh=>by rw[ht] at h;cases h⟩⟩
  · rcases z with z|z
    .exact .inl z
    exact .inr (.inr ⟨k,_,by simp [qW],hk,E b z.1 o⟩)
  obtain⟨b0,k1,k2⟩:=D i' blk b o hg I
  exact .inr ⟨i',b0,hm,k1,k2⟩
section
variable {P:Program}{o:Oper}{a:Act}{g:Gh}{w:pZ}{H:sA}{T:sJ}(hT:w6 P T) (hH:sM g w H)
include hT hH
theorem RN {t:TypeId}{ti:TI}(D:sY P t ti) {x:ti.ty.den}{b off:Nat}{cs:pV}(E:w.rangeAt b off cs) (G:Rd g w ti.ty x cs):
    ∃v,(Instr.loadAt t (.pointer (some ⟨b,off,none⟩))).run P w= .ok v w/\sS g w ti.ty x v/\v.cells.toList=cs:=by
  obtain⟨d,O,j⟩:=VY D;obtain⟨i,hi,M,_⟩:=HD D;have I:=sU G;by_cases hr:ti.ty.isRow=true
  .refine⟨.agg cs.toArray,run_loadAt_mid w b off t cs d E O (by rw[j,hr]) (by rw[hi,Option.map_some,M,I]),.inl ⟨hr,cs,rfl,G⟩,by simp [Value.cells]⟩
  have z:ti.ty.isRow=false:=by simpa using hr
  have R:ti.ty.cells=1:=by
    obtain⟨ty,el,by',ar,ls⟩:=ti;cases ty<;>first|rfl|(simp [Ty.isRow] at z)
  obtain⟨v,rfl⟩: ∃v,cs=[v]:=by rw[R] at I;exact aPx.1 I
  have K:=BU G v pP;refine⟨v,?_,.inr ⟨z,G⟩,by cases v<;>first|rfl|(simp [Value.oneCell'] at K)⟩
  have Q:w.cell? ⟨b,off,none⟩=some v:=by simpa using E 0 v rfl
  have F:(isAgg t).run P w= .ok false w:=by
    unfold isAgg;rw[aOr,aOC O w];rw[z] at j;cases d<;>simp_all [TypeDesc.isRow]
  simp [Instr.loadAt,Instr.sureAddr,loadVar,aOr,F,Q]
theorem MH {b off:Nat}{c1 c2 c3:pV}(h:w.rangeAt b off (c1++c2++c3)):w.rangeAt b (off+c1.length) c2:=λj v D=>by
  have:=h (c1.length+j) v (by
    have z:=(aOw.1 D).1;rw[aOk,aOp pN,aOW,aOy z];exact D)
  rw[aOX];exact this
theorem Eh {k n c:Nat}{i:Int}{o':Nat}{v:qA}(O:zG g w (.elt k n c i o') v) {e:TypeId}{t:Ty}{l:List t.den}{m:Nat}(hk:qU H k=some (.row e t l m)) (D:n=m) (Q:c=t.cells):
    ∃ b cap xs c1 c2 c3,v= .pointer (some ⟨b,i.toNat*c+o',none⟩)/\g.cur k m=some (.slice (some ⟨b,0,none⟩) m cap)/\w.ownsRow 0 e t.cells (.slice (some ⟨b,0,none⟩) m cap) m xs/\uV (Rd g w t) t.cells l xs/\l.length=m/\i.toNat<l.length/\0<=i/\
      xs=c1++c2++c3/\c1.length=i.toNat*c/\c2.length=c/\Rd g w t (qI t l i) c2:=by
  subst D;subst Q;obtain⟨b,cap,M,K,R,hv⟩:=O;obtain⟨G,v0,xs,j,z,I,F,E⟩:=hH.blk k _ hk;rw[M] at j;obtain rfl:=aOj j;have hi:i.toNat<l.length:=by rw[G];omega
  obtain⟨c1,c2,c3,e1,e2,e3,e4⟩:=Ef I (Eg K hi);exact⟨b,cap,xs,c1,c2,c3,hv,M,z,I,G,hi,K,e1,e2,e3,e4⟩
theorem a7r {e:TypeId}{c n:Nat}{q cap:Nat}{xs:pV}(h:w.ownsRow 0 e c (.slice (some ⟨q,0,none⟩) n cap) n xs):w.rangeAt q 0 xs:=λj u z=>by
  have:=h.cells (g:=q) rfl j u z;rwa [aPp] at this
theorem a7s {t:TypeId}{ti:TI}(hst:s4 T t=some ti) {k n c:Nat}{i:Int}{o':Nat}{vx:qA}(K:zG g w (.elt k n c i o') vx) {e:rA}(hr:VJ ti.ty k n c i o' (qU H k)=some e) (M: ∀p∈e.side,p):
    ∃v,(Instr.loadAt t vx).run P w= .ok v w/\rZ g w e.slot v/\e.upd=[]:=by
  generalize hk:qU H k=ob at hr;unfold VJ at hr;split at hr
  · rename_i e' t' l m
    split at hr
    · rename_i O
      generalize G:rT ti.ty t' (qI t' l i) o'=oy at hr;cases oy with
      |none=>cases hr
      | some y=>
        cases hr;have F:=M _ (aOs.2 rfl);obtain⟨b,cap,xs,c1,c2,c3,hv,I,E,V,U,hi,h0,e1,e2,e3,e4⟩:=Eh hT hH K hk F O;obtain⟨d1,d2,d3,f1,f2,f3⟩:=DX e4 G;have D:=a7r hT hH E;rw[e1] at D;have z:=MH hT hH D;rw[f1] at z;have j:=MH hT hH z;rw[aOO,e2,f2] at j;obtain⟨v,R,Q,_⟩:=RN hT hH (t7 hT hst) j f3;exact⟨v,by rw[hv];exact R,⟨Q,trivial⟩,rfl⟩
    cases hr
  cases hr
theorem og: ∀{toks:pT}{q k:Nat},xK toks q=some k->(q,k)∈toks
  |[],_,_,h=>by simp [xK] at h
  | (q',k')::r,q,k,h=>by
    simp only[xK] at h;split at h
    · rename_i e
      subst e;simp only[aOf] at h;subst h;simp
    exact aOu _ (og h)
theorem Ei {u v:Ty}: ∀{t:Ty}{x:t.den}{q:Nat}{l:List u.den}{y:v.den},rT (.list u) t x q=some l->rT v t x q=some y->v.isRow=false->∃h:v= .list u,uJ h y=l:=by
  intro t
  induction t with
  | pair s t ihs iht=>
    intro x q l y j z hv
    have key: ∀q,(if q<s.cells then rT (.list u) s x.1 q else rT (.list u) t x.2 (q-s.cells))=some l->(if q<s.cells then rT v s x.1 q else rT v t x.2 (q-s.cells))=some y->∃h:v= .list u,uJ h y=l:=by
      intro q j z;by_cases D:q<s.cells
      .rw[aOd D] at j z;exact ihs j z hv
      rw[aOi D] at j z;exact iht j z hv
    cases q with
    | zero=>
      have e1:Ty.pair s t≠.list u:=by intro h;cases h
      have e2:Ty.pair s t≠v:=by intro h;subst h;simp [Ty.isRow] at hv
      unfold rT at j z;rw[aPN e1] at j;rw[aPN e2] at z;exact key 0 aQf aQg
    |succ q=>exact key (q+1) (by simpa[rT] using j) (by simpa[rT] using z)
  | _=>
    intro x q l y j z hv;cases q with
    | zero=>
      unfold rT at j z;split at j
      · rename_i e1
        split at z
        · rename_i e2
          first
          |(cases e1;done)
          | (subst e2
             injection e1 with e1'
             subst e1';simp only[uJ,aOf] at j z;subst j;subst z;exact⟨rfl,rfl⟩)
        simp at z
      .simp at j
    |succ q=>simp [rT] at j
theorem a7t {t:TypeId}{ti:TI}(D:sY P t ti) (hr:ti.ty.isRow=false) {b off:Nat}{v:qA}(F:w.cell? ⟨b,off,none⟩=some v):
    (Instr.loadAt t (.pointer (some ⟨b,off,none⟩))).run P w= .ok v w:=by
  obtain⟨d,E,j⟩:=VY D
  have z:(isAgg t).run P w= .ok false w:=by
    unfold isAgg;rw[aOr,aOC E w];rw[hr] at j;cases d<;>simp_all [TypeDesc.isRow]
  simp [Instr.loadAt,Instr.sureAddr,loadVar,aOr,z,F]
omit hT hH in
theorem Ej {a b:Option rA}{e:rA}(h:Bo a b=some e):a=some e\/b=some e:=by
  cases a with
  |some r=>exact .inl h
  |none=>exact .inr h
omit hT hH in
theorem Ek {H:List (Nat×qQ)}{t:Ty}{i off:Nat}{b:Option qQ}{x:Option rA}{e:rA}(h:Cm H t i off b x=some e):x=some e\/(x=none/\JC H t i off b=some e):=by
  cases x with
  |some r=>exact .inl h
  |none=>exact .inr ⟨rfl,h⟩
theorem a7u {t:TypeId}{ti:TI}{x:Operand}(O:o.op= .load t x) (M:s4 T t=some ti) {i off:Nat}(K:sS g w .ref (some (i,off)) (a.eval x)) {e:rA}(hr:Z6 i off ti (qU H i)=some e):rU P o a g w H e:=by
  have D:=t7 hT M;generalize hb:qU H i=ob at hr;unfold Z6 at hr;split at hr
  · rename_i u el _ _ _ v x' toks
    generalize G:rT (.rl el u) v x' off=oy at hr;unfold ln at hr;split at hr
    · rename_i k n
      cases hr;obtain⟨p,hp,hv⟩:=zH K;obtain⟨p',cs,j,R,F,_⟩:=hH.blk i _ hb;rw[hp] at j;obtain rfl:=aOj j;obtain⟨c1,c2,c3,rfl,rfl,I⟩:=DX R G;obtain⟨v0,z,rfl,E⟩:=I;have Q:w.cell? ⟨p.1,p.2+c1.length,none⟩=some v0:=by simpa using MH hT hH F 0 _ rfl
      have U:=a7t (P:=P) hT hH D rfl Q;exact rU.value (v:=v0) (g':=g) (w':=w) (by simp only[execOp,O,hv,aOr,U,aOl,aOD]) (.pure hH ⟨⟨z,E⟩,trivial⟩)
    cases hr
  cases hr
theorem a7v {t:TypeId}{ti:TI}{x:Operand}(V:o.op= .load t x) (U:s4 T t=some ti) {i off:Nat}(R:sS g w .ref (some (i,off)) (a.eval x)) {e:rA}(hr:JC H ti.ty i off (qU H i)=some e) (D: ∀p∈e.side,p):rU P o a g w H e:=by
  have G:=t7 hT U;generalize hb:qU H i=ob at hr;unfold JC at hr;split at hr
  case h_2=>cases hr
  rename_i v z toks;generalize hf:BS v z=of at hr;cases of with
  |none=>cases hr
  | some kn=>
    obtain⟨k,n0⟩:=kn;simp only[Z8] at hr;generalize hk:qU H k=ok at hr;unfold Z7 at hr;split at hr
    case h_2=>cases hr
    rename_i el u0 l m;generalize Q:zT u0 l v z=oq at hr;cases oq with
    |none=>cases hr
    |some q=>
    obtain⟨v',x'⟩:=q;simp only[lv] at hr;generalize M:rT ti.ty v' x' off=oy at hr;cases oy with
    |none=>cases hr
    | some y=>
      simp only[lu,aOf] at hr;subst hr;have K:n0=m:=D _ (aOs.2 rfl);subst K;obtain⟨g',j,Y,F⟩:=a7q hH hk hb hf Q;obtain⟨p,hp,hv⟩:=zH R;obtain⟨p',cs,E,X,I,_,_,_⟩:=j.blk i (.cells v' x' []) (by simp [rL,qU]);rw[Y,hp] at E;obtain rfl:=aOj E;obtain⟨c1,c2,c3,rfl,rfl,O⟩:=DX X M;obtain⟨v0,h1,Z,_⟩:=RN hT j G (MH hT j I) O;exact rU.valueW (v:=v0) (g':=g') (w':=w) (by simp only[execOp,V,hv,aOr,h1,aOl,aOD]) (F _ _ _ _ rfl ⟨Z,trivial⟩)
omit hT hH in
theorem El {t u:Ty}{x:u.den}{c:Nat}: ∀{m off:Nat}{l:List t.den},M3 t u x off c m=some l->l.length=m/\∀k y,l[k]? =some y->rT t u x (off+k*c)=some y
  | 0,off,l,h=>by
    simp only[M3,aOf] at h;subst h;exact⟨rfl,λk y j=>by simp at j⟩
  | m+1,off,l,h=>by
    unfold M3 at h;cases z:rT t u x off with
    |none=>rw[z] at h;simp [Z9] at h
    | some a=>
      cases D:M3 t u x (off+c) c m with
      |none=>rw[z,D] at h;simp [Z9] at h
      | some r=>
        rw[z,D] at h;simp only[Z9,aOf] at h;subst h;obtain⟨i1,i2⟩:=El D;refine⟨by simp [i1],λk y j=>?_⟩;cases k with
        |zero=>simp at j;subst j;simpa using z
        | succ k=>
          have:=i2 k y aQf;rw[aPd,show off+(k*c+c)=off+c+k*c from by omega];exact this
theorem a7w {t:TypeId}{x:Operand}(U:o.op= .load t x) {sx:qP}(M:rZ g w sx (a.eval x)) {e:rA}(hr:ZA H (s4 T t) sx=some e) (F: ∀p∈e.side,p):rU P o a g w H e:=by
  generalize R:s4 T t=ot at hr;replace M:=M.1;unfold ZA at hr;split at hr
  · rename_i ti k n c i o' _
    obtain⟨v,O,G,V⟩:=a7s hT hH R M hr F;obtain⟨side,slot,upd,rds⟩:=e;simp only at G V;subst V;exact rU.value (v:=v) (g':=g) (w':=w) (by simp only[execOp,U,aOr,O,aOl,aOD]) (.pure hH G)
  · rename_i ti i off t m ix k
    split at hr
    · rename_i Q
      subst Q;have j:=t7 hT R;generalize hb:qU H i=ob at hr;unfold lw at hr;split at hr
      · rename_i u z toks
        generalize I:M3 ti.ty u z off ti.ty.cells m=ol at hr;cases ol with
        |none=>cases hr
        | some l=>
          cases hr;obtain⟨p,hp,k0,k1,hv⟩:=M;obtain⟨p',cs,E,X,D,_,_,Y⟩:=hH.blk i _ hb;rw[hp] at E;obtain rfl:=aOj E;obtain⟨hl,hd⟩:=El I;have hg:ix.toNat<l.length:=by omega
          have hh:=hd ix.toNat _ (Eg k0 hg);obtain⟨c1,c2,c3,rfl,e1,K⟩:=DX X hh;obtain⟨v,O,G,V⟩:=RN hT hH j (MH hT hH D) K;rw[e1,<-aOX] at O;exact rU.value (v:=v) (g':=g) (w':=w) aQj (.pure hH ⟨G,trivial⟩)
      cases hr
    cases hr
  · rename_i ti u y k
    split at hr
    · rename_i hu
      subst hu;cases hr;have j:=t7 hT R;obtain⟨b,off,cs,hv,D,hS,X⟩:=M;obtain⟨v,O,G,_⟩:=RN hT hH j D X;exact rU.pure hH (v:=v) aQj G
    cases hr
  · rename_i ti i off k
    rcases Ek hr with hr|⟨_,hr⟩
    case inr=>exact a7v hT hH U R M hr F
    rcases Ej hr with hr|hr
    case inr=>exact a7u hT hH U R M hr
    have j:=t7 hT R;generalize hb:qU H i=ob at hr;unfold VI at hr;split at hr
    · rename_i u z toks
      generalize I:rT ti.ty u z off=oy at hr;cases oy with
      |none=>cases hr
      | some y=>
        cases hr;obtain⟨p,hp,hv⟩:=zH M;obtain⟨p',cs,E,X,D,_,_,Y⟩:=hH.blk i _ hb;rw[hp] at E;obtain rfl:=aOj E;obtain⟨c1,c2,c3,rfl,rfl,K⟩:=DX X I;obtain⟨v,O,G,V⟩:=RN hT hH j (MH hT hH D) K;refine rU.value (v:=v) (g':=g) (w':=w) aQj (.pure hH ⟨G,?_⟩);obtain⟨ty,el,by',ar,ls⟩:=ti;cases ty with
        | list u'=>
          simp only[FY];generalize Q:xK toks c1.length=ok;cases ok with
          |none=>trivial
          | some k=>
            obtain⟨u2,l,v',g1,g2,g3⟩:=Y _ _ (og hT hH Q);obtain⟨heq,hl⟩:=Ei hT hH g1 I rfl;injection heq with he
            subst he;have hc:=sU K;obtain⟨v2,rfl⟩:=aPx.1 hc
            have e2:v'=v2:=by
              have e:(c1++[v2]++c3)[c1.length]? =some v2:=by simp
              rw[e] at g2;exact(aOj g2).symm
            have e3:v=v2:=by
              have h4:=B9 rfl G;have Z:=BU h4 v pP;have:v.cells= #[v]:=by cases v<;>first|rfl|(simp [Value.oneCell'] at Z)
              rw[this] at V;simpa using V
            subst e2;subst e3;have e4:(y:List u'.den)=l:=hl;subst e4;exact g3
        |_=>trivial
    cases hr
  cases hr
theorem RO {ρ:Operand->qP}{x:Option Operand}{n m:Int}(hρ: ∀y∈x.toList,rZ g w (ρ y) (a.eval y)) (h:CG (wS ρ x) n=some m):(x=none/\m=n)\/∃y k,x=some y/\a.eval y= .int k m:=by
  cases x with
  |none=>simp only[wS,CG,aOf] at h;exact .inl ⟨rfl,h.symm⟩
  | some y=>
    have h0:=hρ y pP;simp only[wS] at h;unfold CG at h;split at h
    .cases ‹some _=none›
    · rename_i k q kk heq
      simp only[aOf] at heq h;rw[heq] at h0;subst h;exact .inr ⟨y,k,rfl,vK h0.1⟩
    cases h
theorem oh {isSlice:Bool}{len cap:Nat}{lo hi:Option Operand}{m n:Int}(j:(lo=none/\m=0)\/∃y k,lo=some y/\a.eval y= .int k m) (D:(hi=none/\n=(len:Int))\/∃y k,hi=some y/\a.eval y= .int k n)
    (h0:0<=m) (G:m<=n) (K:n<=(len:Int)) (I:len<=cap):(Instr.sliceBounds isSlice len cap (lo.map a.eval) (hi.map a.eval) none).run P w= .ok (m.toNat,n.toNat,cap) w:=by
  have e1:(n.toNat:Int)=n:=Int.toNat_of_nonneg pN;rcases j with⟨rfl,rfl⟩ |⟨y,k,rfl,F⟩<;>rcases D with⟨rfl,rfl⟩ |⟨z,k',rfl,E⟩
  .simp [Instr.sliceBounds]
  .simp [Instr.sliceBounds,E,run_sliceBound,(by omega:0<=n),(by omega:n<=(cap:Int))]
  .simp [Instr.sliceBounds,F,run_sliceBound,h0,G]
  simp [Instr.sliceBounds,F,E,run_sliceBound,(by omega:0<=n),(by omega:n<=(cap:Int)),e1,h0,G]
theorem a7x {t:TypeId}{x:Operand}{lo hi:Option Operand}(Y:o.op= .slice t x lo hi none) {ρ:Operand->qP}(F:rZ g w (ρ x) (a.eval x)) (G: ∀y∈lo.toList,rZ g w (ρ y) (a.eval y)) (I: ∀y∈hi.toList,rZ g w (ρ y) (a.eval y)) {e:rA}
    (hr:B2 (kj (s4 T t) (ρ x) (wS ρ lo) (wS ρ hi))=some e) (X: ∀p∈e.side,p):rU P o a g w H e:=by
  obtain⟨q,j,rfl⟩:=JM hr;replace F:=F.1;generalize hst:s4 T t=ot at j;generalize hd:ρ x=sx at j F;unfold kj at j;split at j
  · rename_i el by' ar ls_ l k
    generalize E:CG (wS ρ lo) 0=o1 at j;generalize D:CG (wS ρ hi) (List.length l)=o2 at j;unfold YP at j;split at j
    · rename_i m n
      cases j;obtain⟨k1,k2,k3⟩:=X _ (aOs.2 rfl);have M:=(t7 hT hst).2;simp only[xO] at M;have hv:=xX F;have z:=oh (P:=P) (isSlice:=false) (cap:=List.length l) hT hH (RO hT hH G E) (RO hT hH I D) k1 k2 k3 (aOA _);refine rU.pure hH (v:= .string ⟨(s8 l m n).toArray⟩) ?_ (BV _ _ _);have Q:(⟨List.toArray l⟩:ByteArray).size=List.length l:=by simp [ByteArray.size]
      have K:(⟨List.toArray l⟩:ByteArray).extract m.toNat n.toNat=⟨(s8 l m n).toArray⟩:=by
        apply ByteArray.ext;apply aPn.1;simp [s8]
      simp only[execOp,Y,hv,Option.map_none,Instr.sliceAt,Instr.slice,aOr,aOC M,aOl,Option.isSome_none,aOT,aPq,Q,z,K,aOD]
    cases j
  · rename_i u el by' ar ls_ t1 l k
    split at j
    · rename_i O
      subst O;generalize E:CG (wS ρ lo) 0=o1 at j;generalize D:CG (wS ρ hi) (List.length l)=o2 at j;unfold YP at j;split at j
      · rename_i m n
        cases j;obtain⟨k1,k2,k3⟩:=X _ (aOs.2 rfl);obtain⟨M,h3,_⟩:=(t7 hT hst).2;obtain⟨ei,U,V⟩:=aOq.1 h3;simp only[aOJ] at V;obtain⟨ad,cap,hv,R,Z⟩:=FA F;have z:=oh (P:=P) (isSlice:=true) (cap:=cap) hT hH (RO hT hH G E) (RO hT hH I D) k1 k2 k3 R;refine rU.pure hH (v:= .slice (if cap=m.toNat then ad else ad.map (·.add (m.toNat*t1.cells))) (n.toNat-m.toNat) (cap-m.toNat)) ?_ (.inr ⟨rfl,(if cap=m.toNat then ad else ad.map (·.add (m.toNat*t1.cells))),cap-m.toNat,?_,?_,?_⟩)
        .simp only[execOp,Y,hv,Option.map_none,Instr.sliceAt,Instr.slice,aOr,aOC M,aOl,z,sizeOf,typeInfo,aPe,U,V.1,aOD]
        .rw[oa k1 k2 k3]
        .rw[oa k1 k2 k3];omega
        rcases Z with rfl|⟨b,off,rfl,hL⟩
        .exact .inl (by simp [s8])
        by_cases hc:cap=m.toNat
        · left
          apply aOM;rw[oa k1 k2 k3];omega
        right
        rw[aOi hc];refine⟨b,off+m.toNat*t1.cells,by simp [aPp],?_⟩;exact Dw _ (Dv _ hL pN)
      cases j
    cases j
  cases j
end
theorem oj {α:Type}{R:α->pV->Prop}{c:Nat}(j: ∀x cs,R x cs->∀v∈cs,v.oneCell'=true): ∀{l:List α}{cs:pV},uV R c l cs->∀v∈cs,v.oneCell'=true
 |[],_,h=>by rw[h];simp
 |_::_,_,⟨c1,c2,e,_,D,z⟩=>by
  subst e;intro v hv;rcases aOR.1 hv with h|h
  .exact j _ _ D v h
  exact oj j z v h
theorem az {α:Type}{R:α->pV->Prop}{c:Nat}: ∀{l:List α}{cs cy:pV}{i:Nat}{y:α},uV R c l cs->R y cy->cy.length=c->i<l.length->
  ∃c1 c2 c3,cs=c1++c2++c3/\c1.length=i*c/\c2.length=c/\uV R c (l.set i y) (c1++cy++c3)
 |[],_,_,_,_,_,_,_,h=>by simp at h
 |_::l,_,cy,0,y,⟨c1,c2,e,j,_,E⟩,z,D,_=>⟨[],c1,c2,by simpa using e,by simp,j,⟨cy,c2,by simp,D,z,E⟩⟩
 |x::l,_,cy,i+1,y,⟨c1,c2,e,j,F,E⟩,z,D,hi=>by
  obtain⟨d1,d2,d3,e1,e2,e3,e4⟩:=az E z D (by simpa using hi);refine⟨c1++d1,d2,d3,by rw[e,e1];simp,by rw[aOg,j,e2,aPd];omega,e3,⟨c1,d1++cy++d3,by simp,j,F,e4⟩⟩
theorem W0 {α:Type}{R:α->pV->Prop}{w:pZ}{S:Nat->Nat->Prop}{c b:Nat}: ∀{l:List α}{o:Nat},wH R w S c b o l->∃cs,uV R c l cs/\w.rangeAt b o cs/\∀j,j<l.length*c->S b (o+j)
 |[],o,_=>⟨[],rfl,λj v h=>by simp at h,λj h=>by simp at h⟩
 |x::l,o,⟨⟨c1,E,K,I,G⟩,F⟩=>by
  obtain⟨c2,k1,k2,k3⟩:=W0 F;refine⟨c1++c2,⟨c1,c2,rfl,E,G,k1⟩,λj v hv=>?_,λj D=>?_⟩
  .by_cases D:j<c
   .exact K j v (by rwa [aOy pN] at hv)
   have:=k2 (j-c) v (by rw[aOp pN,E] at hv;exact hv);rwa [show o+c+(j-c)=o+j from by omega] at this
  by_cases z:j<c
  .exact I j z
  have:=k3 (j-c) (by rw[aOe,aPd] at D;omega);rwa [show o+c+(j-c)=o+j from by omega] at this
theorem Em {g:Gh}{w:pZ}{t:Ty}: ∀n,uV (Rd g w t) t.cells (DQ t n) (List.flatten (List.replicate n (uS t)))
 |0=>rfl
 |n+1=>⟨uS t,_,rfl,sU (F8 g w t),F8 g w t,Em n⟩
theorem En (t:Ty): ∀n,(DQ t n).length=n
 |0=>rfl
 |n+1=>by simp [DQ,En t n]
def Gh.tok (g:Gh) (k n:Nat) (v:qA):Gh:={g with cur:=λk' n'=>if k'=k/\n'=n then some v else g.cur k' n'}
def Gh.var (g:Gh) (i b:Nat) (k:Option (TypeId×Nat)):Gh:={g with J:=λi'=>if i'=i then some ⟨b,0,k⟩ else g.J i'}
def Gh.shut (g:Gh) (b m:Nat):Gh:={g with S:=λb' o=>g.S b' o\/(b'=b/\o<m)}
section
variable {g:Gh}{w:pZ}{H:sA}(hH:sM g w H)
include hH
theorem sE.nilTok {side:List Prop}{d:DV}{rds:pY}{base e c:Nat}{u:Ty}(M:d= .val (.list u) []) (hf: ∀n,g.cur base n=none):
  sE g w H ⟨side,(d,some base),[(base,.grow e c 0)],rds⟩ (g.tok base 0 (.slice none 0 0)) w (.slice none 0 0):=by
 have le:Le g w (g.tok base 0 (.slice none 0 0)) w:=⟨λ_ _ h=>h,λ_ _ _=>rfl,λ_ _ h=>h,λk n v h=>by
  show (if k=base/\n=0 then _ else _)=_;rw[aOi (λ⟨e1,_⟩=>by rw[e1,hf] at h;cases h)];exact h⟩
 have fr:Fr (sX g H (qW [(base,qQ.grow e c 0)])) w w g.S (g.tok base 0 (.slice none 0 0)).S:= .refl _ _ _;have gho: ∀i,i∉qW [(base,qQ.grow e c 0)]->(g.tok base 0 (.slice none 0 0)).J i=g.J i/\(g.tok base 0 (.slice none 0 0)).cur i=g.cur i:=λi hi=>⟨rfl,by
  funext n;show (if i=base/\n=0 then _ else _)=_;rw[aOi (λ⟨e1,_⟩=>hi aQk)]⟩
 have cur0:(g.tok base 0 (.slice none 0 0)).cur base 0=some (.slice none 0 0):=by simp [Gh.tok]
 have own: ∀i blk b o,i∈qW [(base,qQ.grow e c 0)]->qU (rL [(base,qQ.grow e c 0)] H) i=some blk->¬sD (g.tok base 0 (.slice none 0 0)) i blk b o:=by
  intro i blk b o hi z K;simp only[qW,aOs] at hi;subst hi;simp only[rL,qU,aPl,aOf] at z;subst z;obtain⟨v,hv,hb⟩:=K;rw[cur0] at hv;obtain rfl:=aOj hv;cases hb
 subst M;refine⟨le,⟨.inr ⟨rfl,none,0,rfl,aOA _,.inl rfl⟩,cur0⟩,hH.upd le fr (λi blk b o F E D=>absurd D (own i blk b o F E)) gho (λi blk hi z=>?_) (λi j bi bj b o hi U Q I R G O=>own i bi b o hi I G) hH.sl,fr,λi blk b o F E D=>absurd D (own i blk b o F E),gho,λi u' y us h=>by
  simp only[rL,qU] at h;split at h
  .cases h
  exact .inl ⟨y,us,h⟩⟩
 simp only[qW,aOs] at hi;subst hi;simp only[rL,qU,aPl,aOf] at z;subst z;refine⟨.slice none 0 0,[],cur0,World.ownsRow_nil w 0 e c,λm hm=>?_,λb hb=>by cases hb⟩;show (if i=i/\m=0 then _ else _)=_;rw[aOi pN];exact hf m
theorem sE.row {side:List Prop}{rds:pY}{s:qP}{val:qA}{k:Nat}{e:TypeId}{t:Ty}{l:List t.den}{n:Nat}{v:qA}{xs:pV}{w':pZ}
  (hl:l.length=n) (Y:w'.ownsRow 0 e t.cells v n xs) (hF:uV (Rd g w t) t.cells l xs) (Q: ∀m,n<m->g.cur k m=none) (Z: ∀u,g.cur k n=some u->u=v)
  (z:w.grownBy w' (v.ownBlock)\/∃q,w.grownBy w' q/\∀b,q=some b->∀o,sX g H [k] b o)
  (R: ∀b o,g.S b o->w'.cell? ⟨b,o,none⟩=w.cell? ⟨b,o,none⟩)
  (O: ∀b,v.ownBlock=some b->∀o,¬g.S b o)
  (D: ∀b,v.ownBlock=some b->w.heap.size<=b\/∀o,sX g H [k] b o)
  (M:rZ (g.tok k n v) w' s val):sE g w H ⟨side,s,[(k,.row e t l n)],rds⟩ (g.tok k n v) w' val:=by
 have le:Le g w (g.tok k n v) w':=⟨λ_ _ h=>h,λb o h=>R b o h,λ_ _ h=>h,λk' n' v' h=>by
  show (if k'=k/\n'=n then _ else _)=_;by_cases hk:k'=k/\n'=n
  .obtain⟨rfl,rfl⟩:=hk;rw[aOd ⟨rfl,rfl⟩,Z _ h]
  rw[aOi hk];exact h⟩
 have cur1:(g.tok k n v).cur k n=some v:=by simp [Gh.tok]
 have hc: ∀b,b<w.heap.size->(∀o,¬sX g H (qW [(k,qQ.row e t l n)]) b o)->w'.heap[b]? =w.heap[b]? :=by
  intro b hb E;rcases z with z|⟨q,z,V⟩
  .refine z.block b hb (λe1=>?_);rcases D b e1.symm with h|h
   .omega
   exact E 0 (h 0)
  exact z.block b hb (λe1=>E 0 (V b e1.symm 0))
 have F:w'.os=w.os/\w'.tape=w.tape/\w'.output=w.output/\w.heap.size<=w'.heap.size:=by
  rcases z with z|⟨q,z,_⟩
  .exact⟨z.os,z.tape,z.output,z.size⟩
  exact⟨z.os,z.tape,z.output,z.size⟩
 have hn: ∀b o,sX g H (qW [(k,qQ.row e t l n)]) b o->True:=λ_ _ _=>trivial;have I: ∀b o,b<w.heap.size->¬sX g H (qW [(k,qQ.row e t l n)]) b o->(w'.cell? ⟨b,o,none⟩=w.cell? ⟨b,o,none⟩/\w'.frozen? ⟨b,o,none⟩=w.frozen? ⟨b,o,none⟩):=by
  intro b o hb E;have:w'.heap[b]? =w.heap[b]? :=by
   rcases z with z|⟨q,z,V⟩
   .refine z.block b hb (λe1=>?_);rcases D b e1.symm with h|h
    .omega
    exact E (h o)
   exact z.block b hb (λe1=>E (V b e1.symm o))
  exact⟨aOH (a:=⟨b,o,none⟩) this,aPb (a:=⟨b,o,none⟩) this⟩
 have G: ∀b s,w.shape? b=some s->w'.shape? b=some s\/∀o,sX g H (qW [(k,qQ.row e t l n)]) b o:=by
  intro b s U;rcases z with z|⟨q,z,V⟩
  .by_cases e1:v.ownBlock=some b
   .rcases D b e1 with h|h
    .have:=F6 U;omega
    exact .inr h
   exact .inl ((F7 (z.block b (F6 U) (λh=>e1 h.symm))).trans U)
  by_cases e1:q=some b
  .exact .inr (V b e1)
  exact .inl ((F7 (z.block b (F6 U) (λh=>e1 h.symm))).trans U)
 have fr:Fr (sX g H (qW [(k,qQ.row e t l n)])) w w' g.S (g.tok k n v).S:=⟨F.1,F.2.1,F.2.2.1,F.2.2.2,hc,I,λb o h=> .inl h,G⟩;have gho: ∀i,i∉qW [(k,qQ.row e t l n)]->(g.tok k n v).J i=g.J i/\(g.tok k n v).cur i=g.cur i:=λi hi=>⟨rfl,by
  funext n';show (if i=k/\n'=n then _ else _)=_;rw[aOi (λ⟨e1,_⟩=>hi aQk)]⟩
 have get: ∀i blk,i∈qW [(k,qQ.row e t l n)]->qU (rL [(k,qQ.row e t l n)] H) i=some blk->i=k/\blk= .row e t l n:=by
  intro i blk hi z;simp only[qW,aOs] at hi;subst hi;simp only[rL,qU,aPl,aOf] at z;exact⟨rfl,z.symm⟩
 have perm: ∀i blk b o,i∈qW [(k,qQ.row e t l n)]->qU (rL [(k,qQ.row e t l n)] H) i=some blk->sD (g.tok k n v) i blk b o->w.heap.size<=b\/sX g H (qW [(k,qQ.row e t l n)]) b o:=by
  intro i blk b o hi K ho;obtain⟨rfl,rfl⟩:=get i blk hi K;obtain⟨v',X,hb⟩:=ho;rw[cur1] at X;obtain rfl:=aOj X;exact(D b hb).imp id (λh=>h o)
 refine⟨le,M,hH.upd le fr perm gho (λi blk hi K=>?_) (λi j bi bj b o hi hj hd hh he _ _=>hd ((get i bi hi hh).1.trans (get j bj hj he).1.symm)) (λb o h=>aOS (hH.sl b o h) F.2.2.2),fr,perm,gho,λi u' y us h=>by
  simp only[rL,qU] at h;split at h
  .cases h
  exact .inl ⟨y,us,h⟩⟩
 obtain⟨rfl,rfl⟩:=get i blk hi K;refine⟨hl,v,xs,cur1,Y,CU (λ_ _ h=>xM le h) hF,λm hm=>?_,O⟩;show (if i=i/\m=n then _ else _)=_;rw[aOi pN];exact Q m hm
theorem sE.cutRow {side:List Prop}{rds:pY}{k base:Nat}{e:TypeId}{t:Ty}{l l':List t.den}{n m:Nat}{v v':qA}{xs:pV}(hk:qU H k=some (.row e t l n)) (hv:g.cur k n=some v) (he:m<=n) (I:w.ownsRow 0 e t.cells v' m xs) (hF:uV (Rd g w t) t.cells l' xs) (hl:l'.length=m)
  (hJ:g.J base=none) (O: ∀j,g.cur base j=none) (G: ∀q,v'.ownBlock=some q->v.ownBlock=some q) (Q: ∀b,v.ownBlock=some b->∀o,¬g.S b o) (z:(v'= .slice none 0 0/\m=0)\/∃b cap,v'= .slice (some ⟨b,0,none⟩) m cap/\m<=cap):
  sE g w H ⟨side,(.own base m,none),[(k,.dead),(base,.row e t l' m)],rds⟩ (g.tok base m v') w v':=by
 have hh:base≠k:=λh=>by have F:=O n;rw[h,hv] at F;cases F
 have le:Le g w (g.tok base m v') w:=⟨λ_ _ h=>h,λ_ _ _=>rfl,λ_ _ h=>h,λk' n' u h=>by
  show (if k'=base/\n'=m then _ else _)=_;rw[aOi (λ⟨e1,_⟩=>by rw[e1,O] at h;cases h)];exact h⟩
 have cur1:(g.tok base m v').cur base m=some v':=by simp [Gh.tok]
 have hd:qW [(k,qQ.dead),(base,qQ.row e t l' m)]=[k,base]:=rfl;have fr:Fr (sX g H (qW [(k,qQ.dead),(base,qQ.row e t l' m)])) w w g.S (g.tok base m v').S:=⟨rfl,rfl,rfl,aOA _,λ_ _ _=>rfl,λ_ _ _ _=>⟨rfl,rfl⟩,λb o h=> .inl h,λb s h=> .inl h⟩;have gho: ∀i,i∉qW [(k,qQ.dead),(base,qQ.row e t l' m)]->(g.tok base m v').J i=g.J i/\(g.tok base m v').cur i=g.cur i:=λi hi=>⟨rfl,by
  funext n';show (if i=base/\n'=m then _ else _)=_;rw[aOi (λ⟨e1,_⟩=>hi aQk)]⟩
 have get: ∀i blk,i∈qW [(k,qQ.dead),(base,qQ.row e t l' m)]->qU (rL [(k,qQ.dead),(base,qQ.row e t l' m)] H) i=some blk->(i=k/\blk= .dead)\/(i=base/\blk= .row e t l' m):=by
  intro i blk hi E;simp only[rL,qU] at E;by_cases M:k=i
  .rw[aOd M] at E;exact .inl ⟨M.symm,(aOj E).symm⟩
  rw[aOi M] at E;simp only[qW,aOv,aPr,or_false] at hi;have F:i=base:=hi.resolve_left (λh=>M h.symm);rw[aOd F.symm] at E;exact .inr ⟨F,(aOj E).symm⟩
 have perm: ∀i blk b o,i∈qW [(k,qQ.dead),(base,qQ.row e t l' m)]->qU (rL [(k,qQ.dead),(base,qQ.row e t l' m)] H) i=some blk->sD (g.tok base m v') i blk b o->w.heap.size<=b\/sX g H (qW [(k,qQ.dead),(base,qQ.row e t l' m)]) b o:=by
  intro i blk b o hi D K;rcases get i blk hi D with⟨rfl,rfl⟩ |⟨rfl,rfl⟩
  .exact K.elim
  obtain⟨u,Y,hb⟩:=K;rw[cur1] at Y;obtain rfl:=aOj Y;exact .inr ⟨k,_,by simp [qW],hk,v,hv,G b hb⟩
 refine⟨le,⟨⟨cur1,z⟩,trivial⟩,hH.upd le fr perm gho (λi blk hi D=>?_) (λi j bi bj b o hi Z U X V K R=>?_) (λb o h=>hH.sl b o h),fr,perm,gho,λi u' y us h=>?_⟩
 .rcases get i blk hi D with⟨rfl,rfl⟩ |⟨rfl,rfl⟩
  .trivial
  refine⟨hl,v',xs,cur1,I,CU (λ_ _ h=>xM le h) hF,λj Z=>?_,λb hb=>Q b (G b hb)⟩;show (if i=i/\j=m then _ else _)=_;rw[aOi pN];exact O j
 .rcases get i bi hi X with⟨rfl,rfl⟩ |⟨rfl,rfl⟩
  .exact K.elim
  rcases get j bj Z V with⟨rfl,rfl⟩ |⟨rfl,rfl⟩
  .exact R.elim
  exact U rfl
 simp only[rL,qU] at h;split at h
 .cases h
 split at h
 .cases h
 exact .inl ⟨y,us,h⟩
theorem sE.newVarJ {side:List Prop}{rds:pY}{base:Nat}{t:Ty}{x:t.den}{toks:pT}{cs:pV}{e:TypeId}(O:Rd (g.var base w.heap.size (some (e,cs.length))) w t x cs) (F:HC g t x cs toks) (hf:g.J base=none) (R:g.cur base=λ_=>none):
  sE g w H ⟨side,(.val .ref (some (base,0)),none),[(base,.cells t x toks)],rds⟩ (g.var base w.heap.size (some (e,cs.length))) (w.alloc (.cells cs.toArray e)) (.pointer (some ⟨w.heap.size,0,none⟩)):=by
 have E:(g.var base w.heap.size (some (e,cs.length))).J base=some ⟨w.heap.size,0,some (e,cs.length)⟩:=by simp [Gh.var]
 have le:Le g w (g.var base w.heap.size (some (e,cs.length))) (w.alloc (.cells cs.toArray e)):=⟨λ_ _ h=>h,λb o h=>aOH (a:=⟨b,o,none⟩) (aOK _ _ _ (hH.sl b o h)),λi p h=>by
  show (if i=base then _ else _)=_;rw[aOi (λe1=>by rw[e1,hf] at h;cases h)];exact h,λ_ _ _ h=>h⟩
 have le2:Le (g.var base w.heap.size (some (e,cs.length))) w (g.var base w.heap.size (some (e,cs.length))) (w.alloc (.cells cs.toArray e)):=⟨λ_ _ h=>h,λb o h=>aOH (a:=⟨b,o,none⟩) (aOK _ _ _ (hH.sl b o h)),λ_ _ h=>h,λ_ _ _ h=>h⟩;have fr:Fr (sX g H (qW [(base,qQ.cells t x toks)])) w (w.alloc (.cells cs.toArray e)) g.S (g.var base w.heap.size (some (e,cs.length))).S:=
  ⟨rfl,rfl,rfl,by simp,λb hb _=>aOK _ _ _ hb,λb o hb _=>⟨aOH (a:=⟨b,o,none⟩) (aOK _ _ _ hb),aPb (a:=⟨b,o,none⟩) (aOK _ _ _ hb)⟩,λb o h=> .inl h,λb s h=> .inl ((F7 (aOK _ _ _ (F6 h))).trans h)⟩
 have gho: ∀i,i∉qW [(base,qQ.cells t x toks)]->(g.var base w.heap.size (some (e,cs.length))).J i=g.J i/\(g.var base w.heap.size (some (e,cs.length))).cur i=g.cur i:=λi hi=>⟨by
  show (if i=base then _ else _)=_;rw[aOi (λe1=>hi aQk)],rfl⟩
 have get: ∀i blk,i∈qW [(base,qQ.cells t x toks)]->qU (rL [(base,qQ.cells t x toks)] H) i=some blk->i=base/\blk= .cells t x toks:=by
  intro i blk hi z;simp only[qW,aOs] at hi;subst hi;simp only[rL,qU,aPl,aOf] at z;exact⟨rfl,z.symm⟩
 have perm: ∀i blk b o,i∈qW [(base,qQ.cells t x toks)]->qU (rL [(base,qQ.cells t x toks)] H) i=some blk->sD (g.var base w.heap.size (some (e,cs.length))) i blk b o->w.heap.size<=b\/sX g H (qW [(base,qQ.cells t x toks)]) b o:=by
  intro i blk b o hi z Q;obtain⟨rfl,rfl⟩:=get i blk hi z;obtain⟨p,hp,U,_⟩:=Q;rw[E] at hp;obtain rfl:=aOj hp;exact .inl (aPH U.symm)
 have V:=sU O;refine⟨le,⟨.inr ⟨rfl,_,E,rfl⟩,trivial⟩,hH.upd le fr perm gho (λi blk hi z=>?_) (λi j bi bj b o hi M G K I _ _=>G ((get i bi hi K).1.trans (get j bj M I).1.symm)) (λb o h=>aOS (hH.sl b o h) pP),fr,perm,gho,λi u' y us h=>by
  simp only[rL,qU] at h;split at h
  .rename_i e1;subst e1;exact .inr ⟨hf,λn=>by rw[R]⟩
  exact .inl ⟨y,us,h⟩⟩
 obtain⟨rfl,rfl⟩:=get i blk hi z;refine⟨_,cs,E,xM le2 O,λj v hv=>?_,⟨λj M=>?_,λ_ s D=>?_⟩,λj _ D=>aPO _ (hH.sl _ _ D),Du le.cur F⟩
 .simp only[aOO];rw[aPA];simpa using hv
 .simp only[aOO];rw[aPA,World.frozen?_alloc_new];exact⟨by simp;omega,rfl⟩
 cases D;show (match (w.heap.push (.cells cs.toArray e))[w.heap.size]? with|some (.cells c elem _)=>some (elem,c.size) |_=>none)=_
 rw[aP3];simp only[aPg]
theorem sE.newVar {side:List Prop}{rds:pY}{base:Nat}{t:Ty}{x:t.den}{toks:pT}{cs:pV}{e:TypeId}(D:Rd g w t x cs) (j:HC g t x cs toks) (hf:g.J base=none) (z:g.cur base=λ_=>none):
  sE g w H ⟨side,(.val .ref (some (base,0)),none),[(base,.cells t x toks)],rds⟩ (g.var base w.heap.size (some (e,cs.length))) (w.alloc (.cells cs.toArray e)) (.pointer (some ⟨w.heap.size,0,none⟩)):=
 sE.newVarJ hH (xM (g:=g) (g':=g.var base w.heap.size (some (e,cs.length))) (w:=w) (w':=w) ⟨λ_ _ h=>h,λ_ _ _=>rfl,λi p h=>by
  show (if i=base then _ else _)=_;rw[aOi (λe1=>by rw[e1,hf] at h;cases h)];exact h,λ_ _ _ h=>h⟩ D) j hf z
end
theorem Eo {P:Program}(w:pZ) (t ty e:TypeId) (i:TypeInfo) (z:qA) (size bytes:Nat) (ht:P.underlying t=some (.slice e)) (hi:P.info? e=some i) (hz:i.zero=some z)
  (R:i.size=size) (hn:i.bytes=bytes) (hd:z.cells.size=size)
  (v:qA) (n:Nat) (xs:pV) (E:w.ownsRow 0 e size v n xs)
  (a:Addr) (m c:Nat) (news:pV) (V:news.length=m*size) (G: ∀j u,news[j]? =some u->w.cell? (a.add j)=some u) (h1: ∀u∈news,u.oneCell'=true) (hm:0<m)
  (Y:n+m<=maxLen) (K:(n+m)*bytes<=140737488355328):
  ∃q cap w',(Builtin.append_ #[t,t] ty #[v,.slice (some a) m c]).run P w= .ok (.slice (some ⟨q,0,none⟩) (n+m) cap) w'/\w'.ownsRow 0 e size (.slice (some ⟨q,0,none⟩) (n+m) cap) (n+m) (xs++news)/\
   (q=w.heap.size\/v.ownBlock=some q)/\w.grownBy w' v.ownBlock/\n+m<=cap/\
   ∀b o,b<w.heap.size->(v.ownBlock=some b->o<n*size)->w'.cell? ⟨b,o,none⟩=w.cell? ⟨b,o,none⟩:=by
 subst R;subst hn;have hc:n+m<=9223372036854775807:=by simp only[maxLen] at Y;omega
 have I:(xs++news).length=(n+m)*i.size:=by rw[aOg,E.1,V,Nat.add_mul]
 have grown: ∀(old:Nat),old<n+m->∀(row:pX),
   (w.drew.alloc (.cells (xs.toArray++news.toArray++Builtin.zeroCells z.cells (grownCap w (n+m) old e- (n+m))) e)).ownsRow 0 e i.size
    (.slice (some ⟨w.heap.size,0,none⟩) (n+m) (grownCap w (n+m) old e)) (n+m) (xs++news)/\
   w.grownBy (w.drew.alloc (.cells (xs.toArray++news.toArray++Builtin.zeroCells z.cells (grownCap w (n+m) old e- (n+m))) e)) row/\n+m<=grownCap w (n+m) old e/\
   ∀b o,b<w.heap.size->(w.drew.alloc (.cells (xs.toArray++news.toArray++Builtin.zeroCells z.cells (grownCap w (n+m) old e- (n+m))) e)).cell? ⟨b,o,none⟩=w.cell? ⟨b,o,none⟩:=by
  intro old ho row;have X:=grownCap_ge w (n+m) old e;have O:grownCap w (n+m) old e<=maxLen:=grownCap_le_maxLen w (n+m) old e Y;refine⟨⟨I,.inr ⟨w.heap.size,_,_,rfl,aPL _,aQc w.drew _,X,O,?_,?_⟩⟩,⟨rfl,rfl,rfl,by simp,λk hk _=>aOK w.drew _ k hk⟩,X,λb o hb=>aOH (w:=w) (a:=⟨b,o,none⟩) (aOK w.drew _ b hb)⟩
  .simp only[aP7,aPg,size_zeroCells,hd,E.1,V,<-Nat.add_mul];congr 1;omega
  simp only[Array.toList_append,aOk];rw[<-aOk,<-I];exact aPX
 rcases E.2 with⟨rfl,rfl⟩ |⟨g,cap,cur,rfl,hq,hg,hs,O,hj,Q⟩
 .have hx:xs=[]:=aOM (by simpa using E.1);subst hx;have hr:=run_append_nil (P:=P) w t ty e i z ht hi hz a m c news V G pN pN (by have hb:=K;simp only[aOO] at hb;omega);have D:=grown 0 pN (Value.ownBlock (.slice none 0 0));simp only[aOO,List.nil_append,Array.empty_append] at D|-;exact⟨_,_,_,hr,D.1,.inl rfl,D.2.1,D.2.2.1,λb o hb _=>D.2.2.2 b o hb⟩
 by_cases F:n+m<=cap
 .have Z:n*i.size+news.length<=cur.size:=by rw[V,hj,<-Nat.add_mul];exact aPk _ F
  have hr:=run_append_room (P:=P) w t ty e i ht hi g n cap cur hg a m c news V G h1 F Z;refine⟨_,_,_,hr,⟨I,.inr ⟨g,cap,_,rfl,hq,setRow_heap w g cur _ e _ hg,F,O,?_,?_⟩⟩,.inr rfl,⟨rfl,rfl,rfl,by simp,λk _ hk=>aP8 w g k _ (λe=>hk (by simp [Value.ownBlock,e]))⟩,F,λb o hb he=>?_⟩
  .simp only[aPg,aOg,aO2,aON,aPi];omega
  .rw[Q,<-I];exact aPX
  by_cases M:b=g
  .subst M;have ho:=he rfl;rw[cell_setRow_same w b o cur _ e _ hg,cell_of_row w b o cur e (0,0) hg];have hh:o<(cur.toList.take (n*i.size)).length:=by rw[aO2,aPi];omega
   rw[aOk,List.getElem?_toArray,aOy hh,List.getElem?_take,aOd ho,aPJ]
  exact aOH (w:=w) (a:=⟨b,o,none⟩) (aP8 w g b _ M)
 have U: ∀j u,xs[j]? =some u->w.cell? ((⟨g,0,none⟩:Addr).add j)=some u:=E.cells (g:=g) rfl;have hr:=run_append_grow (P:=P) w t ty e i z ht hi hz ⟨g,0,none⟩ n cap xs E.1 U a m c news V G pN pN (growslice_fits pN K);have D:=grown cap pN (Value.ownBlock (.slice (some ⟨g,0,none⟩) n cap));exact⟨_,_,_,hr,D.1,.inl rfl,D.2.1,D.2.2.1,λb o hb _=>D.2.2.2 b o hb⟩
theorem om {w:pZ}{e:TypeId}{c n:Nat}{q cap:Nat}{xs:pV}(h:w.ownsRow 0 e c (.slice (some ⟨q,0,none⟩) n cap) n xs):w.rangeAt q 0 xs:=λj u z=>by
 have:=h.cells (g:=q) rfl j u z;rwa [aPp] at this
theorem a7y (w:pZ) (a:Addr) (v:qA) (b:Nat):(w.setCell a v).shape? b=w.shape? b:=by
 unfold World.shape? World.setCell;simp only[aPK];by_cases h:a.block=b
 .rw[aOd h];cases hb:w.heap[b]? with
  |none=>rfl
  |some x=>
   cases x with
   |cells c e f=>
    simp only[Option.map_some];split<;>simp
   |_=>rfl
 rw[aOi h]
theorem W3 (b:Nat): ∀(l:pV) (o:Nat) (w:pZ) (b':Nat),(w.setCells b o l).shape? b'=w.shape? b'
 |[],_,_,_=>rfl
 |v::l,o,w,b'=>by rw[World.setCells,W3 b l,a7y]
section
variable {g:Gh}{w:pZ}{H:sA}(hH:sM g w H)
include hH
theorem sE.append {side:List Prop}{rds:pY}{k e c n:Nat}{u:Ty}{l r:List u.den}{w':pZ}{q cap:Nat}{v:qA}{xs news:pV}(hk:qU H k=some (.grow e c n)) (hc:c=u.cells)
  (he:l.length=n) (hv:g.cur k n=some v) (hu:w.ownsRow 0 e c v n xs) (F: ∀m,n<m->g.cur k m=none) (E: ∀b,v.ownBlock=some b->∀o,g.S b o->o<n*c) (hl:uV (Rd g w u) c l xs) (hr:uV (Rd g w u) c r news) (hm:0<r.length)
  (X:w'.ownsRow 0 e c (.slice (some ⟨q,0,none⟩) (n+r.length) cap) (n+r.length) (xs++news)) (V:q=w.heap.size\/v.ownBlock=some q) (G:w.grownBy w' v.ownBlock) (U:n+r.length<=cap)
  (O: ∀b o,b<w.heap.size->(v.ownBlock=some b->o<n*c)->w'.cell? ⟨b,o,none⟩=w.cell? ⟨b,o,none⟩):
  sE g w H ⟨side,(.val (.list u) (l++r),some k),[(k,.grow e c (n+r.length))],rds⟩ ((g.tok k (n+r.length) (.slice (some ⟨q,0,none⟩) (n+r.length) cap)).shut q ((n+r.length)*c)) w' (.slice (some ⟨q,0,none⟩) (n+r.length) cap):=by
 have hd:=F (n+r.length) pN;have z: ∀o b,v.ownBlock=some b->sX g H (qW [(k,qQ.grow e c (n+r.length))]) b o:=λo b hb=>⟨k,_,by simp [qW],hk,v,hv,hb⟩;have R:q<w'.heap.size:=(X.lt q rfl).2;have le:Le g w ((g.tok k (n+r.length) (.slice (some ⟨q,0,none⟩) (n+r.length) cap)).shut q ((n+r.length)*c)) w':=⟨λ_ _ h=> .inl h,λb o h=>O b o (hH.sl b o h) (λhb=>E b hb o h),λ_ _ h=>h,λk' n' v' h=>by
  show (if k'=k/\n'=n+r.length then _ else _)=_;rw[aOi (λ⟨e1,e2⟩=>by rw[e1,e2,hd] at h;cases h)];exact h⟩
 have fr:Fr (sX g H (qW [(k,qQ.grow e c (n+r.length))])) w w' g.S ((g.tok k (n+r.length) (.slice (some ⟨q,0,none⟩) (n+r.length) cap)).shut q ((n+r.length)*c)).S:=by
  have M: ∀b,b<w.heap.size->∀o,¬sX g H (qW [(k,qQ.grow e c (n+r.length))]) b o->w'.heap[b]? =w.heap[b]? :=λb hb o D=>G.block b hb (λe1=>D (z o b e1.symm));refine⟨G.os,G.tape,G.output,G.size,λb hb D=>M b hb 0 (D 0),λb o hb D=>⟨aOH (a:=⟨b,o,none⟩) (M b hb o D),aPb (a:=⟨b,o,none⟩) (M b hb o D)⟩,λb o h=>?_,λb s hs=>?_⟩
  rotate_left
  .by_cases e1:v.ownBlock=some b
   .exact .inr λo=>z o b e1
   exact .inl ((F7 (G.block b (F6 hs) (λh=>e1 h.symm))).trans hs)
  rcases h with h|⟨rfl,_⟩
  .exact .inl h
  rcases V with h|h
  .exact .inr (.inl (aPH h.symm))
  exact .inr (.inr (z o b h))
 have gho: ∀i,i∉qW [(k,qQ.grow e c (n+r.length))]->((g.tok k (n+r.length) (.slice (some ⟨q,0,none⟩) (n+r.length) cap)).shut q ((n+r.length)*c)).J i=g.J i/\((g.tok k (n+r.length) (.slice (some ⟨q,0,none⟩) (n+r.length) cap)).shut q ((n+r.length)*c)).cur i=g.cur i:=λi hi=>⟨rfl,by
  funext n';show (if i=k/\n'=n+r.length then _ else _)=_;rw[aOi (λ⟨e1,_⟩=>hi aQk)]⟩
 have cur1:((g.tok k (n+r.length) (.slice (some ⟨q,0,none⟩) (n+r.length) cap)).shut q ((n+r.length)*c)).cur k (n+r.length)=some (.slice (some ⟨q,0,none⟩) (n+r.length) cap):=by
  show (if k=k/\n+r.length=n+r.length then _ else _)=_;simp
 have get: ∀i blk,i∈qW [(k,qQ.grow e c (n+r.length))]->qU (rL [(k,qQ.grow e c (n+r.length))] H) i=some blk->i=k/\blk= .grow e c (n+r.length):=by
  intro i blk hi G;simp only[qW,aOs] at hi;subst hi;simp only[rL,qU,aPl,aOf] at G;exact⟨rfl,G.symm⟩
 have perm: ∀i blk b o,i∈qW [(k,qQ.grow e c (n+r.length))]->qU (rL [(k,qQ.grow e c (n+r.length))] H) i=some blk->sD ((g.tok k (n+r.length) (.slice (some ⟨q,0,none⟩) (n+r.length) cap)).shut q ((n+r.length)*c)) i blk b o->w.heap.size<=b\/sX g H (qW [(k,qQ.grow e c (n+r.length))]) b o:=by
  intro i blk b o hi K Z;obtain⟨rfl,rfl⟩:=get i blk hi K;obtain⟨v',Q,hb⟩:=Z;rw[cur1] at Q;obtain rfl:=aOj Q;cases hb;rcases V with h|h
  .exact .inl (aPH h.symm)
  exact .inr (z o _ h)
 have hF:uV (Rd ((g.tok k (n+r.length) (.slice (some ⟨q,0,none⟩) (n+r.length) cap)).shut q ((n+r.length)*c)) w' u) u.cells (l++r) (xs++news):=hc▸CU (λ_ _ h=>xM le h) (nf hl hr);have I:(l++r).length=n+r.length:=by rw[aOg,he]
 refine⟨le,⟨.inr ⟨rfl,some ⟨q,0,none⟩,cap,by rw[I],by rw[I];exact U,.inr ⟨q,0,rfl,RL hF (om X) (λj Y=>?_)⟩⟩,?_⟩,hH.upd le fr perm gho (λi blk hi K=>?_) (λi j bi bj b o hi Y hh ht hn _ _=>hh ((get i bi hi ht).1.trans (get j bj Y hn).1.symm)) (λb o h=>?_),fr,perm,gho,λi u' y us h=>by
  simp only[rL,qU] at h;split at h
  .cases h
  exact .inl ⟨y,us,h⟩⟩
 .right;rw[I] at Y;exact⟨rfl,by rw[hc];omega⟩
 .show _=_;rw[I];exact cur1
 .obtain⟨rfl,rfl⟩:=get i blk hi K;refine⟨_,_,cur1,X,λm hw=>?_,λb hb o h=>?_⟩
  .show (if i=i/\m=n+r.length then _ else _)=_;rw[aOi pN];exact F m pN
  cases hb;rcases h with h|⟨_,h⟩
  .rcases V with h2|h2
   .have:q<w.heap.size:=hH.sl _ _ h;omega
   have:=E _ h2 o h;rw[Nat.add_mul];omega
  exact h
 rcases h with h|⟨rfl,_⟩
 .exact aOS (hH.sl b o h) G.size
 exact R
theorem sE.lit {side:List Prop}{rds:pY}{base e c n:Nat}{u:Ty}{l:List u.den}{cs:pV}(V:c=u.cells) (z:l.length=n) (R:uV (Rd g w u) c l cs) (X:n<=maxLen) (hf: ∀m,g.cur base m=none):
  sE g w H ⟨side,(.val (.list u) l,some base),[(base,.grow e c n)],rds⟩ ((g.tok base n (.slice (some ⟨w.heap.size,0,none⟩) n n)).shut w.heap.size (n*c)) (w.alloc (.cells cs.toArray e)) (.slice (some ⟨w.heap.size,0,none⟩) n n):=by
 have D:=MF R;have le:Le g w ((g.tok base n (.slice (some ⟨w.heap.size,0,none⟩) n n)).shut w.heap.size (n*c)) (w.alloc (.cells cs.toArray e)):=⟨λ_ _ h=> .inl h,λb o h=>aOH (a:=⟨b,o,none⟩) (aOK _ _ _ (hH.sl b o h)),λ_ _ h=>h,λk' n' v' h=>by
  show (if k'=base/\n'=n then _ else _)=_;rw[aOi (λ⟨e1,e2⟩=>by rw[e1,hf] at h;cases h)];exact h⟩
 have fr:Fr (sX g H (qW [(base,qQ.grow e c n)])) w (w.alloc (.cells cs.toArray e)) g.S ((g.tok base n (.slice (some ⟨w.heap.size,0,none⟩) n n)).shut w.heap.size (n*c)).S:=
  ⟨rfl,rfl,rfl,by simp,λb hb _=>aOK _ _ _ hb,λb o hb _=>⟨aOH (a:=⟨b,o,none⟩) (aOK _ _ _ hb),aPb (a:=⟨b,o,none⟩) (aOK _ _ _ hb)⟩,λb o h=>h.imp id λh=> .inl (aPH h.1.symm),λb s h=> .inl ((F7 (aOK _ _ _ (F6 h))).trans h)⟩
 have gho: ∀i,i∉qW [(base,qQ.grow e c n)]->((g.tok base n (.slice (some ⟨w.heap.size,0,none⟩) n n)).shut w.heap.size (n*c)).J i=g.J i/\((g.tok base n (.slice (some ⟨w.heap.size,0,none⟩) n n)).shut w.heap.size (n*c)).cur i=g.cur i:=λi hi=>⟨rfl,by
  funext n';show (if i=base/\n'=n then _ else _)=_;rw[aOi (λ⟨e1,_⟩=>hi aQk)]⟩
 have cur1:((g.tok base n (.slice (some ⟨w.heap.size,0,none⟩) n n)).shut w.heap.size (n*c)).cur base n=some (.slice (some ⟨w.heap.size,0,none⟩) n n):=by
  show (if base=base/\n=n then _ else _)=_;simp
 have get: ∀i blk,i∈qW [(base,qQ.grow e c n)]->qU (rL [(base,qQ.grow e c n)] H) i=some blk->i=base/\blk= .grow e c n:=by
  intro i blk hi U;simp only[qW,aOs] at hi;subst hi;simp only[rL,qU,aPl,aOf] at U;exact⟨rfl,U.symm⟩
 have perm: ∀i blk b o,i∈qW [(base,qQ.grow e c n)]->qU (rL [(base,qQ.grow e c n)] H) i=some blk->sD ((g.tok base n (.slice (some ⟨w.heap.size,0,none⟩) n n)).shut w.heap.size (n*c)) i blk b o->w.heap.size<=b\/sX g H (qW [(base,qQ.grow e c n)]) b o:=by
  intro i blk b o hi E K;obtain⟨rfl,rfl⟩:=get i blk hi E;obtain⟨v',F,hb⟩:=K;rw[cur1] at F;obtain rfl:=aOj F;cases hb;exact .inl (aOA _)
 have Y:uV (Rd ((g.tok base n (.slice (some ⟨w.heap.size,0,none⟩) n n)).shut w.heap.size (n*c)) (w.alloc (.cells cs.toArray e)) u) u.cells l cs:=V▸CU (λ_ _ h=>xM le h) R;have I:(w.alloc (.cells cs.toArray e)).rangeAt w.heap.size 0 cs:=λj v hv=>by
  rw[aOO,aPA];simpa using hv
 refine⟨le,⟨.inr ⟨rfl,some ⟨w.heap.size,0,none⟩,n,by rw[z],by rw[z];exact aOA _,.inr ⟨w.heap.size,0,rfl,RL Y I (λj G=>?_)⟩⟩,?_⟩,hH.upd le fr perm gho (λi blk hi E=>?_) (λi j bi bj b o hi G M Q O _ _=>M ((get i bi hi Q).1.trans (get j bj G O).1.symm)) (λb o h=>?_),fr,perm,gho,λi u' y us h=>by
  simp only[rL,qU] at h;split at h
  .cases h
  exact .inl ⟨y,us,h⟩⟩
 .right;rw[z] at G;exact⟨rfl,by rw[V];omega⟩
 .show _=_;rw[z];exact cur1
 .obtain⟨rfl,rfl⟩:=get i blk hi E;refine⟨_,cs,cur1,⟨by rw[D,z],.inr ⟨w.heap.size,n,cs.toArray,rfl,aPL _,aQc w _,aOA _,X,by simp [D,z],by simp [<-z,<-D]⟩⟩,λm Z=>?_,λb hb o h=>?_⟩
  .show (if i=i/\m=n then _ else _)=_;rw[aOi pN];exact hf m
  cases hb;rcases h with h|⟨_,h⟩
  .exact absurd (hH.sl _ _ h) (aPO _)
  exact h
 rcases h with h|⟨rfl,_⟩
 .exact aOS (hH.sl b o h) pP
 simp
theorem ov: ∀{toks:pT}{off n q k:Nat},(q,k)∈vZ toks off n->(q,k)∈toks/\¬(off<=q/\q<off+n)
 |[],_,_,_,_,h=>by simp [vZ] at h
 |(q',k')::r,off,n,q,k,h=>by
  simp only[vZ] at h;split at h
  .obtain⟨z,j⟩:=ov h;exact⟨aOu _ z,j⟩
  rename_i D;rcases aOv.1 h with h|h
  .cases h;exact⟨by simp,D⟩
  obtain⟨z,j⟩:=ov h;exact⟨aOu _ z,j⟩
theorem a7z {u:Ty}{y:u.den}: ∀{t:Ty}{x z:t.den}{o:Nat},u.isRow=false->sW u y t x o=some z->rT u t z o=some y:=by
 intro t
 induction t with
 |pair a b iha ihb=>
  intro x z o j h;have D:u≠.pair a b:=by intro e;rw[e] at j;cases j
  have key: ∀o,(if o<a.cells then(sW u y a x.1 o).map (λq=>(q,x.2)) else(sW u y b x.2 (o-a.cells)).map (λq=>(x.1,q)))=some z->
    (if o<a.cells then rT u a z.1 o else rT u b z.2 (o-a.cells))=some y:=by
   intro o h;by_cases F:o<a.cells
   .rw[aOd F] at h|-;obtain⟨q,E,rfl⟩:=aOq.1 h;exact iha j E
   rw[aOi F] at h|-;obtain⟨q,E,rfl⟩:=aOq.1 h;exact ihb j E
  cases o with
  |zero=>
   unfold sW at h;unfold rT;rw[aPN D] at h;rw[aPN (Ne.symm D)];have:=key 0 aQe;simpa using this
  |succ o=>
   have:=key (o+1) (by simpa[sW] using h);simpa[rT] using this
 |_=>
  intro x z o j h;cases o with
  |zero=>
   unfold sW at h;split at h
   .rename_i e;subst e;simp only[uJ,aOf] at h
    try subst h
    unfold rT;simp [uJ]
   .simp at h
  |succ o=>simp [sW] at h
theorem Ep {u v:Ty}{y:u.den}: ∀{t:Ty}{x z:t.den}{o q:Nat}{l:(Ty.list v).den},sW u y t x o=some z->rT (.list v) t x q=some l->¬(o<=q/\q<o+u.cells)->rT (.list v) t z q=some l:=by
 intro t
 induction t with
 |pair a b iha ihb=>
  intro x z o q l h g E;by_cases F:o=0/\u= .pair a b
  .obtain⟨rfl,rfl⟩:=F;exfalso;apply E;have: ∀(t:Ty) (x:t.den) (q:Nat) (l:(Ty.list v).den),rT (.list v) t x q=some l->q<t.cells:=by
    intro t
    induction t with
    |pair s t ihs iht=>
     intro x q l g;have key: ∀q,(if q<s.cells then rT (.list v) s x.1 q else rT (.list v) t x.2 (q-s.cells))=some l->q<s.cells+t.cells:=by
      intro q g;by_cases h:q<s.cells
      .omega
      rw[aOi h] at g;have:=iht _ _ _ g;omega
     cases q with
     |zero=>
      unfold rT at g;rw[aPN aQh] at g;exact key 0 (by simpa using g)
     |succ q=>exact key (q+1) (by simpa[rT] using g)
    |_=>
     intro x q l g;cases q with
     |zero=>first|(simp [Ty.cells];done) |(unfold rT at g;simp at g)
     |succ q=>simp [rT] at g
   exact⟨aPL _,by simpa using this _ _ _ _ g⟩
  .have keyh:(if o<a.cells then(sW u y a x.1 o).map (λq=>(q,x.2)) else(sW u y b x.2 (o-a.cells)).map (λq=>(x.1,q)))=some z:=by
    cases o with
    |zero=>
     unfold sW at h;rw[aPN (λe=>F ⟨rfl,e⟩)] at h;simpa using h
    |succ o=>simpa[sW] using h
   have keyg: ∀x:(Ty.pair a b).den,rT (.list v) (.pair a b) x q=(if q<a.cells then rT (.list v) a x.1 q else rT (.list v) b x.2 (q-a.cells)):=by
    intro x;cases q with
    |zero=>
     conv=>lhs;unfold rT
     rw[aPN aQh,Nat.zero_sub]
    |succ q=>simp [rT]
   rw[keyg] at g|-;by_cases G:o<a.cells
   .rw[aOd G] at keyh;obtain⟨z',D,rfl⟩:=aOq.1 keyh;by_cases j:q<a.cells
    .rw[aOd j] at g|-;exact iha D g E
    rw[aOi j] at g|-;exact g
   .rw[aOi G] at keyh;obtain⟨z',D,rfl⟩:=aOq.1 keyh;by_cases j:q<a.cells
    .rw[aOd j] at g|-;exact g
    .rw[aOi j] at g|-;exact ihb D g pN
 |unit=>
  intro x z o q l h g E;cases q with
  |zero=>
   unfold rT at g;rw[aPN aQh] at g;cases g
  |succ q=>simp [rT] at g
 |_=>
  intro x z o q l h g E;cases o with
  |zero=>
   unfold sW at h;split at h
   .rename_i e;subst e;cases q with
    |zero=>exact absurd ⟨aOA _,by first|exact Nat.zero_lt_one|decide⟩ E
    |succ q=>simp [rT] at g
   .simp at h
  |succ o=>simp [sW] at h
theorem sE.store {side:List Prop}{rds:pY}{i:Nat}{u t:Ty}{x z:u.den}{y:t.den}{off:Nat}{toks:pT}{k:pX}{p:Pl}{cy:pV}{v:qA}(hb:qU H i=some (.cells u x toks)) (hp:g.J i=some p)
  (I:sW t y u x off=some z) (hy:Rd g w t y cy) (hk:DU g t y v k) (hx: ∀a b,t= .pair a b->k=none) (hv:t.isRow=false->cy=[v]):
  sE g w H ⟨side,(.any,none),[(i,.cells u z (rL (y5 k off) (vZ toks off t.cells)))],rds⟩ g (w.setCells p.1 (p.2+off) cy) undef/\w.there p.1 (p.2+off) cy.length:=by
 obtain⟨p',cs,he,hR,hd,Q,hl,hu⟩:=hH.blk i _ hb;rw[hp] at he;obtain rfl:=aOj he;obtain⟨c1,c2,c3,hG,hw,hn,hz⟩:=ap hy hR I;subst hG;subst hw;have hI:=sU hR;have Z:=sU hy;simp only[aOg] at hI;have D:w.there p.1 (p.2+c1.length) cy.length:=λj V=>by
  have:=Q.1 (c1.length+j) pN;rwa [<-aOX] at this
 have E: ∀b o,(b=p.1->o<p.2+c1.length\/p.2+c1.length+cy.length<=o)->(w.setCells p.1 (p.2+c1.length) cy).cell? ⟨b,o,none⟩=w.cell? ⟨b,o,none⟩:=λb o h=>World.cell?_setCells_out p.1 cy _ w ⟨b,o,none⟩ (λe _=>h e);have ht: ∀b o,b=p.1->p.2+c1.length<=o->o<p.2+c1.length+cy.length->sD g i (.cells u x toks) b o:=λb o e F G=>⟨p,hp,e,pN,pN⟩;have hc:(w.setCells p.1 (p.2+c1.length) cy).heap.size=w.heap.size:=by
  have: ∀(l:pV) (o:Nat) (w:pZ),(w.setCells p.1 o l).heap.size=w.heap.size:=by
   intro l
   induction l with
   |nil=>intro o w;rfl
   |cons v l ih=>intro o w;rw[World.setCells,ih];simp [World.setCell]
  exact this _ _ _
 have hJ: ∀b,b≠p.1->(w.setCells p.1 (p.2+c1.length) cy).heap[b]? =w.heap[b]? :=by
  intro b hb;have: ∀(l:pV) (o:Nat) (w:pZ),(w.setCells p.1 o l).heap[b]? =w.heap[b]? :=by
   intro l
   induction l with
   |nil=>intro o w;rfl
   |cons v l ih=>intro o w;rw[World.setCells,ih];exact Below.heap_setCell _ _ _ _ hb
  exact this _ _ _
 have R:(w.setCells p.1 (p.2+c1.length) cy).os=w.os/\(w.setCells p.1 (p.2+c1.length) cy).tape=w.tape/\(w.setCells p.1 (p.2+c1.length) cy).output=w.output:=by
  have: ∀(l:pV) (o:Nat) (w:pZ),(w.setCells p.1 o l).os=w.os/\(w.setCells p.1 o l).tape=w.tape/\(w.setCells p.1 o l).output=w.output:=by
   intro l
   induction l with
   |nil=>intro o w;exact⟨rfl,rfl,rfl⟩
   |cons v l ih=>intro o w;rw[World.setCells];exact ih _ _
  exact this _ _ _
 have hB: ∀b o,g.S b o->¬(b=p.1/\p.2<=o/\o<p.2+u.cells):=λb o Y ⟨e,F,G⟩=>hl (o-p.2) pN (by rw[show p.2+(o-p.2)=o from by omega,<-e];exact Y);have le:Le g w g (w.setCells p.1 (p.2+c1.length) cy):=⟨λ_ _ h=>h,λb o h=>E b o (λe=>by
  have:=hB b o h;rcases aPs o (p.2+c1.length) with F|F
  .exact .inl F
  rcases aPs o (p.2+c1.length+cy.length) with G|G
  .exact absurd ⟨e,pN,pN⟩ this
  exact .inr G),λ_ _ h=>h,λ_ _ _ h=>h⟩
 have K: ∀b o,sD g i (.cells u x toks) b o->sX g H (qW [(i,qQ.cells u z (rL (y5 k c1.length) (vZ toks c1.length t.cells)))]) b o:=λb o h=>⟨i,_,by simp [qW],hb,h⟩;have fr:Fr (sX g H (qW [(i,qQ.cells u z (rL (y5 k c1.length) (vZ toks c1.length t.cells)))])) w (w.setCells p.1 (p.2+c1.length) cy) g.S g.S:=by
  refine⟨R.1,R.2.1,R.2.2,aPH hc.symm,λb hK U=>?_,λb o hK U=>⟨E b o (λe=>?_),World.frozen?_setCells _ _ _ _ _⟩,λb o h=> .inl h,λb s Y=> .inl ((W3 _ _ _ _ _).trans Y)⟩
  .by_cases e:b=p.1
   .cases hF:cy with
    |nil=>rfl
    |cons q l=>exact absurd (K b (p.2+c1.length) (ht b _ e (aOA _) (by rw[hF];simp))) (U _)
   exact hJ b e
  rcases aPs o (p.2+c1.length) with F|F
  .exact .inl F
  rcases aPs o (p.2+c1.length+cy.length) with G|G
  .exact absurd (K b o (ht b o e F G)) U
  exact .inr G
 have gho: ∀j,j∉qW [(i,qQ.cells u z (rL (y5 k c1.length) (vZ toks c1.length t.cells)))]->g.J j=g.J j/\g.cur j=g.cur j:=λ_ _=>⟨rfl,rfl⟩;have get: ∀j blk,j∈qW [(i,qQ.cells u z (rL (y5 k c1.length) (vZ toks c1.length t.cells)))]->qU (rL [(i,qQ.cells u z (rL (y5 k c1.length) (vZ toks c1.length t.cells)))] H) j=some blk->j=i/\blk= .cells u z (rL (y5 k c1.length) (vZ toks c1.length t.cells)):=by
  intro j blk hi X;simp only[qW,aOs] at hi;subst hi;simp only[rL,qU,aPl,aOf] at X;exact⟨rfl,X.symm⟩
 have perm: ∀j blk b o,j∈qW [(i,qQ.cells u z (rL (y5 k c1.length) (vZ toks c1.length t.cells)))]->qU (rL [(i,qQ.cells u z (rL (y5 k c1.length) (vZ toks c1.length t.cells)))] H) j=some blk->sD g j blk b o->w.heap.size<=b\/sX g H (qW [(i,qQ.cells u z (rL (y5 k c1.length) (vZ toks c1.length t.cells)))]) b o:=by
  intro j blk b o hi X ho;obtain⟨rfl,rfl⟩:=get j blk hi X;exact .inr (K b o ho)
 refine⟨⟨le,⟨trivial,trivial⟩,hH.upd le fr perm gho (λj blk hi X=>?_) (λi j bi bj b o hi V hA hD hC _ _=>hA ((get i bi hi hD).1.trans (get j bj V hC).1.symm)) (λb o h=>by rw[hc];exact hH.sl b o h),fr,perm,gho,λj u' y' us h=>by
  simp only[rL,qU] at h;split at h
  .rename_i e1;subst e1;simp only[aOf,qQ.cells.injEq] at h;obtain⟨rfl,_⟩:=h;exact .inl ⟨x,toks,hb⟩
  exact .inl ⟨y',us,h⟩⟩,D⟩
 obtain⟨rfl,rfl⟩:=get j blk hi X;refine⟨p,_,hp,xM le hz,λq v M=>?_,⟨λq M=>?_,λh0 s Y=>(W3 _ _ _ _ _).trans (Q.2 h0 s Y)⟩,hl,?_⟩
 .by_cases F:q<c1.length
  .rw[E _ _ (λ_=> .inl pN)];refine hd q v ?_;rw[aOk,aOy F] at M|-;exact M
  by_cases G:q<c1.length+cy.length
  .have:=aPB p.1 cy (p.2+c1.length) w (λj V=>(D j V).1) (q-c1.length) pN;rw[show p.2+c1.length+(q-c1.length)=p.2+q from by omega] at this;rw[this];rw[aOk,aOp pN,aOy pN] at M;rw[<-M,aOn pN]
  rw[E _ _ (λ_=> .inr pN)];refine hd q v ?_;rw[aOk,aOp pN,aOp pN] at M|-;rw[hn];rw[Z] at M;exact M
 .have hh:=Q.1 q M;refine⟨?_,by rw[World.frozen?_setCells];exact hh.2⟩;by_cases F:q<c1.length\/c1.length+cy.length<=q
  .rw[E _ _ (λ_=>by omega)];exact hh.1
  have:=aPB p.1 cy (p.2+c1.length) w (λj V=>(D j V).1) (q-c1.length) pN;rw[show p.2+c1.length+(q-c1.length)=p.2+q from by omega] at this;rw[this];rfl
 intro q kk hm;have O:(q,kk)∈y5 k c1.length\/(q,kk)∈vZ toks c1.length t.cells:=by
  cases k with
  |none=>exact .inr (by simpa[y5,rL] using hm)
  |some k=>
   simp only[y5,rL,aOv] at hm;rcases hm with hm|hm
   .exact .inl (by simp [y5,hm])
   exact .inr hm
 rcases O with hm|hm
 .cases k with
  |none=>simp [y5] at hm
  |some k=>
   simp only[y5,aOs,aOJ] at hm;obtain⟨rfl,rfl⟩:=hm;cases t with
   |list t=>
    obtain rfl:=hv rfl;exact⟨t,y,v,a7z hH rfl I,by simp,hk⟩
   |pair a b=>cases hx a b rfl
   |_=>exact hk.elim
 obtain⟨F,G⟩:=ov hH hm;obtain⟨v',l,v1,g1,g2,g3⟩:=hu q kk F;refine⟨v',l,v1,Ep hH I g1 G,?_,g3⟩;rcases aPs q c1.length with h3|h3
 .rw[aOk,aOy h3] at g2|-;exact g2
 have h4:c1.length+t.cells<=q:=by omega
 rw[aOk,aOp pN,aOp pN] at g2|-;rw[Z];rw[hn] at g2;exact g2
theorem zX.openS {side:List Prop}{rds:pY}{i:Nat}{u u0:Ty}{el:Nat}{kn:pW}{x:u.den}{z: Σ t:Ty,t.den}{off:Nat}{toks:pT}{p:Pl}{cy:pV}(hb:qU H i=some (.cells u x toks)) (hp:g.J i=some p)
  (O:yM el u0 kn u x off=some z) (hy:G3 g kn cy) (hn:cy.length=1) (ht:J6 rds=true):
  zX g w H ⟨side,(.any,none),[(i,.cells z.1 z.2 [])],rds⟩ g (w.setCells p.1 (p.2+off) cy) undef/\w.there p.1 (p.2+off) cy.length:=by
 obtain⟨p',cs,hd,hR,hc,Q,he,hK⟩:=hH.blk i _ hb;rw[hp] at hd;obtain rfl:=aOj hd;obtain⟨c1,c2,c3,hF,hw,hu,hz⟩:=a6X hy hR O;subst hF;subst hw;have hG:=sU hR;have M:=a6W O;simp only[aOg] at hG;have D:w.there p.1 (p.2+c1.length) cy.length:=λj V=>by
  have:=Q.1 (c1.length+j) pN;rwa [<-aOX] at this
 have E: ∀b o,(b=p.1->o<p.2+c1.length\/p.2+c1.length+cy.length<=o)->(w.setCells p.1 (p.2+c1.length) cy).cell? ⟨b,o,none⟩=w.cell? ⟨b,o,none⟩:=λb o h=>World.cell?_setCells_out p.1 cy _ w ⟨b,o,none⟩ (λe _=>h e);have hl: ∀b o,b=p.1->p.2+c1.length<=o->o<p.2+c1.length+cy.length->sD g i (.cells u x toks) b o:=λb o e G K=>⟨p,hp,e,pN,pN⟩;have Z:(w.setCells p.1 (p.2+c1.length) cy).heap.size=w.heap.size:=by
  have: ∀(l:pV) (o:Nat) (w:pZ),(w.setCells p.1 o l).heap.size=w.heap.size:=by
   intro l
   induction l with
   |nil=>intro o w;rfl
   |cons v l ih=>intro o w;rw[World.setCells,ih];simp [World.setCell]
  exact this _ _ _
 have hI: ∀b,b≠p.1->(w.setCells p.1 (p.2+c1.length) cy).heap[b]? =w.heap[b]? :=by
  intro b hb;have: ∀(l:pV) (o:Nat) (w:pZ),(w.setCells p.1 o l).heap[b]? =w.heap[b]? :=by
   intro l
   induction l with
   |nil=>intro o w;rfl
   |cons v l ih=>intro o w;rw[World.setCells,ih];exact Below.heap_setCell _ _ _ _ hb
  exact this _ _ _
 have R:(w.setCells p.1 (p.2+c1.length) cy).os=w.os/\(w.setCells p.1 (p.2+c1.length) cy).tape=w.tape/\(w.setCells p.1 (p.2+c1.length) cy).output=w.output:=by
  have: ∀(l:pV) (o:Nat) (w:pZ),(w.setCells p.1 o l).os=w.os/\(w.setCells p.1 o l).tape=w.tape/\(w.setCells p.1 o l).output=w.output:=by
   intro l
   induction l with
   |nil=>intro o w;exact⟨rfl,rfl,rfl⟩
   |cons v l ih=>intro o w;rw[World.setCells];exact ih _ _
  exact this _ _ _
 have hA: ∀b o,g.S b o->¬(b=p.1/\p.2<=o/\o<p.2+u.cells):=λb o Y ⟨e,G,K⟩=>he (o-p.2) pN (by rw[show p.2+(o-p.2)=o from by omega,<-e];exact Y);have le:Le g w g (w.setCells p.1 (p.2+c1.length) cy):=⟨λ_ _ h=>h,λb o h=>E b o (λe=>by
  have:=hA b o h;rcases aPs o (p.2+c1.length) with G|G
  .exact .inl G
  rcases aPs o (p.2+c1.length+cy.length) with K|K
  .exact absurd ⟨e,pN,pN⟩ this
  exact .inr K),λ_ _ h=>h,λ_ _ _ h=>h⟩
 have I: ∀b o,sD g i (.cells u x toks) b o->sX g H (qW [(i,qQ.cells z.1 z.2 [])]) b o:=λb o h=>⟨i,_,by simp [qW],hb,h⟩;have fr:Fr (sX g H (qW [(i,qQ.cells z.1 z.2 [])])) w (w.setCells p.1 (p.2+c1.length) cy) g.S g.S:=by
  refine⟨R.1,R.2.1,R.2.2,aPH Z.symm,λb hJ U=>?_,λb o hJ U=>⟨E b o (λe=>?_),World.frozen?_setCells _ _ _ _ _⟩,λb o h=> .inl h,λb s Y=> .inl ((W3 _ _ _ _ _).trans Y)⟩
  .by_cases e:b=p.1
   .cases hD:cy with
    |nil=>rfl
    |cons q l=>exact absurd (I b (p.2+c1.length) (hl b _ e (aOA _) (by rw[hD];simp))) (U _)
   exact hI b e
  rcases aPs o (p.2+c1.length) with G|G
  .exact .inl G
  rcases aPs o (p.2+c1.length+cy.length) with K|K
  .exact absurd (I b o (hl b o e G K)) U
  exact .inr K
 have gho: ∀j,j∉qW [(i,qQ.cells z.1 z.2 [])]->g.J j=g.J j/\g.cur j=g.cur j:=λ_ _=>⟨rfl,rfl⟩;have get: ∀j blk,j∈qW [(i,qQ.cells z.1 z.2 [])]->qU (rL [(i,qQ.cells z.1 z.2 [])] H) j=some blk->j=i/\blk= .cells z.1 z.2 []:=by
  intro j blk hi X;simp only[qW,aOs] at hi;subst hi;simp only[rL,qU,aPl,aOf] at X;exact⟨rfl,X.symm⟩
 have perm: ∀j blk b o,j∈qW [(i,qQ.cells z.1 z.2 [])]->qU (rL [(i,qQ.cells z.1 z.2 [])] H) j=some blk->sD g j blk b o->w.heap.size<=b\/sX g H (qW [(i,qQ.cells z.1 z.2 [])]) b o:=by
  intro j blk b o hi X ho;obtain⟨rfl,rfl⟩:=get j blk hi X;obtain⟨q,F,e1,e2,e3⟩:=ho;rw[M] at e3;exact .inr (I b o ⟨q,F,e1,e2,e3⟩)
 refine⟨⟨le,⟨trivial,trivial⟩,hH.upd le fr perm gho (λj blk hi X=>?_) (λi j bi bj b o hi V hx hC hB _ _=>hx ((get i bi hi hC).1.trans (get j bj V hB).1.symm)) (λb o h=>by rw[Z];exact hH.sl b o h),fr,perm,gho,λh=>by rw[ht] at h;cases h⟩,D⟩;obtain⟨rfl,rfl⟩:=get j blk hi X;refine⟨p,_,hp,xM le hz,λq v F=>?_,⟨λq F=>?_,λh0 s Y=>(W3 _ _ _ _ _).trans (Q.2 (by rw[<-M];exact h0) s Y)⟩,λq F=>he q (by rw[<-M];exact F),λ_ _ hm=>by cases hm⟩
 .by_cases G:q<c1.length
  .rw[E _ _ (λ_=> .inl pN)];refine hc q v ?_;rw[aOk,aOy G] at F|-;exact F
  by_cases K:q<c1.length+cy.length
  .have:=aPB p.1 cy (p.2+c1.length) w (λj V=>(D j V).1) (q-c1.length) pN;rw[show p.2+c1.length+(q-c1.length)=p.2+q from by omega] at this;rw[this];rw[aOk,aOp pN,aOy pN] at F;rw[<-F,aOn pN]
  rw[E _ _ (λ_=> .inr pN)];refine hc q v ?_;rw[aOk,aOp pN,aOp pN] at F|-;rw[hu];rw[hn] at F;exact F
 have hh:=Q.1 q (by rw[<-M];exact F);refine⟨?_,by rw[World.frozen?_setCells];exact hh.2⟩;by_cases G:q<c1.length\/c1.length+cy.length<=q
 .rw[E _ _ (λ_=>by omega)];exact hh.1
 have:=aPB p.1 cy (p.2+c1.length) w (λj V=>(D j V).1) (q-c1.length) pN;rw[show p.2+c1.length+(q-c1.length)=p.2+q from by omega] at this;rw[this];rfl
end
def z6 (g:Gh) (base:Nat) (e:rA):Prop:= ∀i,i∈qW e.upd->base<=i->g.J i=none/\∀n,g.cur i n=none
section
variable {P:Program}{o:Oper}{a:Act}{g:Gh}{w:pZ}{H:sA}{T:sJ}(hT:w6 P T) (hH:sM g w H)
include hT hH
theorem Er {x:Operand}(D:o.op= .move x\/o.op= .assign x) {sx:qP}(E:rZ g w sx (a.eval x)) {base:Nat}{e:rA}(hr:kw base (s4 T o.type) sx=some e) (hf:z6 g base e):rU P o a g w H e:=by
 have j:(execOp a.eval o).run P w= .ok (.value (a.eval x)) w:=by rcases D with D|D<;>simp [execOp,D]
 generalize hst:s4 T o.type=ot at hr;unfold kw at hr;split at hr
 .cases hr;have hv:a.eval x= .slice none 0 0:=E.1;have z:=(hf base aQl (aOA _)).2;refine rU.value (v:= .slice none 0 0) (by rw[j,hv]) (sE.row (v:= .slice none 0 0) (xs:=[]) hH rfl (World.ownsRow_nil w 0 _ _) rfl (λm _=>z m) (λu F=>by rw[z] at F;cases F) (.inl ⟨rfl,rfl,rfl,aOA _,λ_ _ _=>rfl⟩) (λ_ _ _=>rfl) (λb hb=>by cases hb) (λb hb=>by cases hb) ⟨⟨by simp [Gh.tok],.inl ⟨rfl,rfl⟩⟩,trivial⟩)
 .cases hr;have hv:a.eval x= .slice none 0 0:=E.1;refine rU.value (v:= .slice none 0 0) (by rw[j,hv]) (sE.nilTok hH rfl (hf base aQl (aOA _)).2)
 .cases hr
 cases hr;exact rU.value j (.pure hH E)
theorem a7A {u:Ty}{y:List u.den}{k:pX}{v:qA}{cs:pV}(h:DU g (.list u) y v k) (j:cs=[v]):HC g (.list u) y cs (y5 k 0):=by
 intro q kk hm;cases k with
 |none=>simp [y5] at hm
 |some k=>
  simp only[y5,aOs,aOJ] at hm;obtain⟨rfl,rfl⟩:=hm;exact⟨u,y,v,by unfold rT;simp [uJ],by rw[j];rfl,h⟩
omit hT hH in
theorem RP {α:Type}: ∀(l m n:List α),rL (rL l m) n=rL l (rL m n)
 |[],_,_=>rfl
 |x::l,m,n=>by simp only[rL,RP l m n]
omit hT hH in
theorem FB {i:Nat}: ∀{l m:List (Nat×qQ)},i∈qW (rL l m)↔i∈qW l\/i∈qW m
 |[],m=>by simp [rL,qW]
 |(k,b)::l,m=>by simp only[rL,qW,aOv,FB (l:=l),or_assoc]
omit hT hH in
theorem sE.trans {H:sA}{e1 e2:rA}{g1 g2:Gh}{w1 w2:pZ}{v1 v2:qA}{side:List Prop}{rds:pY}(h:sE g w H e1 g1 w1 v1) (k:sE g1 w1 (rL e1.upd H) e2 g2 w2 v2):sE g w H ⟨side,e2.slot,rL e2.upd e1.upd,rds⟩ g2 w2 v2:=by
 have Q: ∀b o,sX g1 (rL e1.upd H) (qW e2.upd) b o->w.heap.size<=b\/sX g H (qW (rL e2.upd e1.upd)) b o:=by
  rintro b o ⟨i,blk,hi,z,D⟩;by_cases E:i∈qW e1.upd
  .refine(h.perm i blk b o E z D).imp id λ⟨j,bj,I,q⟩=>⟨j,bj,FB.2 (.inr I),q⟩
  exact .inr ⟨i,blk,FB.2 (.inl hi),(CV E).symm.trans z,(zY (h.gho i E).1 (h.gho i E).2).1 D⟩
 have mono: ∀b o,sX g H (qW e1.upd) b o->sX g H (qW (rL e2.upd e1.upd)) b o:=λb o ⟨j,bj,I,q⟩=>⟨j,bj,FB.2 (.inr I),q⟩;refine⟨h.le.trans k.le,k.slot,by simp only[RP];exact k.heap,?_,λi blk b o hi z D=>?_,λi hi=>?_,λi u y us z=>?_⟩
 .have E:Fr (sX g H (qW (rL e2.upd e1.upd))) w w1 g.S g1.S:=⟨h.fr.os,h.fr.tape,h.fr.output,h.fr.size,λb hb M=>h.fr.blk b hb (λo D=>M o (mono b o D)),λb o hb M=>h.fr.cell b o hb (λD=>M (mono b o D)),λb o K=>(h.fr.new b o K).imp id (Or.imp id (mono b o)),λb s K=>(h.fr.shape b s K).imp id λh o=>mono b o (h o)⟩;exact E.trans k.fr Q
 .simp only[RP] at z;by_cases G:i∈qW e2.upd
  .rcases k.perm i blk b o G z D with F|F
   .exact .inl (aOU h.fr.size F)
   exact Q b o F
  have O:i∈qW e1.upd:=(FB.1 hi).resolve_left G;rw[CV G] at z;exact(h.perm i blk b o O z ((zY (k.gho i G).1 (k.gho i G).2).1 D)).imp id (mono b o)
 .have G:i∉qW e2.upd:=λq=>hi (FB.2 (.inl q));have E:i∉qW e1.upd:=λq=>hi (FB.2 (.inr q));exact⟨(k.gho i G).1.trans (h.gho i E).1,(k.gho i G).2.trans (h.gho i E).2⟩
 simp only[RP] at z;rcases k.ty i u y us z with⟨x,ts,F⟩ |⟨F,R⟩
 .exact h.ty i u x ts F
 right;refine⟨?_,λn=>?_⟩
 .cases I:g.J i with
  |none=>rfl
  |some p=>rw[h.le.J i p I] at F;cases F
 cases I:g.cur i n with
 |none=>rfl
 |some p=>rw[<-R n,h.le.cur i n p I]
omit hT hH in
theorem sE.congrH {H H':sA}{e:rA}{g':Gh}{w':pZ}{v:qA}(h:sE g w H e g' w' v) (hH:H=H'):sE g w H' e g' w' v:=hH▸h
omit hT hH in
theorem ow {w:pZ}: ∀(ls:List (Nat×TypeId×Nat)) (i:Nat) (g:Gh) (H:sA),sM g w H->(∀j,i<=j->j<i+ls.length->∀n,g.cur j n=none)->
  ∃g1,sE g w H ⟨[],(.any,none),F5 ls i,[]⟩ g1 w undef/\g1.J=g.J/\(∀o k,(o,k)∈CO ls i->g1.cur k 0=some (.slice none 0 0))/\(∀k,k<i->g1.cur k=g.cur k)
 |[],i,g,H,hH,_=>⟨g,.pure hH ⟨trivial,trivial⟩,rfl,λ_ _ h=>by simp [CO] at h,λ_ _=>rfl⟩
 |(o,e,c)::r,i,g,H,hH,hf=>by
  have e1:=sE.nilTok (side:=[]) (d:= .val (.list .bool) []) (rds:=[]) (base:=i) (e:=e) (c:=c) (u:= .bool) hH rfl (hf i (aOA _) pP);have z: ∀k n,k≠i->(g.tok i 0 (.slice none 0 0)).cur k n=g.cur k n:=λk n hk=>by
   show (if k=i/\n=0 then _ else _)=_;rw[aOi (λh=>hk h.1)]
  obtain⟨g1,k1,k2,k3,k4⟩:=ow r (i+1) (g.tok i 0 (.slice none 0 0)) (rL [(i,qQ.grow e c 0)] H) e1.heap (λj E D n=>by rw[z j n pN];exact hf j pN aQm n);refine⟨g1,e1.trans k1,k2.trans rfl,λo' k hm=>?_,λk hk=>?_⟩
  .simp only[CO,aOv,aOJ] at hm;rcases hm with⟨rfl,rfl⟩ |hm
   .rw[k4 _ pN];show (if k=k/\0=0 then _ else _)=_;simp
   exact k3 o' k hm
  rw[k4 k pN];funext n;exact z k n pN
omit hT hH in
theorem pc: ∀{ls:List (Nat×TypeId×Nat)}{i o k:Nat},(o,k)∈CO ls i->∃q∈ls,q.1=o
 |[],_,_,_,h=>by simp [CO] at h
 |(o',e,c)::r,i,o,k,h=>by
  simp only[CO,aOv,aOJ] at h;rcases h with⟨j,_⟩ |h
  .exact⟨(o',e,c),by simp,j.symm⟩
  obtain⟨q,j,z⟩:=pc h;exact⟨q,by simp [j],z⟩
omit hT hH in
theorem pd {t:Ty}: ∀{ls:List (Nat×TypeId×Nat)},G1 t ls=true->∀q∈ls,G0 t q.1=true
 |[],_,_,h=>by cases h
 |(o,e,c)::r,h,q,j=>by
  simp only[G1,aOo] at h;rcases aOv.1 j with rfl|j
  .exact h.1
  exact pd h.2 q j
omit hT hH in
theorem W4: ∀(ls:List (Nat×TypeId×Nat)) (i j:Nat),j∈qW (F5 ls i)↔i<=j/\j<i+ls.length
 |[],i,j=>by simp only[F5,qW,aPr,aOh,false_iff];omega
 |(o,e,c)::r,i,j=>by
  simp only[F5,FB,W4 r (i+1) j,qW,aOs,aOe];omega
omit hT hH in
theorem Es {w:pZ}: ∀(R:List (Nat×Nat×Ty)) (i:Nat) (g:Gh) (H:sA),sM g w H->(∀j,i<=j->j<i+R.length->∀n,g.cur j n=none)->
  ∃g1,sE g w H ⟨[],(.any,none),LZ R i,[]⟩ g1 w undef/\g1.J=g.J/\(∀j,j<R.length->g1.cur (i+j) 0=some (.slice none 0 0))/\(∀k,k<i->g1.cur k=g.cur k)
 |[],i,g,H,hH,_=>⟨g,.pure hH ⟨trivial,trivial⟩,rfl,λ_ h=>by simp at h,λ_ _=>rfl⟩
 |(o,e,u)::r,i,g,H,hH,hf=>by
  have z:=hf i (aOA _) pP;have e1:=sE.row (side:=[]) (rds:=[]) (k:=i) (e:=e) (t:=u) (l:=[]) (n:=0) (s:=(.any,none)) (val:=undef) (v:= .slice none 0 0) (xs:=[]) hH rfl (World.ownsRow_nil w 0 _ _) rfl (λm _=>z m) (λu E=>by rw[z] at E;cases E) (.inl ⟨rfl,rfl,rfl,aOA _,λ_ _ _=>rfl⟩) (λ_ _ _=>rfl) (λb hb=>by cases hb) (λb hb=>by cases hb) ⟨trivial,trivial⟩;have D: ∀k n,k≠i->(g.tok i 0 (.slice none 0 0)).cur k n=g.cur k n:=λk n hk=>by
   show (if k=i/\n=0 then _ else _)=_;rw[aOi (λh=>hk h.1)]
  obtain⟨g1,k1,k2,k3,k4⟩:=Es r (i+1) (g.tok i 0 (.slice none 0 0)) (rL [(i,qQ.row e u [] 0)] H) e1.heap (λj I G n=>by rw[D j n pN];exact hf j pN aQm n);refine⟨g1,e1.trans k1,k2.trans rfl,λj F=>?_,λk hk=>?_⟩
  .cases j with
   |zero=>
    rw[aPm,k4 _ pN];show (if i=i/\0=0 then _ else _)=_;simp
   |succ j=>
    have:=k3 j aQn;rwa [show i+1+j=i+(j+1) by omega] at this
  rw[k4 k pN];funext n;exact D k n pN
omit hT hH in
theorem Et: ∀(R:List (Nat×Nat×Ty)) (i j:Nat),j∈qW (LZ R i)↔i<=j/\j<i+R.length
 |[],i,j=>by simp only[LZ,qW,aPr,aOh,false_iff];omega
 |(o,e,c)::r,i,j=>by
  simp only[LZ,FB,Et r (i+1) j,qW,aOs,aOe];omega
omit hT hH in
theorem pf {α:Type}: ∀l:List α,VG l=l.length
 |[]=>rfl
 |_::l=>by simp only[VG,pf l,aOe]
omit hT hH in
theorem W5 {α:Type}{x:α}: ∀{l m:List α},x∈rL l m↔x∈l\/x∈m
 |[],m=>by simp [rL]
 |y::l,m=>by simp only[rL,aOv,W5 (l:=l),or_assoc]
omit hT hH in
theorem a7B {g:Gh}{w:pZ}: ∀{t:Ty}{x:t.den}{cs:pV}{o:Nat},Rd g w t x cs->∀q∈G2 t x o,o<=q.1/\cs[q.1-o]? =some (.slice none 0 0):=by
 intro t
 induction t with
 |pair a b iha ihb=>
  intro x cs o r q j;obtain⟨c1,c2,rfl,r1,r2⟩:=r;simp only[G2,W5] at j;have F:=sU r1;rcases j with j|j
  .obtain⟨E,D⟩:=iha r1 q j;exact⟨E,by rw[aOy (aOw.1 D).1];exact D⟩
  .obtain⟨E,D⟩:=ihb r2 q j;refine⟨pN,?_⟩;rw[aOp pN,F,show q.1-o-a.cells=q.1- (o+a.cells) by omega];exact D
 |rl e u=>
  intro x cs o r q j;cases x with
  |none=>
   simp only[G2,la,aOs] at j;subst j;refine⟨aOA _,?_⟩;rw[show cs=[.slice none 0 0] from r];simp
  |some z=>simp [G2,la] at j
 |_=>intro x cs o r q j;simp [G2] at j
omit hT hH in
theorem a7C {g:Gh}{w:pZ}: ∀{t:Ty}{x:t.den}{cs:pV}{o:Nat},Rd g w t x cs->∀q∈H7 t x o,o<=q/\cs[q-o]? =some (.pointer none):=by
 intro t
 induction t with
 |pair a b iha ihb=>
  intro x cs o r q j;obtain⟨c1,c2,rfl,r1,r2⟩:=r;simp only[H7,W5] at j;have F:=sU r1;rcases j with j|j
  .obtain⟨E,D⟩:=iha r1 q j;exact⟨E,by rw[aOy (aOw.1 D).1];exact D⟩
  .obtain⟨E,D⟩:=ihb r2 q j;refine⟨pN,?_⟩;rw[aOp pN,F,show q-o-a.cells=q- (o+a.cells) by omega];exact D
 |mref=>
  intro x cs o r q j;cases x with
  |none=>
   simp only[H7,lf,aOs] at j;subst j;refine⟨aOA _,?_⟩;rw[show cs=[.pointer none] from r];simp
  |some z=>simp [H7,lf] at j
 |_=>intro x cs o r q j;simp [H7] at j
omit hT hH in
theorem Eu {g:Gh}{w:pZ}{t u:Ty}{x z:t.den}{y:u.den}{cs:pV}{o:Nat}{v:qA}(h:sW u y t x o=some z) (j:Rd g w u y [v]) (F:Rd g w t x cs) (hv:cs[o]? =some v):Rd g w t z cs:=by
 obtain⟨c1,c2,c3,rfl,rfl,E,G⟩:=ap j F h;have D:=sU j;simp only[List.length_singleton] at D;rw[<-D] at E;obtain⟨v',rfl⟩:=aPx.1 E;have:(c1++[v']++c3)[c1.length]? =some v':=by simp
 rw[this] at hv;obtain rfl:=aOj hv;exact G
omit hT hH in
theorem Ew {g:Gh}{w:pZ}{t:Ty}{cs:pV}: ∀{R:List (Nat×Nat×Ty)}{i:Nat}{x z:t.den},LY t i R (some x)=some z->Rd g w t x cs->(∀q∈R,cs[q.1]? =some (.slice none 0 0))->(∀j,j<R.length->g.cur (i+j) 0=some (.slice none 0 0))->Rd g w t z cs
 |[],i,x,z,h,E,_,_=>by simp only[LY,aOf] at h;exact h▸E
 |(o,e,u)::r,i,x,z,h,E,G,F=>by
  simp only[LY] at h;cases D:sW (.rl e u) (some (i,0)) t x o with
  |none=>rw[D] at h;cases r<;>simp [LY] at h
  |some x'=>
   rw[D] at h;refine Ew h (Eu (v:= .slice none 0 0) D ⟨_,by simpa using F 0 pP,rfl,.inl ⟨rfl,rfl⟩⟩ E (G _ aOz)) (λq I=>G q (aOu _ I)) (λj K=>?_);have:=F (j+1) (by simpa using K);rwa [show i+(j+1)=i+1+j by omega] at this
omit hT hH in
theorem Ey {g:Gh}{w:pZ}{t:Ty}{cs:pV}{i:Nat}{p:Pl}(hp:g.J i=some p) (j:p.2=0): ∀{M:pY}{x z:t.den},JB t i M (some x)=some z->Rd g w t x cs->(∀q∈M,cs[q]? =some (.pointer none)/\nc p.3 q)->Rd g w t z cs
 |[],x,z,h,F,_=>by simp only[JB,aOf] at h;exact h▸F
 |q::r,x,z,h,F,E=>by
  simp only[JB] at h;cases D:sW .mref (some (i,q)) t x q with
  |none=>rw[D] at h;cases r<;>simp [JB] at h
  |some x'=>
   rw[D] at h;exact Ey hp j h (Eu (v:= .pointer none) D ⟨p,hp,by rw[j,aOO];exact(E _ aOz).2,.inl rfl⟩ F (E _ aOz).1) (λq G=>E q (aOu _ G))
omit hT hH in
theorem bc {k:Nat}: ∀{ls:List (Nat×TypeId×Nat)}{q:Nat×TypeId×Nat},q∈CP k ls->q.1+1≠k
 |[],_,h=>by cases h
 |(o,e,c)::r,q,h=>by
  simp only[CP] at h;split at h
  .exact bc h
  rename_i j;rcases aOv.1 h with rfl|h
  .exact j
  exact bc h
omit hT in
theorem Ez {t:Ty}{y:t.den}{ls:List (Nat×TypeId×Nat)}{base:Nat}{e:rA}{cs:pV}{el:TypeId}(hr:Z2 base el t y ls (G1 t ls)=some e) (hf:z6 g base e) (X:Rd g w t y cs) (hn: ∀q∈ls,∃k,yC k t 0 cs/\q.1+1≠k):
  ∃g',sE g w H e g' (w.alloc (.cells cs.toArray el)) (.pointer (some ⟨w.heap.size,0,none⟩)):=by
 cases O:G1 t ls with
 |false=>rw[O] at hr;cases hr
 |true=>
  rw[O] at hr;simp only[Z2,pf] at hr;have cR:=λq D=>a7B (o:=0) X q D;have cM: ∀q∈Z1 el t y,cs[q]? =some (.pointer none)/\nc (some (el,cs.length)) q:=by
   intro q D;unfold Z1 at D;split at D
   .rename_i hb;have h0:=λq D=>a7C (o:=0) X q D;have O:=sU X;generalize H7 t y 0=M at D h0;rw[<-O] at D;unfold Cg at D;split at D
    .rename_i E;simp only[aOs] at D;subst D;exact⟨by simpa using(h0 0 pP).2,rfl,el,hb,by rw[E]⟩
    cases D
   cases D
  generalize G2 t y 0=R at hr cR;generalize Z1 el t y=M at hr cM;cases G:LY t (base+1+ls.length) R (some y) with
  |none=>
   rw[G] at hr;have:JB t base M none=none:=by cases M<;>rfl
   rw[this] at hr;cases hr
  |some z1=>
   rw[G] at hr;cases F:JB t base M (some z1) with
   |none=>rw[F] at hr;cases hr
   |some z=>
    rw[F] at hr;simp only[Ch,pf] at hr;obtain rfl:=(aOj hr);have Q: ∀j,base+1<=j->j<base+1+ls.length+R.length->g.J j=none/\∀n,g.cur j n=none:=λj K E=>hf j (by
     simp only[qW,aOv];right;rw[FB];by_cases h3:j<base+1+ls.length
     .exact .inr ((W4 ls (base+1) j).2 ⟨K,h3⟩)
     exact .inl ((Et R (base+1+ls.length) j).2 ⟨pN,E⟩)) pN
    have I:=hf base aQl (aOA _);obtain⟨g1,k1,k2,k3,k4⟩:=ow ls (base+1) g H hH (λj K E=>(Q j K pN).2);have V: ∀j,base+1+ls.length<=j->j<base+1+ls.length+R.length->∀n,g1.cur j n=none:=by
     intro j K E n;have:=(k1.gho j (by simp only;rw[W4];omega)).2;rw[this];exact(Q j pN E).2 n
    obtain⟨g2,m1,m2,m3,m4⟩:=Es R (base+1+ls.length) g1 _ k1.heap V;have hJ:(g2.var base w.heap.size (some (el,cs.length))).J base=some ⟨w.heap.size,0,some (el,cs.length)⟩:=by simp [Gh.var]
    have hc:Le g w (g2.var base w.heap.size (some (el,cs.length))) w:=by
     refine((k1.le.trans m1.le).trans ⟨λ_ _ h=>h,λ_ _ _=>rfl,λi p h=>?_,λ_ _ _ h=>h⟩);show (if i=base then _ else _)=_;rw[aOi (λe1=>by rw[e1,m2,k2,I.1] at h;cases h)];exact h
    have U:Rd (g2.var base w.heap.size (some (el,cs.length))) w t z cs:=Ey hJ rfl F (Ew G (xM hc X) (λq D=>by simpa using(cR q D).2) (λj hj=>m3 j hj)) cM;have Z:HC g2 t z cs (CO ls (base+1)):=by
     intro o k hm;obtain⟨q,D,rfl⟩:=pc hm;obtain⟨kx,Y,hd⟩:=hn q D;obtain⟨u,K,E⟩:=Eb Y U (pd O q D) pN;exact⟨u,[],_,K,E,m1.le.cur _ _ _ (k3 _ _ hm)⟩
    have e3:=sE.newVarJ (side:=[]) (rds:=[]) (base:=base) (toks:=CO ls (base+1)) (e:=el) m1.heap U Z (by rw[m2,k2];exact I.1) (by rw[m4 base pN,k4 base pN];exact funext I.2);have e4:=sE.trans (side:=[]) (rds:=[]) k1 m1;exact⟨_,sE.trans (side:=[]) (rds:=[]) e4 (e3.congrH (H':=rL (rL (LZ R (base+1+ls.length)) (F5 ls (base+1))) H) (by simp only[RP]))⟩
theorem ph {t:Ty}{y:t.den}{k:pX}{v:qA}(h:rZ g w (.val t y,k) v):sS g w t y v/\DU g t y v k:=by
 refine⟨h.1,?_⟩;cases k with
 |none=>trivial
 |some k=>exact h.2
theorem a7D {t:TypeId}{x:Operand}(K:o.op= .box t x) {sx:qP}(G:rZ g w sx (a.eval x)) {base:Nat}{e:rA}(hr:lg base t (s4 T t) sx=some e) (hf:z6 g base e):rU P o a g w H e:=by
 generalize hst:s4 T t=ot at hr;have z:(execOp a.eval o).run P w= .ok (.value (.pointer (some ⟨w.heap.size,0,none⟩))) (w.alloc (.cells (a.eval x).cells.toList.toArray t)):=by
  unfold execOp;rw[K];simp only[Instr.box,Go.newVar,newRow,aOr,run_newObj,aOl,aOD,aPv];rfl
 have one: ∀{u:Ty}{y:u.den},sS g w u y (a.eval x)->u.isRow=false->(a.eval x).cells.toList=[a.eval x]:=λhv D=>by
  have F:=BU (B9 D hv) _ (aOs.2 rfl);cases h:a.eval x<;>first|rfl|(rw[h] at F;simp [Value.oneCell'] at F)
 unfold lg at hr;split at hr
 .rename_i ti u y k;split at hr
  .obtain⟨hv,hk⟩:=ph hT hH G;have E:=F9 hv;unfold Ci at hr;split at hr
   .rename_i a' b' y' k' _;have M:yC k' (.pair a' b') 0 (a.eval x).cells.toList:=hk;obtain⟨g',h⟩:=Ez (el:=t) hH hr hf E (λq I=>⟨k',M,bc I⟩);exact rU.value z h
   .rename_i u' y' k';cases hr;have j:=hf base aQl (aOA _);exact rU.value z (sE.newVar hH E (a7A hT hH hk (one hv rfl)) j.1 (funext j.2))
   cases hr;have j:=hf base aQl (aOA _);exact rU.value z (sE.newVar hH E (λq k hm=>by cases hm) j.1 (funext j.2))
  cases hr
 cases hr
theorem Fa {t:TypeId}(run: ∀ti,s4 T t=some ti->(execOp a.eval o).run P w= .ok (.value (.pointer (some ⟨w.heap.size,0,none⟩))) (w.alloc (.cells (uS ti.ty).toArray t))) {base:Nat}{e:rA}(hr:VH base t (s4 T t)=some e) (hf:z6 g base e):rU P o a g w H e:=by
 generalize hst:s4 T t=ot at hr;unfold VH at hr;split at hr
 .rename_i u el by' ar ls_;cases hr;have j:=hf base aQl (aOA _);have D:=hf (base+1) aQl pN;have F:=t7 hT hst;have e1:=sE.nilTok (side:=[]) (d:= .val (.list u) []) (rds:=[]) (base:=base+1) (e:=el) (c:=u.cells) (u:=u) hH rfl D.2;have E:=e1.heap;have z:HC (g.tok (base+1) 0 (.slice none 0 0)) (.list u) [] [.slice none 0 0] [(0,base+1)]:=by
   intro q kk hm;simp only[aOs,aOJ] at hm;obtain⟨rfl,rfl⟩:=hm;exact⟨u,[],.slice none 0 0,by unfold rT;simp [uJ],rfl,by simp [Gh.tok]⟩
  have e2:=sE.newVar (side:=[]) (rds:=[]) (base:=base) (toks:=[(0,base+1)]) (e:=t) E (F8 (g.tok (base+1) 0 (.slice none 0 0)) w (.list u)) z j.1 (by
   funext n;show (if base=base+1/\n=0 then _ else _)=_;rw[aOi pN];exact j.2 n)
  exact rU.value (run _ hst) (sE.trans (side:=[]) (rds:=[]) e1 e2)
 .rename_i ti G;obtain⟨g',h⟩:=Ez (el:=t) hH hr hf (F8 g w ti.ty) (λq _=>⟨0,au _ _,pN⟩);exact rU.value (run _ hst) h
 cases hr
theorem a7E {t:TypeId}(D:o.op= .alloc t) {base:Nat}{e:rA}(hr:VH base t (s4 T t)=some e) (hf:z6 g base e):rU P o a g w H e:=by
 have run: ∀ti,s4 T t=some ti->(execOp a.eval o).run P w= .ok (.value (.pointer (some ⟨w.heap.size,0,none⟩))) (w.alloc (.cells (uS ti.ty).toArray t)):=by
  intro ti j;obtain⟨i,hi,F,z⟩:=HD (t7 hT j);have E:(yD ti.ty).cells=(uS ti.ty).toArray:=by
   have:=F9 (MG g w ti.ty);unfold yD;cases h:ti.ty<;>simp [Ty.isRow,uS,Value.cells]
  unfold execOp;rw[D];simp only[Instr.alloc,zeroValue,typeInfo,Go.newVar,newRow,aOr,aPe,hi,z,E,run_newObj,aOl,aOD];rfl
 exact Fa hT hH run hr hf
theorem a7F {t:TypeId}{x:Operand}(D:o.op= .box t x) {sx:qP}(E:rZ g w sx (a.eval x)) (z: ∀ti:Option TI,rZ g w (QT ti sx) (a.eval x)) {base:Nat}{e:rA}(hr:lh base t (s4 T t) sx=some e) (hf:z6 g base e):rU P o a g w H e:=by
 generalize hst:s4 T t=ot at hr;unfold lh at hr;split at hr
 .rename_i u el by' ar ls_ k;rw[<-hst] at hr;refine Fa hT hH (λti j=>?_) hr hf;rw[hst] at j;cases j;have hv:a.eval x= .slice none 0 0:=E.1;unfold execOp;rw[D];simp only[Instr.box,Go.newVar,newRow,aOr,run_newObj,aOl,aOD,hv];rfl
 rw[<-hst] at hr;exact a7D hT hH D (z _) hr hf
omit hT hH in
theorem a7G {t:Ty}{y:t.den}{k:pX}{v:qA}(h:DU g t y v k):DU g t y v (FY t k):=by
 cases t with
 |list u=>exact h
 |_=>trivial
omit hT hH in
theorem Fb {off:Nat}: ∀{l:pT}{o k:Nat},(o,k)∈R0 off l->∃q,o=off+q/\(q,k)∈l
 |[],_,_,h=>by cases h
 |(q,k')::r,o,k,h=>by
  simp only[R0,aOv,aOJ] at h;rcases h with⟨rfl,rfl⟩ |h
  .exact⟨q,rfl,aOz⟩
  obtain⟨q',z,j⟩:=Fb h;exact⟨q',z,aOu _ j⟩
omit hT hH in
theorem Fc {v t:Ty}{y:t.den}: ∀{u:Ty}{x z:u.den}{o q:Nat}{l:(Ty.list v).den},sW t y u x o=some z->rT (.list v) t y q=some l->q<t.cells->rT (.list v) u z (o+q)=some l:=by
 intro u
 induction u with
 |pair a b iha ihb=>
  intro x z o q l h g E;by_cases F:o=0/\t= .pair a b
  .obtain⟨rfl,rfl⟩:=F;unfold sW at h;rw[aP4 rfl] at h;simp only[uJ,aOf] at h;subst h;simpa using g
  .have keyh:(if o<a.cells then(sW t y a x.1 o).map (λq=>(q,x.2)) else(sW t y b x.2 (o-a.cells)).map (λq=>(x.1,q)))=some z:=by
    cases o with
    |zero=>
     unfold sW at h;rw[aPN (λe=>F ⟨rfl,e⟩)] at h;simpa using h
    |succ o=>simpa[sW] using h
   have keyg: ∀m,rT (.list v) (.pair a b) z m=(if m<a.cells then rT (.list v) a z.1 m else rT (.list v) b z.2 (m-a.cells)):=by
    intro m;cases m with
    |zero=>
     conv=>lhs;unfold rT
     rw[aPN aQh,Nat.zero_sub]
    |succ m=>simp [rT]
   rw[keyg];by_cases D:o<a.cells
   .rw[aOd D] at keyh;obtain⟨z',j,rfl⟩:=aOq.1 keyh;have G:o+t.cells<=a.cells:=by
     have: ∀{u:Ty}{x z:u.den}{o:Nat},sW t y u x o=some z->o+t.cells<=u.cells:=by
      intro u
      induction u with
      |pair a b iha ihb=>
       intro x z o h;have key: ∀o,(if o<a.cells then(sW t y a x.1 o).map (λq=>(q,x.2)) else(sW t y b x.2 (o-a.cells)).map (λq=>(x.1,q)))=some z->o+t.cells<=a.cells+b.cells:=by
        intro o h;by_cases D:o<a.cells
        .rw[aOd D] at h;obtain⟨z',j,_⟩:=aOq.1 h;have:=iha j;omega
        rw[aOi D] at h;obtain⟨z',j,_⟩:=aOq.1 h;have:=ihb j;omega
       cases o with
       |zero=>
        unfold sW at h;split at h
        .rename_i e;subst e;simp
        .exact key 0 aQe
       |succ o=>exact key (o+1) (by simpa[sW] using h)
      |_=>
       intro x z o h;cases o with
       |zero=>
        unfold sW at h;split at h
        .rename_i e;subst e;simp
        .simp at h
       |succ o=>simp [sW] at h
     exact this j
    rw[aOd pN];exact iha j g E
   .rw[aOi D] at keyh;obtain⟨z',j,rfl⟩:=aOq.1 keyh;rw[aOi pN,show o+q-a.cells=o-a.cells+q from by omega];exact ihb j g E
 |_=>
  intro x z o q l h g E;cases o with
  |zero=>
   unfold sW at h;split at h
   .rename_i e;subst e;simp only[uJ,aOf] at h
    try subst h
    simpa using g
   .simp at h
  |succ o=>simp [sW] at h
omit hT hH in
theorem Fd {v:Ty}: ∀{t:Ty}{x:t.den}{q:Nat}{l:(Ty.list v).den},rT (.list v) t x q=some l->q<t.cells:=by
 intro t
 induction t with
 |pair s t ihs iht=>
  intro x q l g;have key: ∀q,(if q<s.cells then rT (.list v) s x.1 q else rT (.list v) t x.2 (q-s.cells))=some l->q<s.cells+t.cells:=by
   intro q g;by_cases h:q<s.cells
   .omega
   rw[aOi h] at g;have:=iht g;omega
  cases q with
  |zero=>
   unfold rT at g;rw[aPN aQh] at g;exact key 0 (by simpa using g)
  |succ q=>exact key (q+1) (by simpa[rT] using g)
 |unit=>
  intro x q l g;cases q with
  |zero=>unfold rT at g;rw[aPN aQh] at g;cases g
  |succ q=>simp [rT] at g
 |_=>
  intro x q l g;cases q with
  |zero=>simp [Ty.cells]
  |succ q=>simp [rT] at g
omit hT in
theorem sE.retok {i:Nat}{u:Ty}{z:u.den}{toks nt:pT}{p:Pl}(hb:qU H i=some (.cells u z toks)) (hp:g.J i=some p)
  (V: ∀cs,Rd g w u z cs->w.rangeAt p.1 p.2 cs->HC g u z cs nt):sE g w H ⟨[],(.any,none),[(i,.cells u z (rL nt toks))],[]⟩ g w undef:=by
 obtain⟨p',cs,F,R,E,I,K,G⟩:=hH.blk i _ hb;rw[hp] at F;obtain rfl:=aOj F;have get: ∀j blk,j∈qW [(i,qQ.cells u z (rL nt toks))]->qU (rL [(i,qQ.cells u z (rL nt toks))] H) j=some blk->j=i/\blk= .cells u z (rL nt toks):=by
  intro j blk hi D;simp only[qW,aOs] at hi;subst hi;simp only[rL,qU,aPl,aOf] at D;exact⟨rfl,D.symm⟩
 have perm: ∀j blk b o,j∈qW [(i,qQ.cells u z (rL nt toks))]->qU (rL [(i,qQ.cells u z (rL nt toks))] H) j=some blk->sD g j blk b o->w.heap.size<=b\/sX g H (qW [(i,qQ.cells u z (rL nt toks))]) b o:=by
  intro j blk b o hi D U;obtain⟨rfl,rfl⟩:=get j blk hi D;exact .inr ⟨j,_,hi,hb,U⟩
 have le:Le g w g w:=⟨λ_ _ h=>h,λ_ _ _=>rfl,λ_ _ h=>h,λ_ _ _ h=>h⟩;have fr:Fr (sX g H (qW [(i,qQ.cells u z (rL nt toks))])) w w g.S g.S:=⟨rfl,rfl,rfl,aOA _,λ_ _ _=>rfl,λ_ _ _ _=>⟨rfl,rfl⟩,λ_ _ h=> .inl h,λ_ _ h=> .inl h⟩;refine⟨le,⟨trivial,trivial⟩,hH.upd le fr perm (λ_ _=>⟨rfl,rfl⟩) (λj blk hi D=>?_) (λi j bi bj b o hi X M Q O _ _=>M ((get i bi hi Q).1.trans (get j bj X O).1.symm)) (λb o h=>hH.sl b o h),fr,perm,λ_ _=>⟨rfl,rfl⟩,λj u' y' us h=>?_⟩
 .obtain⟨rfl,rfl⟩:=get j blk hi D;refine⟨p,cs,hp,R,E,I,K,λq kk hm=>?_⟩;rcases(W5.1 hm) with hm|hm
  .exact V cs R E q kk hm
  exact G q kk hm
 simp only[rL,qU] at h;split at h
 .rename_i e1;subst e1;simp only[aOf,qQ.cells.injEq] at h;obtain⟨rfl,_⟩:=h;exact .inl ⟨z,toks,hb⟩
 exact .inl ⟨y',us,h⟩
omit hT hH in
theorem a7H {g:Gh}{t a b:Ty}{y:t.den}{v:qA}{k:pX}(h:k.isSome=true) (j:t= .pair a b) (hk:DU g t y v k): ∃m,k=some m/\yC m t 0 v.cells.toList:=by
 subst j;cases k with
 |none=>cases h
 |some k=>exact⟨k,rfl,hk⟩
omit hT hH in
theorem a7I {base i off:Nat}{b:Option qQ}{ls:List (Nat×TypeId×Nat)}{t:Ty}{y:t.den}{k:pX}{e:rA}(h:ZE base i off b ls t y k=some e):
  (∃(s:Ty) (x:s.den) (toks:pT) (z:s.den),b=some (.cells s x toks)/\sW t y s x off=some z/\k.isSome=true/\(∃a c,t= .pair a c)/\∃m,k=some m/\G1 t (CP m ls)=true/\
   e=⟨[],(.any,none),(i,.cells s z (rL (R0 off (CO (CP m ls) base)) (vZ toks off t.cells)))::rL (F5 (CP m ls) base) [(i,.cells s z (vZ toks off t.cells))],[i]⟩)\/ZC t y k i off b=some e:=by
 unfold ZE at h;split at h
 .rename_i q r a c y' k';cases D:G1 (.pair a c) (CP k' (q::r)) with
  |false=>rw[D] at h;unfold ZD at h;split at h<;>first|cases h|(rename_i E;cases E)
  |true=>
   rw[D] at h;unfold ZD at h;split at h
   .rename_i s x toks _;cases j:sW (.pair a c) y' s x off with
    |none=>rw[j] at h;cases h
    |some z=>
     rw[j] at h;exact .inl ⟨s,x,toks,z,rfl,j,rfl,⟨a,c,rfl⟩,_,rfl,D,(aOj h).symm⟩
   cases h
 exact .inr h
omit hT hH in
theorem Fe {i off k n el:Nat}{u v:Ty}{x:v.den}{y:Option rA}{e:rA}(h:Cq i off k n el u v x y=some e):y=some e\/lz i (yM el u (some (k,n)) v x off)=some e:=by
 cases y with
 |some r=>exact .inl h
 |none=>exact .inr h
theorem a7J {t:TypeId}{x y:Operand}(ho:o.op= .store t x y) {sx sy:qP}(hx:rZ g w sx (a.eval x)) (hy:rZ g w sy (a.eval y)) {base:Nat}{e:rA}(hr:ZG base H (s4 T t) sx sy=some e) (hW: ∀p∈e.side,p) (hf:z6 g base e):rU P o a g w H e:=by
 generalize hst:s4 T t=ot at hr;unfold ZG at hr;split at hr
 .rename_i ti i off k kk n k2;generalize hb:qU H i=ob at hr;unfold ma at hr;split at hr
  .rename_i u el _ _ _ v x' toks;rcases Fe hr with hr|hr
   case inr=>
    generalize F:yM el u (some (kk,n)) v x' off=oz at hr;cases oz with
    |none=>cases hr
    |some z'=>
     cases hr;have O:=t7 hT hst;obtain⟨p,hp,hv⟩:=zH hx.1;obtain⟨V,M⟩:=hy.1;have K:Rd g w (.rl el u) (some (kk,n)) [a.eval y]:=⟨_,V,rfl,M⟩;obtain⟨I,G⟩:=zX.openS (side:=[]) (rds:=[1000000000,i]) hH hb hp F K rfl rfl;have X:(a.eval y).cells= #[a.eval y]:=by rcases M with⟨M,_⟩ |⟨_,_,M,_⟩<;>(rw[M];rfl)
     refine rU.skipW (w':=w.setCells p.1 (p.2+off) [a.eval y]) ?_ I;obtain⟨inf,hi,Q,_⟩:=HD O;have E:=run_storeCells_cells (P:=P) p.1 (p.2+off) [a.eval y] 0 w (λj U=>by simpa using(G j U).1) (λj U=>by simpa using(G j U).2) (λv hv=>BU K v hv);simp only[aPm] at E;have R:(a.eval y).cells.size=inf.size:=by rw[Q,X];rfl
     have hQ:(a.eval y).cells.toList=[a.eval y]:=by rw[X]
     simp only[execOp,ho,hv,Instr.storeAt,Instr.sureAddr,storeVar,aOr,aOD,aOl,sizeOf,typeInfo,aPe,hi,R,ne_eq,not_true_eq_false,aPq,hQ,E]
   generalize F:sW (.rl el u) (some (kk,n)) v x' off=oz at hr;cases oz with
   |none=>cases hr
   |some z'=>
    cases hr;have O:=t7 hT hst;obtain⟨p,hp,hv⟩:=zH hx.1;obtain⟨V,M⟩:=hy.1;have K:Rd g w (.rl el u) (some (kk,n)) [a.eval y]:=⟨_,V,rfl,M⟩;obtain⟨I,G⟩:=sE.store (side:=[]) (rds:=[i]) (k:=none) (v:=a.eval y) hH hb hp F K trivial (λ_ _ _=>rfl) (λ_=>rfl);have X:(a.eval y).cells= #[a.eval y]:=by rcases M with⟨M,_⟩ |⟨_,_,M,_⟩<;>(rw[M];rfl)
    refine rU.skip (w':=w.setCells p.1 (p.2+off) [a.eval y]) ?_ I;obtain⟨inf,hi,Q,_⟩:=HD O;have E:=run_storeCells_cells (P:=P) p.1 (p.2+off) [a.eval y] 0 w (λj U=>by simpa using(G j U).1) (λj U=>by simpa using(G j U).2) (λv hv=>BU K v hv);simp only[aPm] at E;have R:(a.eval y).cells.size=inf.size:=by rw[Q,X];rfl
    have hQ:(a.eval y).cells.toList=[a.eval y]:=by rw[X]
    simp only[execOp,ho,hv,Instr.storeAt,Instr.sureAddr,storeVar,aOr,aOD,aOl,sizeOf,typeInfo,aPe,hi,R,ne_eq,not_true_eq_false,aPq,hQ,E]
  cases hr
 .rename_i ti k n c i o' _ u z kk;split at hr
  .rename_i hu;subst hu;generalize hk:qU H k=ob at hr;unfold ZF at hr;split at hr
   .rename_i e' t' l m;split at hr
    .rename_i hc;generalize F:sW ti.ty z t' (qI t' l i) o'=oz at hr;cases oz with
     |none=>cases hr
     |some z'=>
      cases hr;have kn:=hW _ (aOs.2 rfl);obtain⟨b,cap,xs,c1,c2,c3,hv,hh,hL,hF,hl,hi,h0,e1,e2,e3,e4⟩:=Eh hT hH hx.1 hk kn hc;subst kn;have O:=t7 hT hst;obtain⟨hC,hN⟩:=ph hT hH hy;have K:=F9 hC;have kp:=sU K;obtain⟨d1,d2,d3,f1,f2,f3,f4⟩:=ap K e4 F;obtain⟨_,_,_,_,h4,vr,_,hY,ht⟩: ∃(_:True) (_:True) (v0:qA) (xs0:pV),g.cur k n=some v0/\w.ownsRow 0 e' t'.cells v0 n xs0/\uV (Rd g w t') t'.cells l xs0/\(∀m,n<m->g.cur k m=none)/\∀b,v0.ownBlock=some b->∀o,¬g.S b o:=by
       obtain⟨_,v0,xs0,q1,q2,q3,q4,q5⟩:=hH.blk k _ hk;exact⟨trivial,trivial,v0,xs0,q1,q2,q3,q4,q5⟩
      rw[hh] at h4;obtain rfl:=aOj h4;rcases hL.2 with⟨h5,_⟩ |⟨q,cap',cur,h5,_,hg,q0,va,q9,hU⟩
      .cases h5
      simp only[aPy,aOf,Addr.mk.injEq,and_true,true_and] at h5;obtain⟨rfl,rfl⟩:=h5;have k6:=hL.1;have kx:=sU f4;simp only[aOg] at kx;have k5:c2.length=t'.cells:=by rw[e3,hc]
      have hd:d1.length+d2.length+d3.length=t'.cells:=by rw[<-k5,f1];simp only[aOg]
      have k7:c1.length+c2.length+c3.length=n*t'.cells:=by rw[<-k6,e1];simp only[aOg]
      have hs:cur.toList=(c1++(d1++d2++d3)++c3)++cur.toList.drop (n*t'.cells):=by
       conv=>lhs;rw[<-aPV (n*t'.cells) cur.toList,hU,e1,f1]
      obtain⟨D,hD⟩: ∃D,D=cur.toList.drop (n*t'.cells):=⟨_,rfl⟩;rw[<-hD] at hs;have hA:cur.toList=(c1++d1)++(d2++(d3++c3++D)):=by rw[hs];simp only[aOk]
      have hK:i.toNat*c+o'=(c1++d1).length:=by rw[aOg,e2,f2]
      have kq:(a.eval y).cells.toList.length=d2.length:=by rw[kp,f3]
      have k0:i.toNat*c+o'+0+(a.eval y).cells.toList.length<=cur.size:=by
       have:cur.size=cur.toList.length:=by simp
       rw[this,hA,aPm,hK,kq];simp only[aOg];omega
      have hI:=run_storeCells_at P b (i.toNat*c+o') e' (a.eval y).cells.toList 0 cur w hg k0 (λv hv=>BU K v hv);have Z:cur.toList.take (i.toNat*c+o'+0)++(a.eval y).cells.toList++cur.toList.drop (i.toNat*c+o'+0+(a.eval y).cells.toList.length)=(c1++(d1++(a.eval y).cells.toList++d3)++c3)++D:=by
       rw[aPm,hK,kq,hA,aPX,List.drop_append,List.drop_of_length_le pN,List.nil_append,aOW,List.drop_left];simp only[aOk]
      rw[Z] at hI;obtain⟨inf,ky,Q,_⟩:=HD O;have R:(a.eval y).cells.size=inf.size:=by rw[Q,<-kp,aPi]
      have hB:((c1++(d1++(a.eval y).cells.toList++d3)++c3)++D).length=cur.size:=by
       have:cur.size=cur.toList.length:=by simp
       rw[this,hs];simp only[aOg];omega
      have hG:(c1++(d1++(a.eval y).cells.toList++d3)++c3).length=n*t'.cells:=by
       rw[<-k7];simp only[aOg];rw[f1];simp only[aOg];omega
      have hX:(w.setRow b ((c1++(d1++(a.eval y).cells.toList++d3)++c3)++D).toArray).ownsRow 0 e' t'.cells (.slice (some ⟨b,0,none⟩) n cap) n (c1++(d1++(a.eval y).cells.toList++d3)++c3):=
       ⟨hG,.inr ⟨b,cap,_,rfl,aPL _,setRow_heap w b cur _ e' _ hg,q0,va,by rw[aPg,hB,q9],by rw[<-hG];exact aPX⟩⟩
      have vd:uV (Rd g w t') t'.cells (l.set i.toNat z') (c1++(d1++(a.eval y).cells.toList++d3)++c3):=by
       obtain⟨q1,q2,q3,r1,r2,r3,r4⟩:=az hF f4 (sU f4) hi;have s1:q1=c1/\q2=c2/\q3=c3:=by
        have h6:q1++(q2++q3)=c1++(c2++c3):=by rw[<-aOk,<-r1,e1,aOk]
        obtain⟨h7,h8⟩:=aP5 h6 (by rw[r2,e2,hc]);obtain⟨h9,vl⟩:=aP5 h8 (by rw[r3,e3,hc]);exact⟨h7,h9,vl⟩
       obtain⟨rfl,rfl,rfl⟩:=s1;exact r4
      have hz: ∀o,sX g H [k] b o:=λo=>⟨k,_,by simp,hk,_,hh,rfl⟩;refine rU.skip (w':=w.setRow b ((c1++(d1++(a.eval y).cells.toList++d3)++c3)++D).toArray) ?_ (sE.row (v:= .slice (some ⟨b,0,none⟩) n cap) hH (by rw[List.length_set];exact hl) hX vd hY (λu hu=>by rw[hh] at hu;exact(aOj hu).symm)
       (.inr ⟨some b,⟨rfl,rfl,rfl,by simp,λq _ hq=>aP8 w b q _ (λe=>hq (by rw[e]))⟩,λb' Y o=>by cases Y;exact hz o⟩) (λb' o hS=>?_) ht (λb' Y=>by cases Y;exact .inr hz) ⟨trivial,trivial⟩)
      .simp only[execOp,ho,hv,Instr.storeAt,Instr.sureAddr,storeVar,aOr,aOD,aOl,sizeOf,typeInfo,aPe,ky,R,ne_eq,not_true_eq_false,aPq,hI]
      have qs:b'≠b:=λe=>ht b rfl o (e▸hS);exact aOH (a:=⟨b',o,none⟩) (aP8 w b b' _ qs)
    cases hr
   cases hr
  cases hr
 .rename_i ti i off k u z kk;split at hr
  .rename_i hu;subst hu;generalize hb:qU H i=ob at hr;have O:=t7 hT hst;obtain⟨p,hp,hv⟩:=zH hx.1;obtain⟨hC,hN⟩:=ph hT hH hy;have K:=F9 hC;have kt:ti.ty.isRow=false->(a.eval y).cells.toList=[a.eval y]:=λZ=>by
    have V:=BU (B9 Z hC) _ (aOs.2 rfl);cases h:a.eval y<;>first|rfl|(rw[h] at V;simp [Value.oneCell'] at V)
   have hJ:w.there p.1 (p.2+off) (a.eval y).cells.toList.length->(execOp a.eval o).run P w= .ok .skip (w.setCells p.1 (p.2+off) (a.eval y).cells.toList):=by
    intro G;obtain⟨inf,hi,Q,_⟩:=HD O;have hM:=sU K;have E:=run_storeCells_cells (P:=P) p.1 (p.2+off) (a.eval y).cells.toList 0 w (λj U=>by simpa using(G j U).1) (λj U=>by simpa using(G j U).2) (λv hv=>BU K v hv);simp only[aPm] at E;have R:(a.eval y).cells.size=inf.size:=by rw[Q,<-hM,aPi]
    simp only[execOp,ho,hv,Instr.storeAt,Instr.sureAddr,storeVar,aOr,aOD,aOl,sizeOf,typeInfo,aPe,hi,R,ne_eq,not_true_eq_false,aPq,E]
   rcases a7I hr with⟨s,x',toks,z',Y,F,hV,⟨pa,pb,hw⟩,mk_,q6,ki,rfl⟩ |hr
   .rw[Y] at hb;have hn:yC mk_ ti.ty 0 (a.eval y).cells.toList:=by
     obtain⟨m',e1,e2⟩:=a7H hV hw hN;rw[q6] at e1;obtain rfl:=aOj e1;exact e2
    have ko:=λq hq=>bc (k:=mk_) (ls:=ti.ls) (q:=q) hq;generalize CP mk_ ti.ls=lsm at hf ki ko|-;obtain⟨I,G⟩:=sE.store (side:=[]) (rds:=[i]) (k:=none) (v:=undef) hH hb hp F K trivial (λ_ _ _=>rfl) (λh=>by rw[hw] at h;cases h);have q8: ∀j,base<=j->j<base+lsm.length->∀n,g.cur j n=none:=λj V M=>(hf j (by
     simp only[qW,aOv];right;rw[FB];exact .inl ((W4 _ base j).2 ⟨V,M⟩)) V).2
    obtain⟨g1,k1,k2,k3,k4⟩:=ow lsm base g _ I.heap q8;have e2:=sE.trans (side:=[]) (rds:=[]) I k1;have vv:i<base:=by
     rcases aPs i base with h|h
     .exact h
     have:=(hf i aQl h).1;rw[hp] at this;cases this
    have q7:i∉qW (F5 lsm base):=λh=>by
     have:=(W4 _ base i).1 h;omega
    have vb:qU (rL (rL (F5 lsm base) [(i,qQ.cells s z' (vZ toks off ti.ty.cells))]) H) i=some (.cells s z' (vZ toks off ti.ty.cells)):=by
     rw[RP,CV q7];simp [rL,qU]
    have vs:=sU K;have e3:=sE.retok (p:=p) (nt:=R0 off (CO lsm base)) e2.heap vb (by rw[k2];exact hp) (λcs vc k9 o k hm=>by
     obtain⟨q,rfl,hq⟩:=Fb hm;obtain⟨en,he,rfl⟩:=pc hq;obtain⟨u,V,M⟩:=Eb hn K (pd ki en he) (by have:=ko en he;omega);have kd:en.1<(a.eval y).cells.toList.length:=(aOw.1 M).1;have h3:=Fc F V pN;refine⟨u,[],.slice none 0 0,h3,?_,k3 _ _ hq⟩;have hM:=sU vc;have vt:=Fd h3;have hc:cs[off+en.1]? =some cs[off+en.1]:=aOn pN;have kc:=k9 _ _ hc;have kb:=aPB p.1 (a.eval y).cells.toList (p.2+off) w (λj U=>(G j U).1) en.1 kd;rw[aOX] at kb;rw[kb] at kc;rw[hc,<-kc,<-M,aOn kd])
    exact rU.skip (w':=w.setCells p.1 (p.2+off) (a.eval y).cells.toList) (hJ G) (sE.trans (side:=[]) (rds:=[i]) e2 e3)
   unfold ZC at hr;split at hr
   .rename_i s q toks _;generalize F:sW ti.ty z s q off=oz at hr;cases oz with
    |none=>cases hr
    |some z'=>
     cases hr;obtain⟨I,G⟩:=sE.store (side:=[]) (rds:=[i]) hH hb hp F K (a7G hN) (λa b e=>by rw[e];rfl) kt;exact rU.skip (w':=w.setCells p.1 (p.2+off) (a.eval y).cells.toList) (hJ G) I
   cases hr
  cases hr
 cases hr
theorem pi {t:Ty}{n:Nat}{ev:Operand->qA}{ρ:Operand->qP}: ∀(ps:List (Nat×Operand)) (l z:List t.den) (cs:pV),uV (Rd g w t) t.cells l cs->l.length=n->(∀q∈ps,rZ g w (ρ q.2) (ev q.2))->BO t n (some l) (uU ρ ps)=some z->
  ∃cs',Instr.fill (λi=>some (i*t.cells,t.cells)) cs.toArray (ps.map λq=>(q.1,ev q.2))=some cs'.toArray/\uV (Rd g w t) t.cells z cs'/\z.length=n
 |[],l,z,cs,r,F,_,h=>by
  simp only[uU,BO,aOf] at h;subst h;exact⟨cs,rfl,r,F⟩
 |(i,q)::ps,l,z,cs,r,F,G,h=>by
  have h0:=G (i,q) pP;generalize Q:ρ q=s at h0;simp only[uU,Q] at h;obtain⟨d,k⟩:=s;cases d with
  |val u y=>
   simp only[BO,Bv] at h;by_cases I:u=t/\i<n
   .rw[aP4 I] at h;obtain⟨rfl,hi⟩:=I;simp only[uJ] at h;have j:=F9 h0.1;obtain⟨c1,c2,c3,rfl,O,M,K⟩:=az (i:=i) r j (sU j) pN;obtain⟨cs',k1,k2,k3⟩:=pi ps (l.set i y) z _ K aQn (λq E=>G q (by simp [E])) h;refine⟨cs',?_,k2,k3⟩;simp only[aO7];rw[nv rfl (by have:=sU j;simpa using this) (c1:=c1) (c2:=c2) (c3:=c3) pP O M];exact k1
   .rw[aPN I] at h;unfold Bu at h;by_cases D:(u=sN/\Ty.part=t)/\i<n
    .rw[aP4 D] at h;obtain⟨⟨rfl,rfl⟩,hi⟩:=D;simp only[uJ] at h;have j:Rd g w .part (qG.of y) (ev q).cells.toList:=a6V (F9 h0.1);obtain⟨c1,c2,c3,rfl,O,M,K⟩:=az (i:=i) r j (sU j) pN;obtain⟨cs',k1,k2,k3⟩:=pi ps (l.set i (qG.of y)) z _ K aQn (λq E=>G q (by simp [E])) h;refine⟨cs',?_,k2,k3⟩;simp only[aO7];rw[nv rfl (by have:=sU j;simpa using this) (c1:=c1) (c2:=c2) (c3:=c3) pP O M];exact k1
    rw[aPN D] at h;cases ps with
    |nil=>simp [uU,BO] at h
    |cons p ps=>simp [uU,BO] at h
  |_=>simp [BO] at h
theorem pj {t:TypeId}{n:Nat}{ps:Array (Nat×Operand)}(U:o.op= .buildSlice t n ps) {ρ:Operand->qP}(hρ: ∀q∈ps.toList,rZ g w (ρ q.2) (a.eval q.2)) {u:Ty}{el:TypeId}{by':Nat}{ar:Bool}{ls:List (Nat×TypeId×Nat)}(hst:s4 T t=some ⟨.list u,el,by',ar,ls⟩) {l:List u.den}
  (hb:BO u n (some (DQ u n)) (uU ρ ps.toList)=some l) (X:n<=16777216/\n*u.cells<=16777216):
  ∃cs':pV,uV (Rd g w u) u.cells l cs'/\l.length=n/\(execOp a.eval o).run P w= .ok (.value (.slice (some ⟨w.heap.size,0,none⟩) n n)) (w.alloc (.cells cs'.toArray el)):=by
    obtain⟨V,Y,_⟩:=(t7 hT hst).2;obtain⟨ei,K,O⟩:=aOq.1 Y;simp only[aOJ] at O;obtain⟨cs',k1,k2,k3⟩:=pi hT hH ps.toList (DQ u n) l _ (Em n) (En u n) hρ hb;refine⟨cs',k2,k3,?_⟩;have Q:(yD u).cells=(uS u).toArray:=by
     unfold yD;cases h:u<;>simp [Ty.isRow,uS,Value.cells]
    have F:(ps.map fun(q:Nat×Operand)=>(q.1,a.eval q.2)).toList=ps.toList.map λq=>(q.1,a.eval q.2):=by simp
    have D:(uS u).length=u.cells:=sU (F8 g w u);have E: ∀z:Array qA,(n*u.cells≠0->z=(uS u).toArray)->(Array.range (n*u.cells)).map (λi=>z[i%z.size]!)=(List.flatten (List.replicate n (uS u))).toArray:=by
     intro z R;by_cases h0:n*u.cells=0
     .rw[h0];have:List.flatten (List.replicate n (uS u))=[]:=aOM (by simp [D,h0]);rw[this];simp
     rw[R h0];have M:0<u.cells:=Nat.pos_of_ne_zero (λh=>h0 (by rw[h];simp));apply aPn.1;apply List.ext_getElem?;intro j;have key: ∀(m j:Nat),j<m*u.cells->(List.flatten (List.replicate m (uS u)))[j]? =(uS u)[j%u.cells]? :=by
      intro m
      induction m with
      |zero=>intro j h;simp at h
      |succ m ih=>
       intro j h;rw[List.replicate_succ,aO0];by_cases I:j<u.cells
       .rw[aOy pN,Nat.mod_eq_of_lt I]
       rw[aOp pN,D,ih (j-u.cells) (by rw[aPd] at h;omega)];congr 1
       conv=>rhs;rw[<-Nat.sub_add_cancel (Nat.le_of_not_lt I),Nat.add_mod_right]
     by_cases I:j<n*u.cells
     .have hm:j%u.cells<(uS u).length:=by rw[D];exact Nat.mod_lt _ M
      simp only[Array.toList_map,Array.toList_range,List.getElem?_map,List.getElem?_range I,Option.map_some,aPg,D];rw[key n j I,aOn hm];simp [getElem!_pos,hm]
     rw[aPt pQ,aPt (by simp [D];omega)]
    have G: ¬(n*u.cells>2^24):=by have:=X.2;omega
    by_cases h0:n*u.cells=0
    .simp only[execOp,U,Instr.buildSlice,aOr,aOC V,aOl,sizeOf,typeInfo,aPe,K,O.1,aOD,aOi G,aOd h0];rw[E #[] (λh=>absurd h0 h),F,k1];simp only[newRow,aOr,run_newObj,aOl,aOD];rfl
    simp only[execOp,U,Instr.buildSlice,aOr,aOC V,aOl,sizeOf,typeInfo,aPe,K,O.1,aOD,aOi G,aOi h0,zeroValue,O.2.2,Q];rw[E (uS u).toArray (λ_=>rfl),F,k1];simp only[newRow,aOr,run_newObj,aOl,aOD];rfl
theorem a7K {t:TypeId}{n:Nat}{ps:Array (Nat×Operand)}(G:o.op= .buildSlice t n ps) {ρ:Operand->qP}(hρ: ∀q∈ps.toList,rZ g w (ρ q.2) (a.eval q.2)) {base:Nat}{e:rA}(hr:lm base n (uU ρ ps.toList) (s4 T t)=some e) (hf:z6 g base e):rU P o a g w H e:=by
 generalize hst:s4 T t=ot at hr;unfold lm at hr;split at hr
 .rename_i u el by' ls_;split at hr
  .rename_i I;generalize hb:BO u n (some (DQ u n)) (uU ρ ps.toList)=ol at hr;cases ol with
   |none=>cases hr
   |some l=>
    simp only[Cj] at hr;split at hr
    .rename_i E;cases hr;obtain⟨cs',k2,k3,j⟩:=pj hT hH G hρ hst hb E.2;have z:=(hf base aQl (aOA _)).2;have D:=MF k2;have F:(w.alloc (.cells cs'.toArray el)).ownsRow 0 el u.cells (.slice (some ⟨w.heap.size,0,none⟩) n n) n cs':=⟨by rw[D,k3],.inr ⟨w.heap.size,n,cs'.toArray,rfl,aPL _,aQc w _,aOA _,by unfold maxLen;omega,by simp [D,k3],by simp [<-k3,<-D]⟩⟩;refine rU.value j (sE.row (v:= .slice (some ⟨w.heap.size,0,none⟩) n n) (xs:=cs') hH k3 F k2 (λm _=>z m) (λu K=>by rw[z] at K;cases K) (.inl (World.grownBy_alloc w _ _)) (λb o h=>aOH (a:=⟨b,o,none⟩) (aOK _ _ _ (hH.sl b o h))) (λb hb o M=>?_) (λb hb=>?_) ⟨⟨by simp [Gh.tok],.inr ⟨_,_,rfl,aOA _⟩⟩,trivial⟩)
     .cases hb;exact aPO _ (hH.sl _ _ M)
     cases hb;exact .inl (aOA _)
    cases hr
  rename_i I;generalize hb:BO u n (some (DQ u n)) (uU ρ ps.toList)=ol at hr;cases ol with
  |none=>cases hr
  |some l=>
   simp only[Z5] at hr;split at hr
   .rename_i E;cases hr;obtain⟨cs',k2,k3,j⟩:=pj hT hH G hρ hst hb E;have z:=hf base aQl (aOA _);exact rU.value (v:= .slice (some ⟨w.heap.size,0,none⟩) n n) (w':=w.alloc (.cells cs'.toArray el)) j (sE.lit hH rfl k3 k2 (by unfold maxLen;omega) z.2)
   cases hr
 .rename_i u el by' ls_;generalize hb:BO u n (some (DQ u n)) (uU ρ ps.toList)=ol at hr;cases ol with
  |none=>cases hr
  |some l=>
   simp only[Z5] at hr;split at hr
   .rename_i E;cases hr;obtain⟨cs',k2,k3,j⟩:=pj hT hH G hρ hst hb E;have z:=hf base aQl (aOA _);exact rU.value (v:= .slice (some ⟨w.heap.size,0,none⟩) n n) (w':=w.alloc (.cells cs'.toArray el)) j (sE.lit hH rfl k3 k2 (by unfold maxLen;omega) z.2)
   cases hr
 cases hr
theorem a7L {args:Array Operand}{tys:Array TypeId}(ho:o.op= .call ⟨.builtin .append,args,tys⟩) {ρ:Operand->qP}(hρ: ∀x∈args.toList,rZ g w (ρ x) (a.eval x)) {e:rA}
  {t:TypeId}(h6:tys= #[t,t]) (hr:ZN H (s4 T t) (w4 ρ args.toList)=some e) (hs: ∀p∈e.side,p):rU P o a g w H e:=by
 subst h6;generalize hst:s4 T t=ot at hr;generalize hN:w4 ρ args.toList=ss at hr;unfold ZN at hr;split at hr
 .rename_i u el by' ar ls_ k n _ b1 r _;split at hr
  .rename_i kd;subst kd;generalize hk:qU H k=ob at hr;unfold ZM at hr;split at hr
   .rename_i e' t' l m;split at hr
    .rename_i ki;subst ki;split at hr
     .rename_i hD;obtain⟨rfl,hW,hI⟩:=hD;simp only[uJ] at hr;cases hr;have h9:=hs _ (by simp:(n=m)∈_);subst h9;have hG:=hs _ (by simp:((n+List.length r)*by'<=140737488355328)∈_);obtain⟨v,vr,hv,Z,hA⟩:=aw hT hH hρ hN;obtain⟨h2,h3,_⟩:=(t7 hT hst).2;obtain⟨ei,hd,hz⟩:=aOq.1 h3;simp only[aOJ] at hz;obtain⟨cs,hx⟩:=HE (a:=a) hT hH ho;obtain⟨hl,v0,xs,V,z,he,F,E⟩:=hH.blk k _ hk;obtain⟨K,U⟩:=Z.1;rw[V] at K;obtain rfl:=aOj K;obtain⟨adr,capr,X,hX,hc⟩:=FA hA.1;have Q:(l++r).length=n+List.length r:=by rw[aOg,hl]
      rw[Q];have M: ∀q,v0.ownBlock=some q->∀o,sX g H [k] q o:=λq hq o=>⟨k,_,by simp,hk,v0,V,hq⟩;by_cases hm:List.length r=0
      .obtain rfl:r=[]:=aOM hm;refine rU.value (v:=v0) (w':=w) ?_ (sE.row (v:=v0) (xs:=xs) hH Q z (by rw[List.append_nil];exact he) F (λu hu=>by
        have h5:g.cur k n=some u:=hu;rw[V] at h5;exact(aOj h5).symm) (.inl ⟨rfl,rfl,rfl,aOA _,λ_ _ _=>rfl⟩) (λ_ _ _=>rfl) E (λq hq=> .inr (M q hq)) ⟨⟨by simp [Gh.tok],U⟩,trivial⟩)
       obtain⟨adl,capl,Y,hn⟩: ∃adl capl,v0= .slice adl n capl/\n<=capl:=by
        rcases U with⟨h,rfl⟩ |⟨b,cap,h,h'⟩
        .exact⟨_,_,h,aOA _⟩
        exact⟨_,_,h,h'⟩
       rw[hx,hv,X,Y];have hK:(#[Value.slice adl n capl,Value.slice adr (List.length ([]:List b1.den)) capr]:Array qA)[0]? =some (.slice adl n capl):=rfl;have hJ:(#[Value.slice adl n capl,Value.slice adr (List.length ([]:List b1.den)) capr]:Array qA)[1]? =some (.slice adr 0 capr):=rfl;have hy:(#[t,t]:Array TypeId)[0]? =some t:=rfl;have hw:(#[t,t]:Array TypeId)[1]? =some t:=rfl;simp only[builtin,Builtin.append_,hy,hw,hK,hJ,aOr,aOC h2,aOl,aOD,sizeOf,typeInfo,aPe,hd];cases adr<;>cases adl<;>simp [Builtin.lenOf,Builtin.firstCells,loadCells,loadCellsFrom,storeCells,hn]
      obtain⟨b,off,rfl,hL⟩: ∃b o,adr=some ⟨b,o,none⟩/\wH (Rd g w b1) w g.S b1.cells b o r:=by
       rcases hc with rfl|h
       .exact absurd rfl hm
       exact h
      obtain⟨news,hF,hB,_⟩:=W0 hL;obtain⟨q,cap,w',hh,O,hq,hg,ht,R⟩:=Eo (P:=P) w t o.type e' ei (yD b1) b1.cells by' h2 hd hz.2.2 hz.1 hz.2.1 (by
       have:=sU (F9 (MG g w b1));simpa using this) v0 n xs z ⟨b,off,none⟩ (List.length r) capr news (MF hF) (λj u hu=>by rw[aPp];exact hB j u hu) (oj (λ_ _ h=>BU h) hF) pN
       (by
        have:=Nat.mul_le_mul_left (n+List.length r) hI;unfold maxLen;omega) hG
      refine rU.value (v:= .slice (some ⟨q,0,none⟩) (n+List.length r) cap) (w':=w') ?_ (sE.row (v:= .slice (some ⟨q,0,none⟩) (n+List.length r) cap) (xs:=xs++news) hH Q O (nf he hF) (λm ko=>F m pN) (λu hu=>by
       rw[F _ pN] at hu;cases hu) (.inr ⟨v0.ownBlock,hg,λb hb o=>M b hb o⟩) (λb o hS=>R b o (hH.sl b o hS) (λhb=>absurd hS (E b hb o))) (λb hb o hS=>?_) (λb hb=>?_) ⟨⟨by simp [Gh.tok],.inr ⟨q,cap,rfl,ht⟩⟩,trivial⟩)
      .rw[hx,hv,X];simp only[builtin,aOr,hh,aOl,aOD]
      .cases hb;rcases hq with h|h
       .rw[h] at hS;exact aPO _ (hH.sl _ _ hS)
       exact E _ h o hS
      cases hb;rcases hq with h|h
      .exact .inl (aPH h.symm)
      exact .inr (M _ h)
     cases hr
    cases hr
   cases hr
  cases hr
 .rename_i u el by' ar ls_ a1 l k b1 r k2;split at hr
  .rename_i kk;obtain⟨rfl,rfl⟩:=kk;simp only[uJ] at hr;generalize hk:qU H k=ob at hr;unfold ZL at hr;split at hr
   .rename_i e' c n;split at hr
    .rename_i hD;obtain⟨rfl,I,hW,hI⟩:=hD;cases hr;rw[aOg];have D:=hs _ (by simp:(List.length l=n)∈_);have hG:=hs _ (by simp:((List.length l+List.length r)*by'<=140737488355328)∈_);obtain⟨v,vr,hv,Z,hA⟩:=aw hT hH hρ hN;obtain⟨h2,h3,_⟩:=(t7 hT hst).2;obtain⟨ei,hd,hz⟩:=aOq.1 h3;simp only[aOJ] at hz;obtain⟨cs,hx⟩:=HE (a:=a) hT hH ho;obtain⟨v0,xs,V,z,F,E⟩:=hH.blk k _ hk;have K:g.cur k (List.length l)=some v:=Z.2;rw[D,V] at K;obtain rfl:=aOj K;obtain⟨adr,capr,X,hX,hc⟩:=FA hA.1;obtain⟨adl,capl,Y,hn,kb⟩:=FA Z.1;by_cases hm:List.length r=0
     ·
      obtain rfl:r=[]:=aOM hm;have hc:List.length l+List.length ([]:List b1.den)=n:=by rw[D];rfl
      have G: ∀i,qU (rL [(k,qQ.grow e' c (List.length l+List.length ([]:List b1.den)))] H) i=qU H i:=by
       intro i;simp only[rL,qU];by_cases hi:k=i
       .subst hi;rw[aOd rfl,hc];exact hk.symm
       rw[aOi hi]
      have hM:sE g w H ⟨[List.length l=n,(List.length l+List.length ([]:List b1.den))*by'<=140737488355328],(.val (.list b1) (l++[]),some k),[(k,.grow e' c (List.length l+List.length ([]:List b1.den)))],[k]⟩ g w v0:=by
       refine⟨.refl _ _,?_,⟨λi b h=>hH.blk i b ((G i).symm.trans h),λi j bi bj b o' kc h1 h2=>hH.dis i j bi bj b o' kc ((G i).symm.trans h1) ((G j).symm.trans h2),hH.sl,hH.tab.1,λi blk b o' h hC=>hH.tab.2 i blk b o' ((G i).symm.trans h) hC⟩,.refl _ _ _,λi blk b o' hi hg hC=> .inr ⟨i,blk,hi,(G i).symm.trans hg,hC⟩,λ_ _=>⟨rfl,rfl⟩,λi u' y us h=> .inl ⟨y,us,(G i).symm.trans h⟩⟩;rw[List.append_nil];exact Z
      refine rU.value (v:=v0) (w':=w) ?_ hM;rw[hx,hv,X,Y];have hK:(#[Value.slice adl (List.length l) capl,Value.slice adr (List.length ([]:List b1.den)) capr]:Array qA)[0]? =some (.slice adl (List.length l) capl):=rfl;have hJ:(#[Value.slice adl (List.length l) capl,Value.slice adr (List.length ([]:List b1.den)) capr]:Array qA)[1]? =some (.slice adr 0 capr):=rfl;have hy:(#[t,t]:Array TypeId)[0]? =some t:=rfl;have hw:(#[t,t]:Array TypeId)[1]? =some t:=rfl;simp only[builtin,Builtin.append_,hy,hw,hK,hJ,aOr,aOC h2,aOl,aOD,sizeOf,typeInfo,aPe,hd];cases adr<;>cases adl<;>simp [Builtin.lenOf,Builtin.firstCells,loadCells,loadCellsFrom,storeCells,hn]
     obtain⟨b,off,rfl,hL⟩: ∃b o,adr=some ⟨b,o,none⟩/\wH (Rd g w b1) w g.S b1.cells b o r:=by
      rcases hc with rfl|h
      .exact absurd rfl hm
      exact h
     obtain⟨news,hF,hB,_⟩:=W0 hL;have hY:uV (Rd g w b1) b1.cells l xs:=by
      by_cases h0:List.length l=0
      .obtain rfl:l=[]:=aOM h0;have:xs=[]:=aOM (by rw[z.1,<-D];simp);exact this
      rcases kb with rfl|⟨b0,off0,rfl,kn⟩
      .exact absurd rfl h0
      obtain⟨ls,he,hV,_⟩:=W0 kn;rcases z.2 with⟨e1,e2⟩ |⟨q,cap,cur,e1,e2⟩
      .exact absurd (D.trans e2) h0
      rw[Y] at e1;simp only[aPy,aOf,Addr.mk.injEq] at e1;obtain⟨⟨rfl,rfl,_⟩,_,rfl⟩:=e1;have h4:v0= .slice (some ⟨b0,0,none⟩) n capl:=by rw[Y,D]
      have h7:=om (h4▸z);have:ls=xs:=by
       have hR:=MF he;have hQ:=z.1;apply List.ext_getElem?;intro j;by_cases hj:j<ls.length
       .have h1:=hV j ls[j] (aOn hj);have hU:j<xs.length:=by rw[hQ,I,<-D,<-hR];exact hj
        have h2:=h7 j xs[j] (aOn hU);rw[h1] at h2;rw[aOn hj,aOn hU,aOj h2]
       rw[aPt pN,aPt (by rw[hQ,I,<-D,<-hR];omega)]
      rw[<-this];exact he
     obtain⟨q,cap,w',hh,O,hq,hg,ht,R⟩:=Eo (P:=P) w t o.type e' ei (yD b1) c by' h2 hd hz.2.2 (by rw[hz.1,I]) hz.2.1 (by
      have:=sU (F9 (MG g w b1));rw[I];simpa using this) v0 n xs z ⟨b,off,none⟩ (List.length r) capr news (by rw[MF hF,I]) (λj u hu=>by rw[aPp];exact hB j u hu) (oj (λ_ _ h=>BU h) hF) pN
      (by
       have:=Nat.mul_le_mul_left (List.length l+List.length r) hI;unfold maxLen;omega) (by rw[<-D];exact hG)
     refine rU.value (v:= .slice (some ⟨q,0,none⟩) (n+List.length r) cap) (w':=w') ?_ (by
      have:=sE.append (side:=[List.length l=n,(List.length l+List.length r)*by'<=140737488355328]) (rds:=[k]) hH hk I D V z F E (I▸hY) (I▸hF) pN O hq hg ht R;rw[D];rw[D] at this;exact this)
     rw[hx,hv,X];simp only[builtin,aOr,hh,aOl,aOD]
    cases hr
   cases hr
  cases hr
 cases hr
theorem Ff {α:Type}{R:α->pV->Prop}{c:Nat}: ∀{l:List α}{cs:pV}(n:Nat),uV R c l cs->n<=l.length->uV R c (l.take n) (cs.take (n*c))
 |_,_,0,_,_=>by simp [uV]
 |[],_,n+1,_,h=>by simp at h
 |x::l,_,n+1,⟨c1,c2,e,j,D,z⟩,h=>by
  subst e;refine⟨c1,c2.take (n*c),?_,j,D,Ff n z aQe⟩;rw[aPd,List.take_append,j,List.take_of_length_le pN,show n*c+c-c=n*c from by omega]
theorem a7M {t:TypeId}{x:Operand}{lo hi:Option Operand}(ho:o.op= .slice t x lo hi none) {ρ:Operand->qP}(hx:rZ g w (ρ x) (a.eval x)) (R: ∀y∈lo.toList,rZ g w (ρ y) (a.eval y)) (U: ∀y∈hi.toList,rZ g w (ρ y) (a.eval y)) {base:Nat}{e:rA}
  (hr:ZY base H (s4 T t) (ρ x) (wS ρ lo) (wS ρ hi)=some e) (hs: ∀p∈e.side,p) (hf:z6 g base e):rU P o a g w H e:=by
 unfold ZY at hr;split at hr
 case h_2=>exact a7x hT hH ho hx R U hr hs
 rename_i u el by' ar ls_ k n kk hst hq;generalize Z:wS ρ lo=olo at hr;generalize hc:wS ρ hi=ohi at hr;generalize hb:qU H k=ob at hr;unfold mw at hr;split at hr
 .rename_i ki b _ e' t' l m;cases hr;have hw:=hs (n=m) (aOz ..);obtain⟨M,K⟩:=hs _ (aOu _ (aOz ..));subst hw;obtain⟨z,I⟩: ∃z:Int,z=b:=⟨_,rfl⟩;replace M:(0:Int)<=z:=by rw[I];exact M
  replace K:z<=(n:Int):=by rw[I];exact K
  subst I;have hg:CG (wS ρ lo) 0=some 0:=by rw[Z];rfl
  have he:CG (wS ρ hi) (n:Int)=some z:=by rw[hc];rfl
  obtain⟨h2,h3,_⟩:=(t7 hT hst).2;obtain⟨ei,hy,hz⟩:=aOq.1 h3;simp only[aOJ] at hz;rw[hq] at hx;obtain⟨G,E⟩:=hx.1;obtain⟨hl,v,xs,hv,Y,hF,hB,ht⟩:=hH.blk k _ hb;rw[G] at hv;obtain rfl:=aOj hv;have V:=hf base aQl (aOA _);obtain⟨ad,cap,j,hd,hC⟩: ∃ad cap,a.eval x= .slice ad n cap/\n<=cap/\(ad=none->n=0/\cap=0):=by
   rcases E with⟨h,F⟩ |⟨q,cap,h,F⟩
   .exact⟨none,0,by rw[h,F],pN,λ_=>⟨F,rfl⟩⟩
   exact⟨_,cap,h,F,λh=>by cases h⟩
  have hh:ad.map (·.add 0)=ad:=by cases ad<;>simp [Addr.add]
  have D:z.toNat<=n:=by omega
  have X:(execOp a.eval o).run P w= .ok (.value (.slice ad z.toNat cap)) w:=by
   have hA:=oh (P:=P) (isSlice:=true) (cap:=cap) hT hH (RO hT hH R hg) (RO hT hH U he) (aPf 0) M K hd;simp only[execOp,ho,j,Option.map_none,Instr.sliceAt,Instr.slice,aOr,aOC h2,aOl,hA,sizeOf,typeInfo,aPe,hy,hz.1,aOD,Int.toNat_zero,Nat.zero_mul,hh,Nat.sub_zero,ite_self]
  have Q:w.ownsRow 0 e' t'.cells (.slice ad z.toNat cap) z.toNat (xs.take (z.toNat*t'.cells)):=by
   obtain⟨hn,hj⟩:=Y;refine⟨by rw[aO2,hn];exact Nat.min_eq_left (aPk _ D),?_⟩;rcases hj with⟨h,F⟩ |⟨q,cp,cu,h4,h5,h6,h7,h8,h9,O⟩
   .rw[j] at h;simp only[aPy] at h;left;exact⟨by rw[h.1,h.2.2,show z.toNat=0 by omega],pN⟩
   rw[j] at h4;simp only[aPy] at h4;right;refine⟨q,cp,cu,by rw[h4.1,h4.2.2],h5,h6,aOU D h7,h8,h9,?_⟩
   first
    |(rw[<-O,List.take_take,Nat.min_eq_left (aPk _ D)];done)
    |skip
   all_goals first|exact⟨by rw[<-O.1,List.take_take,Nat.min_eq_left (aPk _ D)],O.2⟩ |skip
  have hu: ∀q,(Value.slice ad z.toNat cap).ownBlock=some q->(a.eval x).ownBlock=some q:=λq h=>by
   rw[j];cases ad<;>exact h
  exact rU.value X (sE.cutRow hH hb G D Q (by rw[<-hl] at D;exact Ff hT hH _ hF D) (by simp [hl,D]) V.1 V.2 hu ht (by
   rcases E with⟨h,F⟩ |⟨q,cp,h,F⟩
   .rw[j] at h;simp only[aPy] at h;exact .inl ⟨by rw[h.1,h.2.2,show z.toNat=0 by omega],pN⟩
   rw[j] at h;simp only[aPy] at h;exact .inr ⟨q,cp,by rw[h.1,h.2.2],aOU D F⟩))
 cases hr
end
section
variable {P:Program}{g:Gh}{w:pZ}
def a7N (P:Program) (g:Gh) (w:pZ) (d:Nat) (ty:Ty) (x y:ty.den):ni->Prop
 | .ty t=> ∀vx vy,sS g w ty x vx->sS g w ty y vy->∃b,zQ ty x y=some b/\(Op.equalIn (d+1) t vx vy).run P w= .ok b w
 | .fs o l=> ∀px py cx cy,px.length=o->py.length=o->Rd g w ty x cx->Rd g w ty y cy->∃b,zQ ty x y=some b/\(Op.eqFields (d+1) (px++cx).toArray (py++cy).toArray l).run P w= .ok b w
 | .el e i m=> ∀px py cx cy,px.length=i*P.cellsOf e->py.length=i*P.cellsOf e->Rd g w ty x cx->Rd g w ty y cy->∃b,zQ ty x y=some b/\(Op.eqItems (d+1) e (P.cellsOf e) (px++cx).toArray (py++cy).toArray (List.range' i m)).run P w= .ok b w
theorem a7O {e:TypeId}{n:Nat}(h:(P.info? e).map (·.size)=some n):P.cellsOf e=n:=by
 obtain⟨i,z,j⟩:=aOq.1 h;simp [Program.cellsOf,z,j]
theorem xD.run {n:Nat}{ix:ni}{ty:Ty}(h:xD P n ix ty): ∀(d:Nat),n<=d->∀x y:ty.den,a7N P g w d ty x y ix:=by
 induction h with
 |bool F=>
  intro d _ x y vx vy I G;obtain rfl:=vT I;obtain rfl:=vT G;exact⟨_,rfl,run_equalIn_bool' w d _ _ _ F⟩
 |int F=>
  intro d _ x y vx vy I G;obtain rfl:=vK I;obtain rfl:=vK G;refine⟨_,rfl,(run_equalIn_int w d _ _ _ _ _ F).trans ?_⟩;congr 1
 |str F=>
  intro d _ x y vx vy I G;obtain rfl:=xX I;obtain rfl:=xX G;refine⟨_,rfl,(run_equalIn_string w d _ _ _ F).trans ?_⟩;congr 1;rw[ByteArray.toList_eq,ByteArray.toList_eq];exact VX _ _
 | @struct h0 t0 fs0 ty0 hr F U _ ih=>
  intro d K x y vx vy I G;obtain⟨cx,rfl,rx⟩:=DY hr I;obtain⟨cy,rfl,ry⟩:=DY hr G;obtain⟨d,rfl⟩: ∃d',d=d'+1:=⟨d-1,pN⟩;obtain⟨b,O,M⟩:=ih d pN x y [] [] cx cy rfl rfl rx ry;refine⟨b,O,?_⟩;have hf:P.fieldsOf t0=fs0:=by unfold Program.fieldsOf;rw[F]
  rw[run_equalIn_struct w _ _ _ _ (by rw[hf];exact F) U,hf];simpa using M
 |arr hr F hi _ ih=>
  intro d K x y vx vy I G;obtain⟨cx,rfl,rx⟩:=DY hr I;obtain⟨cy,rfl,ry⟩:=DY hr G;obtain⟨d,rfl⟩: ∃d',d=d'+1:=⟨d-1,pN⟩;obtain⟨b,O,M⟩:=ih d pN x y [] [] cx cy pP pP rx ry;refine⟨b,O,?_⟩;obtain⟨i,hi⟩:=aPc.1 hi;rw[run_equalIn_array w _ _ _ F hi,List.range_eq_range'];simpa using M
 |nil=>
  intro d _ x y px py cx cy _ _ _ _;exact⟨true,rfl,by simp [Op.eqFields]⟩
 |anil=>
  intro d _ x y px py cx cy _ _ _ _;exact⟨true,rfl,by simp [Op.eqItems]⟩
 | @cons h o f r a b V Q z j _ _ iha ihb=>
  intro d K x y px py cx cy E D ⟨x1,x2,ex,rx1,rx2⟩ ⟨y1,y2,ey,ry1,ry2⟩;subst ex;subst ey;obtain⟨vx,p1,v1⟩:=RK (P:=P) (c1:=px) (c3:=x2) z j rx1;obtain⟨vy,p2,v2⟩:=RK (P:=P) (c1:=py) (c3:=y2) z j ry1;obtain⟨b1,e1,r1⟩:=iha d K x.1 y.1 vx vy v1 v2;obtain⟨b2,e2,r2⟩:=ihb d K x.2 y.2 (px++x1) (py++y1) x2 y2 (by rw[aOg,E,sU rx1]) (by rw[aOg,D,sU ry1]) rx2 ry2;refine⟨b1&&b2,by simp only[zQ,e1,e2,zQ.eqAnd],?_⟩;rw[aOk] at p1 p2 r2;rw[aOk] at r2;rw[E,<-Q] at p1;rw[D,<-Q] at p2;simp only[Op.eqFields,aOd V,aOr,p1,p2,aOl,r1];cases b1
  .simp
  .simpa using r2
 | @acons h e i m a b z j _ _ iha ihb=>
  intro d K x y px py cx cy E D ⟨x1,x2,ex,rx1,rx2⟩ ⟨y1,y2,ey,ry1,ry2⟩;subst ex;subst ey;have R:=a7O z;obtain⟨vx,p1,v1⟩:=RK (P:=P) (c1:=px) (c3:=x2) z j rx1;obtain⟨vy,p2,v2⟩:=RK (P:=P) (c1:=py) (c3:=y2) z j ry1;obtain⟨b1,e1,r1⟩:=iha d K x.1 y.1 vx vy v1 v2;obtain⟨b2,e2,r2⟩:=ihb d K x.2 y.2 (px++x1) (py++y1) x2 y2 (by rw[aOg,E,sU rx1,R,aPd]) (by rw[aOg,D,sU ry1,R,aPd]) rx2 ry2;refine⟨b1&&b2,by simp only[zQ,e1,e2,zQ.eqAnd],?_⟩;rw[aOk] at p1 p2 r2;rw[aOk] at r2;rw[E] at p1;rw[D] at p2;simp only[aQa,Op.eqItems,aOr,p1,p2,aOl,r1];cases b1
  .simp
  simpa using r2
end
end Go.Proofs.YtedimeeleabhnaaGreatDoor.Vc
