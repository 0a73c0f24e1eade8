/- Packed by a program of mine (wip/tools/pack.py): the same texts with short names and few blanks. -/
import Derived.Below
import Derived.Calls
import Derived.Deep.MidRow
import Derived.Deep.Upon
import Derived.Laws.AppendOwn
import Derived.Laws.BitsLemmas
import Derived.Laws.OwnMore
import Derived.Shelf.Unicode.DecodeSlow
import Derived.Still
import Derived.WalkKit
set_option linter.defProp false
set_option linter.unusedVariables false
set_option linter.unusedSimpArgs false
set_option linter.unusedSectionVars false
set_option maxRecDepth 100000
set_option maxHeartbeats 4000000
namespace Go.Proofs
abbrev pL:=List UInt8
abbrev pM:=List pL
def aFy:=@_root_.Option.some.injEq
def aFz:=@_root_.if_pos
def aFA:=@_root_.if_neg
def aFB:=@_root_.Option.isSome_iff_exists
def aFC:=@_root_.Option.bind_some
def aFD:=@_root_.List.length_append
def aFE:=@_root_.Option.some.inj
def aFF:=@_root_.List.length_cons
def aFG:=@_root_.List.getElem?_eq_getElem
def aFH:=@_root_.Go.Result.andThen_ok
def aFI:=@_root_.decide_eq_true_eq
def aFJ:=@_root_.List.getElem?_append_right
def aFK:=@_root_.List.mem_cons_of_mem
def aFL:=@_root_.Bool.and_eq_true
def aFM:=@_root_.Go.Sem.run_bind
def aFN:=@_root_.List.mem_cons
def aFO:=@_root_.List.append_assoc
def aFP:=@_root_.List.getElem?_eq_some_iff
def aFQ:=@_root_.Option.map_eq_some_iff
def aFR:=@_root_.List.mem_singleton
def aFS:=@_root_.List.length_nil
def aFT:=@_root_.List.mem_cons_self
def aFU:=@_root_.List.getElem?_append_left
def aFV:=@_root_.List.getD_eq_getElem?_getD
def aFW:=@_root_.Nat.le_refl
def aFX:=@_root_.Go.run_underlying
def aFY:=@_root_.Go.World.cell?_of_block
def aFZ:=@_root_.congrArg
def aF0:=@_root_.Go.Sem.run_pure
def aF1:=@_root_.Array.getElem?_eq_some_iff
def aF2:=@_root_.Bool.not_eq_true'
def aF3:=@_root_.Prod.mk.injEq
def aF4:=@_root_.List.eq_nil_of_length_eq_zero
def aF5:=@_root_.Go.RowKit.Below.heap_alloc
def aF6:=@_root_.Nat.zero_add
def aF7:=@_root_.Array.getD_eq_getD_getElem?
def aF8:=@_root_.List.getElem?_cons_zero
def aF9:=@_root_.Nat.lt_of_lt_of_le
def aGa:=@_root_.List.length_drop
def aGb:=@_root_.List.drop_eq_getElem_cons
def aGc:=@_root_.of_decide_eq_true
def aGd:=@_root_.decide_eq_false_iff_not
def aGe:=@_root_.decide_eq_true
def aGf:=@_root_.List.pairwise_iff_getElem
def aGg:=@_root_.List.any_eq_false
def aGh:=@_root_.List.length_take
def aGi:=@_root_.List.reverse_cons
def aGj:=@_root_.Nat.add_assoc
def aGk:=@_root_.List.getElem?_cons_succ
def aGl:=@_root_.List.mem_append
def aGm:=@_root_.List.cons.injEq
def aGn:=@_root_.Go.World.frozen?_of_block
def aGo:=@_root_.Nat.add_sub_cancel_left
def aGp:=@_root_.List.getElem_mem
def aGq:=@_root_.List.flatten_cons
def aGr:=@_root_.List.findIdx?_eq_none_iff
def aGs:=@_root_.List.drop_length
def aGt:=@_root_.List.all_eq_true
def aGu:=@_root_.Nat.zero_le
def aGv:=@_root_.Array.length_toList
def aGw:=@_root_.List.getElem?_take_of_lt
def aGx:=@_root_.Go.run_program
def aGy:=@_root_.List.size_toArray
def aGz:=@_root_.Int.toNat_natCast
def aGA:=@_root_.Nat.le_trans
def aGB:=@_root_.List.map_cons
def aGC:=@_root_.List.length_singleton
def aGD:=@_root_.List.length_eq_zero_iff
def aGE:=@_root_.List.findIdx?_eq_some_iff_getElem
def aGF:=@_root_.Array.getElem?_toList
def aGG:=@_root_.Array.getElem?_modify
def aGH:=@_root_.List.length_pos_iff
def aGI:=@_root_.Int.le_refl
def aGJ:=@_root_.List.drop_zero
def aGK:=@_root_.Nat.add_zero
def aGL:=@_root_.Array.toList_inj
def aGM:=@_root_.Nat.mul_le_mul_right
def aGN:=@_root_.Nat.lt_or_ge
def aGO:=@_root_.Nat.succ_mul
def aGP:=@_root_.Go.Addr.add_mid
def aGQ:=@_root_.Bool.not_eq_true
def aGR:=@_root_.Array.getElem?_setIfInBounds_ne
def aGS:=@_root_.List.length_eq_one_iff
def aGT:=@_root_.Nat.le_of_ble_eq_true
def aGU:=@_root_.Bool.or_eq_true
def aGV:=@_root_.Bool.or_eq_false_iff
def aGW:=@_root_.List.getElem_of_mem
def aGX:=@_root_.List.flatMap_cons
def aGY:=@_root_.Go.World.cell?_alloc_new
def aGZ:=@_root_.List.take_append_drop
def aG0:=@_root_.List.length_map
def aG1:=@_root_.List.getElem?_eq_none
def aG2:=@_root_.Bool.false_eq_true
def aG3:=@_root_.dif_neg
def aG4:=@_root_.decide_eq_decide
def aG5:=@_root_.List.not_mem_nil
def aG6:=@_root_.Array.toArray_toList
def aG7:=@_root_.Go.World.cell?_setCells_in
def aG8:=@_root_.Nat.sub_self
def aG9:=@_root_.Nat.le_of_eq
def aHa:=@_root_.List.take_left
def aHb:=@_root_.if_true
def aHc:=@_root_.beq_iff_eq
def aHd:=@_root_.List.findIdx?_cons
def aHe:=@_root_.Classical.choose_spec
def aHf:=@_root_.List.mem_range
def aHg:=@_root_.Go.Value.slice.injEq
def aHh:=@_root_.List.append_inj
def aHi:=@_root_.Bool.eq_iff_iff
def aHj:=@_root_.Nat.mul_one
def aHk:=@_root_.Nat.lt_irrefl
def aHl:=@_root_.Go.wpIn_mono
def aHm:=@_root_.List.take_append_of_le_length
def aHn:=@_root_.List.range'_succ
def aHo:=@_root_.Go.IntKind.wrap_i64
def aHp:=@_root_.Bool.not_eq_false'
def aHq:=@_root_.Array.getElem?_setIfInBounds
def aHr:=@_root_.Go.setRow_other
def aHs:=@_root_.List.singleton_append
def aHt:=@_root_.Bool.and_eq_false_iff
def aHu:=@_root_.Int.tmod_eq_emod_of_nonneg
def aHv:=@_root_.List.pairwise_append
def aHw:=@_root_.List.mem_take_iff_getElem
def aHx:=@_root_.Array.getElem?_eq_getElem
def aHy:=@_root_.List.mem_toArray
def aHz:=@_root_.List.drop_succ_cons
def aHA:=@_root_.Array.getElem?_push_size
def aHB:=@_root_.dif_pos
def aHC:=@_root_.List.pairwise_cons
def aHD:=@_root_.Go.IntKind.wrap_u8
def aHE:=@_root_.Array.foldl_toList
def aHF:=@_root_.Option.getD_some
def aHG:=@_root_.if_false
def aHH:=@_root_.Go.heap_alloc_new
def aHI:=@_root_.List.drop_drop
def aHJ:=@_root_.Array.size_append
def aHK:=@_root_.Go.setRow_heap
theorem pP{p:Prop}(h:p:=by omega):p:=h
theorem pQ{p:Prop}(h:p:=by decide):p:=h
theorem pR{p:Prop}(h:p:=by simp):p:=h
theorem pS{p:Prop}(h:p:=by simp;omega):p:=h
theorem qB{p:Prop}(h:p:=by first|rfl|trivial):p:=h
theorem qC{p:Prop}(h:p:=by kernel_rfl):p:=h
theorem qD{p:Prop}(h:p:=by rfl):p:=h
theorem qE{p:Prop}(h:p:=by first|rfl|(simp only[go_sem];done)|(simp only[go_sem];rfl)):p:=h
theorem pN{a:Type}{p q r:a->Prop}(k:a)(h1:p k:=by rfl)(h2:q k:=by rfl)(h3:r k:=by rfl): ∃k,p k/\q k/\r k:=⟨k,h1,h2,h3⟩
theorem pO{a:Type}{p q r:a->Prop}(k:a)(h1:p k:=by first|rfl|(simp only[go_sem];done)|(simp only[go_sem];rfl))(h2:q k:=by first|rfl|(simp only[go_sem];done)|(simp only[go_sem];rfl))(h3:r k:=by first|rfl|(simp only[go_sem];done)|(simp only[go_sem];rfl)): ∃k,p k/\q k/\r k:=⟨k,h1,h2,h3⟩
abbrev pT:=List (pL×Bool)
abbrev pU:=List (Nat×Nat)
abbrev pV:=List Int
abbrev pW:=List Value
abbrev pX:=Option (Nat×Nat)
abbrev pY:=Option Nat
abbrev pZ:=List Nat
abbrev q8:=World
abbrev q9:=Value
end Go.Proofs
namespace Go.Proofs.YtcpbaddnmpeipaaGreatDoor.Vc
def NG:Nat:=6
def Jb:Nat:=82
def JD:Nat:=188
def JE:Nat:=155
def HE:Nat:=98
def LL:Nat:=32
abbrev a3N:Nat:=6
abbrev a3O:Nat:=7
def Jc:List (Nat×Nat×q9):=[(5,15,.int .u8 4)]
def a3P (w:q8):Prop:= ∀x∈Jc,x.1<NG/\w.cell? ⟨x.1,x.2.1,none⟩=some x.2.2
def FX (w:q8):Prop:=NG<=w.heap.size/\Lib.Utf8Tabs 1 2 w/\(∃m,w.cell? ⟨0,0,none⟩=some (.int .i64 m))/\a3P w
theorem JF {w w':q8}(h:FX w) (F:w.heap.size<=w'.heap.size) (hb: ∀b,b<NG->w'.heap[b]? =w.heap[b]?):FX w':=by
 obtain⟨h0,⟨G,E⟩,⟨m,h3⟩,h4⟩:=h;have j: ∀b o,b<NG->w'.cell? ⟨b,o,none⟩=w.cell? ⟨b,o,none⟩:=fun b o h=>aFY (a:=⟨b,o,none⟩) (hb b h);refine⟨aGA h0 F,⟨fun c D=>?_,fun i hi=>⟨?_,?_⟩⟩,⟨m,?_⟩,fun x z=>⟨(h4 x z).1,(j _ _ (h4 x z).1).trans (h4 x z).2⟩⟩
 .rw[j _ _ pQ];exact G c D
 .rw[j _ _ pQ];exact(E i hi).1
 .rw[j _ _ pQ];exact(E i hi).2
 rw[j _ _ pQ];exact h3
attribute [go_sem] Jb JE HE LL
inductive Ty where
 |bool|int (k:IntKind) |str|list (t:Ty) |unit|pair (a b:Ty) |ref|clo|mp|rl (e:Nat) (t:Ty) |mref|fn|ap
 deriving DecidableEq
@[go_sem] abbrev rK:Ty:= .pair .bool (.pair .str .unit)
@[go_sem] abbrev rM:Ty:= .pair .str (.pair .str .unit)
abbrev Ty.den:Ty->Type
 | .bool=>Bool
 | .int _=>Int
 | .str=>pL
 | .list t=>List t.den
 | .unit=>Unit
 | .pair a b=>a.den×b.den
 | .ref=>pX
 | .clo=>Option (Nat×pU)
 | .mp=>pY
 | .rl _ _=>pX
 | .fn=>pY
 | .mref=>pX
 | .ap=>Nat×Nat×(Nat×Nat)×(Nat×Nat)
@[go_sem] def Ty.cells:Ty->Nat
 | .unit=>0
 | .pair a b=>a.cells+b.cells
 | .bool| .int _| .str| .list _| .ref| .clo| .mp| .rl _ _| .mref| .fn| .ap=>1
@[go_sem] def Ty.zero:(t:Ty)->t.den
 | .bool=>false
 | .int _=>(0:Int)
 | .str=>[]
 | .list _=>[]
 | .unit=>()
 | .pair a b=>(a.zero,b.zero)
 | .ref=>none
 | .clo=>none
 | .mp=>none
 | .rl _ _=>none
 | .fn=>none
 | .mref=>none
 | .ap=>(0,0,(0,0),(0,0))
@[go_sem] def Ty.isRow:Ty->Bool
 | .unit| .pair _ _=>true
 | .bool| .int _| .str| .list _| .ref| .clo| .mp| .rl _ _| .mref| .fn| .ap=>false
@[go_sem] def Ty.pure:Ty->Bool
 | .ref| .clo| .mp| .rl _ _| .mref| .ap=>false
 | .list t=>t.pure
 | .pair a b=>a.pure&&b.pure
 | .bool| .int _| .str| .unit| .fn=>true
def qR (t:Ty) (l:List t.den) (i:Int):t.den:=l.getD i.toNat t.zero
def sE (l:pL) (i:Int):Int:=((l.getD i.toNat 0).toNat:Int)
def uG {t u:Ty}(h:t=u) (x:t.den):u.den:=h▸x
@[go_sem] theorem OH {t:Ty}(x:t.den):uG (rfl:t=t) x=x:=rfl
@[go_sem] def rE (u:Ty):(t:Ty)->t.den->Nat->Option u.den
 |t,x,0=>if h:t=u then some (uG h x) else match t,x with
  | .pair a b,x=>if 0<a.cells then rE u a x.1 0 else rE u b x.2 0
  |_,_=>none
 | .pair a b,x,o+1=>if o+1<a.cells then rE u a x.1 (o+1) else rE u b x.2 (o+1-a.cells)
 |_,_,_=>none
@[go_sem] def sQ (u:Ty) (y:u.den):(t:Ty)->t.den->Nat->Option t.den
 |t,x,0=>if h:u=t then some (uG h y) else match t,x with
  | .pair a b,x=>if 0<a.cells then(sQ u y a x.1 0).map (fun z=>(z,x.2)) else(sQ u y b x.2 0).map (fun z=>(x.1,z))
  |_,_=>none
 | .pair a b,x,o+1=>if o+1<a.cells then(sQ u y a x.1 (o+1)).map (fun z=>(z,x.2)) else(sQ u y b x.2 (o+1-a.cells)).map (fun z=>(x.1,z))
 |_,_,_=>none
@[go_sem] def Ty.proj:(t:Ty)->t.den->Nat->Option (Σ u:Ty,u.den)
 | .pair a _,x,0=>some ⟨a,x.1⟩
 | .pair _ b,x,i+1=>b.proj x.2 i
 |_,_,_=>none
@[go_sem] def Ty.offs:Ty->Nat->pY
 | .pair _ _,0=>some 0
 | .pair a b,i+1=>(b.offs i).map fun o=>a.cells+o
 |_,_=>none
@[go_sem] def Ty.fld:Ty->Nat->Option Ty
 | .pair a _,0=>some a
 | .pair _ b,i+1=>b.fld i
 |_,_=>none
@[go_sem] def Ty.setPart (u:Ty) (y:u.den):(t:Ty)->t.den->Nat->Option t.den
 | .pair a b,x,0=>if h:u=a then some (uG h y,x.2) else none
 | .pair a b,x,i+1=>(Ty.setPart u y b x.2 i).map fun z=>(x.1,z)
 |_,_,_=>none
inductive DV where
 |any
 |nilS
 |val (t:Ty) (x:t.den)
 |at (t:Ty) (x:t.den)
 |tup (l:List ((Σ t:Ty,t.den)×pY))
 |cond (p:Bool) (d:DV)
 |flag (p q:Prop)
 |own (k n:Nat)
 |elt (k n c:Nat) (i:Int) (o:Nat)
 |apd (d:DV)
 |nxt (b:Bool) (p c:Int)
abbrev qK:=DV×pY
inductive qJ where
 |cells (t:Ty) (x:t.den) (toks:pU)
 |grow (e:TypeId) (c:Nat) (n:Nat)
 |row (e:TypeId) (t:Ty) (l:List t.den) (n:Nat)
 |map (k v:Ty) (l:List (k.den×v.den))
 |iter (s:pL) (p:Nat)
 |dead
structure St where
 env:List (Nat×qK)
 H:List (Nat×qJ)
 nb:Nat
 N:Nat
 np:Nat:=0
@[go_sem] def lk:List (Nat×qK)->Nat->qK
 |[],_=>(.any,none)
 |(k,s)::r,t=>if k=t then s else lk r t
@[go_sem] def qO:List (Nat×qJ)->Nat->Option qJ
 |[],_=>none
 |(k,s)::r,t=>if k=t then some s else qO r t
structure TI where
 ty:Ty
 elem:TypeId:=0
 bytes:Nat:=0
 arr:Bool:=false
 ls:List (Nat×TypeId×Nat):=[]
abbrev sW:=List (Nat×TI)
@[go_sem] def rY:sW->TypeId->Option TI
 |[],_=>none
 |(k,s)::r,t=>if k=t then some s else rY r t
inductive PK where
 |v|own|p (t:Ty) (os:pZ) |m|r|f (ks:List (Ty×pZ)) |q
structure qT where
 side:List Prop
 ret:List qK
 H:List qJ
structure rH where
 ps:List PK
 C:List qK->List qJ->Option qT
 gs:List (Nat×Nat×PK):=[]
 same:pZ:=[]
 row:Option ((t:Ty)->List t.den->Option (List t.den)):=none
abbrev tH:=Nat->Option rH
structure qY where
 side:List Prop
 slot:qK
 upd:List (Nat×qJ)
 rds:pZ
abbrev bu:Nat:=900000000
@[go_sem] def JG:pZ->Bool
 |[]=>false
 |i::_=>if i=1000000000 then true else false
@[go_sem] def Jd:Option qY->Option qY->Option qY
 |some r,_=>some r
 |none,r=>r
@[go_sem] def B6:Option (List Prop×DV)->Option qY
 |some (p,d)=>some ⟨p,(d,none),[],[]⟩
 |none=>none
@[go_sem] def bw:q9->DV
 | .bool b=> .val .bool b
 | .int k n=> .val (.int k) n
 | .string s=> .val .str s.data.toList
 | .slice none 0 0=> .nilS
 | .pointer none=> .val .ref none
 | .nilFunc=> .val .clo none
 | .map none=> .val .mp none
 |_=> .any
@[go_sem] def u7 (env:List (Nat×qK)):Operand->qK
 | .tmp t=>lk env t
 | .const v=>(bw v,none)
 | .func f=>(.val .clo (some (f,[])),none)
 | .global _=>(.any,none)
@[go_sem] def OI:Option TI->qK->qK
 |some ⟨.list t,_,_,_,_⟩,(.nilS,_)=>(.val (.list t) [],none)
 |some ⟨.ap,_,_,_,_⟩,(.val .clo none,_)=>(.val .ap (0,0,(0,0),(0,0)),none)
 |_,s=>s
@[go_sem] def LM:IntKind->Int->List Prop×DV
 | .i64,n=>([-9223372036854775808<=n/\n<=9223372036854775807],.val (.int .i64) n)
 |k,n=>([],.val (.int k) (k.wrap n))
@[go_sem] def r7 {α:Type}:List α->List α->List α
 |[],m=>m
 |x::l,m=>x::r7 l m
@[go_sem] def CM:(t:Ty)->t.den->t.den->Option Bool
 | .bool,a,b=>some (a==b)
 | .int _,a,b=>some (decide ((a:Int)=b))
 | .str,a,b=>some (decide ((a:pL)=b))
 | .unit,_,_=>some true
 | .pair s t,a,b=>eqAnd (CM s a.1 b.1) (CM t a.2 b.2)
 |_,_,_=>none
where
 eqAnd:Option Bool->Option Bool->Option Bool
  |some x,some y=>some (x&&y)
  |_,_=>none
attribute [go_sem] CM.eqAnd
@[go_sem] def bx (k:IntKind) (a b:Int):BinOp->Option (List Prop×DV)
 | .add=>some (LM k (a+b))
 | .sub=>some (LM k (a-b))
 | .mul=>some (LM k (a*b))
 | .eql=>some ([],.val .bool (decide (a=b)))
 | .neq=>some ([],.val .bool (!decide (a=b)))
 | .lss=>some ([],.val .bool (decide (a<b)))
 | .leq=>some ([],.val .bool (decide (a<=b)))
 | .gtr=>some ([],.val .bool (decide (b<a)))
 | .geq=>some ([],.val .bool (decide (b<=a)))
 | .quo=>some ([b≠0],.val (.int k) (k.wrap (Int.tdiv a b)))
 | .rem=>some ([b≠0],.val (.int k) (Int.tmod a b))
 | .and=>some ([],.val (.int k) (bits .and k a b))
 | .or=>some ([],.val (.int k) (bits .or k a b))
 | .xor=>some ([],.val (.int k) (bits .xor k a b))
 | .andNot=>some ([],.val (.int k) (bits .andNot k a b))
 |_=>none
def bz (k:IntKind) (a b:Int):Int:=k.wrap (a*2^min b.toNat k.bits)
def yV (k:IntKind) (a b:Int):Int:=a.fdiv (2^min b.toNat k.bits)
@[go_sem] def Je (k:IntKind) (a:Int) (k':IntKind) (b:Int):BinOp->Option (List Prop×DV)
 | .shl=>some ([0<=b],.val (.int k) (bz k a b))
 | .shr=>some ([0<=b],.val (.int k) (yV k a b))
 |op=>if k=k' then bx k a b op else none
@[go_sem] def ca (a b:pL):BinOp->Option (List Prop×DV)
 | .add=>some ([((a++b).length:Int)<=9223372036854775807],.val .str (a++b))
 | .eql=>some ([],.val .bool (decide (a=b)))
 | .neq=>some ([],.val .bool (!decide (a=b)))
 | .lss=>some ([],.val .bool (Op.bytesLess a b))
 | .leq=>some ([],.val .bool (Op.bytesLess a b||decide (a=b)))
 | .gtr=>some ([],.val .bool (!(Op.bytesLess a b||decide (a=b))))
 | .geq=>some ([],.val .bool (!Op.bytesLess a b))
 |_=>none
@[go_sem] def OJ:BinOp->Option Bool->Option (List Prop×DV)
 | .eql,some r=>some ([],.val .bool r)
 | .neq,some r=>some ([],.val .bool (!r))
 |_,_=>none
@[go_sem] def UT (op:BinOp):qK->qK->Option (List Prop×DV)
 |(.val (.int k) a,_),(.val (.int k') b,_)=>Je k a k' b op
 |(.val .str a,_),(.val .str b,_)=>ca a b op
 |_,_=>none
@[go_sem] def Jf (k:IntKind) (a b:Int):BinOp->Option (List Prop×DV)
 | .add=>some ([],.val (.int k) (k.wrap (a+b)))
 | .sub=>some ([],.val (.int k) (k.wrap (a-b)))
 | .mul=>some ([],.val (.int k) (k.wrap (a*b)))
 |_=>none
@[go_sem] def UU (op:BinOp):Option TI->qK->qK->Option (List Prop×DV)
 |some ⟨.int _,_,_,true,_⟩,(.val (.int k) a,_),(.val (.int k') b,_)=>if k=k' then Jf k a b op else none
 |_,_,_=>none
@[go_sem] def Jg (u:Ty) (b:Nat) (op:BinOp) (t t':Ty) (x:t.den) (y:t'.den):Option (List Prop×DV):=
 if h:t'=t then(if t=u/\(t= .bool\/(t.isRow=true/\b=1)) then OJ op (CM t x (uG h y)) else none) else none
@[go_sem] def UV {α:Type}(l:List α):BinOp->Option (List Prop×DV)
 | .eql=>some ([],.flag (l=[]) True)
 | .neq=>some ([],.flag True (l=[]))
 |_=>none
@[go_sem] def zO {α:Type}:Option α->Bool
 |none=>true
 |some _=>false
@[go_sem] def cb:Option TI->BinOp->qK->qK->Option (List Prop×DV)
 |some ⟨.list _,_,_,_,_⟩,op,(.val (.list _) l,_),(.nilS,_)=>UV l op
 |some ⟨.list _,_,_,_,_⟩,op,(.nilS,_),(.val (.list _) l,_)=>UV l op
 |some ⟨.ap,_,_,_,_⟩,op,(.val .ap x,_),(.val .clo none,_)=>OJ op (some (decide (x.1=0)))
 |some ⟨.clo,_,_,_,_⟩,op,(.val .fn x,_),(.val .clo none,_)=>OJ op (some (zO x))
 |some ⟨u,_,b,_,_⟩,op,(.val t x,_),(.val t' y,_)=>Jg u b op t t' x y
 |_,_,_,_=>none
@[go_sem] def ce:Option (List Prop×DV)->Option (List Prop×DV)->Option (List Prop×DV)
 |some r,_=>some r
 |none,r=>r
@[go_sem] def cf:UnOp->qK->Option (List Prop×DV)
 | .not,(.val .bool b,_)=>some ([],.val .bool (!b))
 | .neg,(.val (.int k) n,_)=>some (LM k (-(n:Int)))
 |_,_=>none
def tG (l:pV):pL:=l.map fun n=>UInt8.ofNat n.toNat
def uQ (s:pL):pV:=s.map fun b=>(b.toNat:Int)
@[go_sem] def UW:Option TI->Option TI->qK->Option (List Prop×DV)
 |some _,some ⟨.int k,_,_,_,_⟩,(.val (.int _) n,_)=>some ([],.val (.int k) (k.wrap n))
 |some _,some ⟨.str,_,_,_,_⟩,(.val .str s,_)=>some ([],.val .str s)
 |_,_,_=>none
@[go_sem] def Jh (l:pV):Option TI->Option (List Prop×DV)
 |some ⟨.int .u8,_,_,_,_⟩=>some ([],.val .str (tG l))
 |_=>none
@[go_sem] def cg (T:sW):Option TI->Option TI->qK->Option (List Prop×DV)
 |some ⟨.list (.int .u8),e,_,_,_⟩,some ⟨.str,_,_,_,_⟩,(.val (.list (.int .u8)) l,_)=>Jh l (rY T e)
 |_,_,_=>none
def sL {α:Type}(l:List α) (lo hi:Int):List α:=(l.drop lo.toNat).take (hi.toNat-lo.toNat)
@[go_sem] def EL:Option qK->Int->Option Int
 |none,d=>some d
 |some (.val (.int _) n,_),_=>some n
 |_,_=>none
@[go_sem] def UX (t:Ty) (n:Nat) (f:Int->Int->t.den):Option Int->Option Int->Option (List Prop×DV)
 |some a,some b=>some ([0<=a/\a<=b/\b<=(n:Int)],.val t (f a b))
 |_,_=>none
@[go_sem] def ch:Option TI->qK->Option qK->Option qK->Option (List Prop×DV)
 |some ⟨.str,_,_,_,_⟩,(.val .str l,_),lo,hi=>UX .str (List.length l) (sL l) (EL lo 0) (EL hi (List.length l))
 |some ⟨.list u,_,_,_,_⟩,(.val (.list t) l,_),lo,hi=>if t=u then UX (.list t) (List.length l) (sL l) (EL lo 0) (EL hi (List.length l)) else none
 |_,_,_,_=>none
@[go_sem] def UY (t:Ty) (x:t.den) (i:Nat):Option Ty->Option t.den
 |some (.list u)=>Ty.setPart (.list u) [] t x i
 |_=>none
@[go_sem] def B7 (t:Ty):Option t.den->List (Nat×qK)->Option t.den
 |some x,[]=>some x
 |some x,(i,(.val u y,_))::r=>B7 t (Ty.setPart u y t x i) r
 |some x,(i,(.nilS,_))::r=>B7 t (UY t x i (t.fld i)) r
 |_,_=>none
@[go_sem] def DT (t:Ty):Nat->List t.den
 |0=>[]
 |n+1=>t.zero::DT t n
@[go_sem] def Ji (t:Ty) (n:Nat) (l:List t.den) (i:Nat) (u:Ty) (y:u.den):Option (List t.den):=if h:u=t/\i<n then some (l.set i (uG h.1 y)) else none
@[go_sem] def C0 (t:Ty) (n:Nat):Option (List t.den)->List (Nat×qK)->Option (List t.den)
 |some l,[]=>some l
 |some l,(i,(.val u y,_))::r=>C0 t n (Ji t n l i u y) r
 |_,_=>none
attribute [go_sem] List.set_cons_zero List.set_cons_succ
@[go_sem] def LN:List qK->Option pU
 |[]=>some []
 |(.val .ref (some p),_)::r=>(LN r).map (p:: ·)
 |_=>none
@[go_sem] def xQ:pU->Nat->pY
 |[],_=>none
 |(o,k)::r,a=>if o=a then some k else xQ r a
@[go_sem] def yA:pY->Nat->pU
 |some k,o=>[(o,k)]
 |none,_=>[]
@[go_sem] def tK:pU->Nat->Nat->pU
 |[],_,_=>[]
 |(q,k)::r,o,n=>if o<=q/\q<o+n then tK r o n else(q,k)::tK r o n
@[go_sem] def FY:Ty->pY->pY
 | .list _,k=>k
 |_,_=>none
@[go_sem] def zP {α:Type}:List α->List α->List α
 |[],acc=>acc
 |x::l,acc=>zP l (x::acc)
inductive rT where
 |box (id:Nat) (u:Ty) (x:u.den) (toks:pU) (o:Nat)
 |tok (id:Nat)
@[go_sem] def rT.id:rT->Nat
 | .box i _ _ _ _=>i
 | .tok k=>k
@[go_sem] def AP:Nat->pZ->Bool
 |_,[]=>false
 |i,j::r=>if i=j then true else AP i r
@[go_sem] def sM:List rT->pZ
 |[]=>[]
 |w::r=>w.id::sM r
structure t8 where
 args:List qK
 H:List qJ
 ws:List rT
 n:Nat
@[go_sem] def LO:pZ->Nat->pU
 |[],_=>[]
 |q::qs,n=>(q,n)::LO qs (n+1)
@[go_sem] def CN (k:Nat):Option qJ->Option t8->Option t8
 |some (.grow e c m),some a=>if AP k (sM a.ws)=true then none else some ⟨a.args,.grow e c m::a.H,.tok k::a.ws,a.n+1⟩
 |_,_=>none
@[go_sem] def AB (H:List (Nat×qJ)):pY->Option t8->Option t8
 |some k,a=>CN k (qO H k) a
 |none,_=>none
@[go_sem] def zI (H:List (Nat×qJ)) (toks:pU) (o:Nat):pZ->Option t8->Option t8
 |[],a=>a
 |q::qs,a=>zI H toks o qs (AB H (xQ toks (o+q)) a)
@[go_sem] def OK (n:Nat):pZ->Bool
 |[]=>true
 |q::qs=>decide (q<n)&&OK n qs
@[go_sem] def FZ (H:List (Nat×qJ)) (t:Ty) (os:pZ) (i o:Nat) (u:Ty) (x:u.den) (toks:pU) (a:t8):Option t.den->Option t8
 |some y=>if (OK t.cells os&& !AP i (sM a.ws))=true then zI H toks o os (some ⟨(.val .ref (some (a.n,0)),none)::a.args,.cells t y (LO os (a.n+1))::a.H,.box i u x toks o::a.ws,a.n+1⟩) else none
 |none=>none
@[go_sem] def w9 (H:List (Nat×qJ)) (t:Ty) (os:pZ) (i o:Nat) (a:t8):Option qJ->Option t8
 |some (.cells u x toks)=>FZ H t os i o u x toks a (rE t u x o)
 |_=>none
@[go_sem] def CO (t:Ty) (x:t.den) (k:Nat) (a:t8):Option qJ->Option t8
 |some (.grow e c m)=>if (t.pure&& !AP k (sM a.ws))=true then some ⟨(.val t x,some a.n)::a.args,.grow e c m::a.H,.tok k::a.ws,a.n+1⟩ else none
 |_=>none
@[go_sem] def UZ (t:Ty) (x:t.den) (a:t8):Option t8:=
 if t.pure=true then some ⟨(.val t x,none)::a.args,a.H,a.ws,a.n⟩ else none
@[go_sem] def V0 (f:FuncId) (a:t8):Option t8:=some ⟨(.val .clo (some (f,[])),none)::a.args,a.H,a.ws,a.n⟩
@[go_sem] def V1 (a:t8):Option t8:=some ⟨(.nilS,none)::a.args,a.H,a.ws,a.n⟩
@[go_sem] def CP (i:Nat) (a:t8):Option qJ->Option t8
 |some (.map k v l)=>if (k.pure&&v.pure&& !AP i (sM a.ws))=true then some ⟨(.val .mp (some a.n),none)::a.args,.map k v l::a.H,.tok i::a.ws,a.n+1⟩ else none
 |_=>none
def yB (k n:Nat) (a:t8):Option qJ->Option t8
 |some (.row e t l m)=>if (t.pure&& !AP k (sM a.ws))=true then some ⟨(.own a.n n,none)::a.args,.row e t l m::a.H,.tok k::a.ws,a.n+1⟩ else none
 |some (.grow e c m)=>if (!AP k (sM a.ws))=true then some ⟨(.own a.n n,none)::a.args,.grow e c m::a.H,.tok k::a.ws,a.n+1⟩ else none
 |_=>none
attribute [go_sem] yB.eq_1 yB.eq_2 yB.eq_3
@[go_sem] def yC (H:List (Nat×qJ)) (f:FuncId) (args:List qK):List (Ty×pZ)->pU->pU->Option t8->Option t8
 |[],[],ids,some a=>some ⟨(.val .clo (some (f,zP ids [])),none)::args,a.H,a.ws,a.n⟩
 |(t,os)::ks,(i,o)::cs,ids,some a=>yC H f args ks cs ((a.n,0)::ids) (w9 H t os i o a (qO H i))
 |_,_,_,_=>none
@[go_sem] def DU (i o:Nat):List rT->Nat->pX
 |[],_=>none
 | .box j _ _ _ oc::r,c=>if j=i/\oc<=o then some (c,o-oc) else DU i o r (c+1)
 | .tok _::r,c=>DU i o r (c+1)
@[go_sem] def QT (a:t8):pX->Option t8
 |some p=>some ⟨(.val .ref (some p),none)::a.args,a.H,a.ws,a.n⟩
 |none=>none
@[go_sem] def yD (H:List (Nat×qJ)) (a:t8):PK->qK->Option t8
 | .v,(.val .clo (some (f,[])),_)=>V0 f a
 | .v,(.val t x,_)=>UZ t x a
 | .v,(.nilS,_)=>V1 a
 | .own,(.val (.list t) x,some k)=>CO (.list t) x k a (qO H k)
 | .p t os,(.val .ref (some (i,o)),_)=>w9 H t os i o a (qO H i)
 | .m,(.val .mp (some i),_)=>CP i a (qO H i)
 | .r,(.own k n,_)=>yB k n a (qO H k)
 | .f ks,(.val .clo (some (f,cs)),_)=>yC H f a.args ks cs [] (some a)
 | .q,(.val .ref (some (i,o)),_)=>QT a (DU i o (zP a.ws []) 0)
 |_,_=>none
@[go_sem] def yE (H:List (Nat×qJ)):List PK->List qK->Option t8->Option t8
 |_,_,none=>none
 |[],[],some a=>some a
 |p::ps,s::ss,some a=>yE H ps ss (yD H a p s)
 |_,_,some _=>none
@[go_sem] def a3Q:Option pX->qK
 |some (some p)=>(.val .ref (some p),none)
 |_=>(.any,none)
@[go_sem] def a3R:Option pY->qK
 |some (some i)=>(.val .mp (some i),none)
 |_=>(.any,none)
@[go_sem] def a3S:Option pX->qK
 |some (some (k,n))=>(.own k n,none)
 |_=>(.any,none)
@[go_sem] def CQ:(t:Ty)->t.den->Nat->Option pX
 | .rl _ _,x,0=>some x
 | .pair a b,x,o=>if o<a.cells then CQ a x.1 o else CQ b x.2 (o-a.cells)
 |_,_,_=>none
@[go_sem] def LP (q:Nat):PK->Option qJ->qK
 | .r,some (.cells t y _)=>a3S (CQ t y q)
 | .p _ _,some (.cells t y _)=>a3Q (rE .ref t y q)
 | .m,some (.cells t y _)=>a3R (rE .mp t y q)
 |_,_=>(.any,none)
@[go_sem] def JH:List qJ->Nat->Option qJ
 |[],_=>none
 |b::_,0=>some b
 |_::r,n+1=>JH r n
@[go_sem] def OL (l:List qK):Option t8->Option t8
 |some a=>some ⟨l,a.H,a.ws,a.n⟩
 |none=>none
@[go_sem] def C1 (H:List (Nat×qJ)):List (Nat×Nat×PK)->Option t8->Option t8
 |_,none=>none
 |[],some a=>some a
 |(c,q,pk)::r,some a=>C1 H r (OL a.args (yD H a pk (LP q pk (JH a.H (a.n-1-c)))))
@[go_sem] def wA (i:Nat):List rT->Nat->pY
 |[],_=>none
 | .tok j::r,c=>if j=i then some c else wA i r (c+1)
 | .box _ _ _ _ _::r,c=>wA i r (c+1)
@[go_sem] def G0 {α β:Type}:Option α->Option β->Option (α×β)
 |some a,some b=>some (a,b)
 |_,_=>none
@[go_sem] def V2 (W:List rT):pX->Option pX
 |none=>some none
 |some (i,o)=>(DU i o W 0).map some
@[go_sem] def Jj (W:List rT):pY->Option pY
 |none=>some none
 |some i=>(wA i W 0).map some
@[go_sem] def Jk (W:List rT):pX->Option pX
 |none=>some none
 |some (k,n)=>(wA k W 0).map fun c=>some (c,n)
@[go_sem] def QU:Option (Nat×pU)->Option (Option (Nat×pU))
 |none=>some none
 |some (f,[])=>some (some (f,[]))
 |_=>none
@[go_sem] def V3 (c n3 n4:Nat):pX->pY->pY->Option (Nat×Nat×(Nat×Nat)×(Nat×Nat))
 |some (i,0),some k3,some k4=>some (c,i,(k3,n3),(k4,n4))
 |_,_,_=>none
@[go_sem] def Jl (W:List rT):Nat×Nat×(Nat×Nat)×(Nat×Nat)->Option (Nat×Nat×(Nat×Nat)×(Nat×Nat))
 |(c,i,(k3,n3),(k4,n4))=>V3 c n3 n4 (DU i 0 W 0) (wA k3 W 0) (wA k4 W 0)
@[go_sem] def CR (W:List rT):(t:Ty)->t.den->Option t.den
 | .ref,x=>V2 W x
 | .clo,x=>QU x
 | .mp,x=>Jj W x
 | .pair a b,x=>G0 (if a.pure=true then some x.1 else CR W a x.1) (if b.pure=true then some x.2 else CR W b x.2)
 | .list t,x=>if t.pure=true then some x else none
 | .bool,x=>some x
 | .int _,x=>some x
 | .str,x=>some x
 | .unit,x=>some x
 | .rl _ _,x=>Jk W x
 | .fn,x=>some x
 | .mref,x=>V2 W x
 | .ap,x=>Jl W x
@[go_sem] def ci:Option qJ->Option (List qJ)->Option (List qJ)
 |some b,some l=>some (b::l)
 |_,_=>none
@[go_sem] def a3T (t:Ty) (ts:pU):Option t.den->Option qJ
 |some y=>some (.cells t y ts)
 |none=>none
def LQ (W:List rT):qJ->Option qJ
 | .cells t y ts=>if t.pure=true then some (.cells t y ts) else a3T t ts (CR W t y)
 |b=>some b
attribute [go_sem] LQ.eq_1 LQ.eq_2
@[go_sem] def JI (W:List rT):List qJ->Option (List qJ)
 |[]=>some []
 |b::r=>ci (LQ W b) (JI W r)
@[go_sem] def zQ:List rT->Nat->Option rT
 |[],_=>none
 |w::_,0=>some w
 |_::r,n+1=>zQ r n
@[go_sem] def OM (n:Nat) (c:Nat):Option rT->Bool
 |some _=>false
 |none=>decide (c<n)
@[go_sem] def AC (base n c:Nat):Option rT->pY
 |some (.box _ _ _ _ _)=>none
 |some (.tok k)=>some k
 |none=>if c<n then some (base+c) else none
@[go_sem] def Jm (base n c o:Nat):Option rT->qK
 |some (.box i _ _ _ o')=>(.val .ref (some (i,o'+o)),none)
 |wh=>if OM n c wh=true then(.val .ref (some (base+c,o)),none) else(.any,none)
@[go_sem] def LR (base n:Nat) (W:List rT):pY->pY
 |some c=>AC base n c (zQ W c)
 |none=>none
@[go_sem] def a3U (m:Nat):pY->qK
 |some k=>(.own k m,none)
 |none=>(.any,none)
@[go_sem] def a3V:pY->qK
 |some k=>(.val .mp (some k),none)
 |none=>(.any,none)
@[go_sem] def QV (base n c o:Nat):Option rT->pX
 |some (.box i _ _ _ o')=>some (i,o'+o)
 |wh=>if OM n c wh=true then some (base+c,o) else none
@[go_sem] def a3W:pX->Option pU->Option pU
 |some p,some l=>some (p::l)
 |_,_=>none
@[go_sem] def ON (base n:Nat) (W:List rT):pU->Option pU
 |[]=>some []
 |(c,o)::r=>a3W (QV base n c o (zQ W c)) (ON base n W r)
@[go_sem] def a3X (f:Nat):Option pU->qK
 |some l=>(.val .clo (some (f,l)),none)
 |none=>(.any,none)
@[go_sem] def V4 (base n:Nat) (W:List rT):qK->qK
 |(.own c m,_)=>a3U m (LR base n W (some c))
 |(.val .ref (some (c,o)),_)=>Jm base n c o (zQ W c)
 |(.val .ref none,_)=>(.val .ref none,none)
 |(.val .mp (some c),_)=>a3V (LR base n W (some c))
 |(.val .mp none,_)=>(.val .mp none,none)
 |(.val .clo (some (f,cs)),_)=>a3X f (ON base n W cs)
 |(.val t x,k)=>if t.pure=true then(.val t x,LR base n W (FY t k)) else(.any,none)
 |_=>(.any,none)
@[go_sem] def a3Y (q:Nat):pY->pU->pU
 |some k,r=>(q,k)::r
 |none,r=>r
@[go_sem] def EM (base n:Nat) (W:List rT) (o:Nat):pU->pU
 |[]=>[]
 |(q,c)::r=>a3Y (o+q) (AC base n c (zQ W c)) (EM base n W o r)
@[go_sem] def LS (base n:Nat) (W:List rT):pX->Option pX
 |none=>some none
 |some (c,o)=>back2 c o (zQ W c)
where
 back2 (c o:Nat):Option rT->Option pX
  |some (.box i _ _ _ o')=>some (some (i,o'+o))
  |wh=>if OM n c wh=true then some (some (base+c,o)) else none
attribute [go_sem] LS.back2
@[go_sem] def Jn (base n:Nat) (W:List rT):pY->Option pY
 |none=>some none
 |some c=>(AC base n c (zQ W c)).map some
@[go_sem] def Jo (base n:Nat) (W:List rT):pX->Option pX
 |none=>some none
 |some (c,q)=>(AC base n c (zQ W c)).map fun k=>some (k,q)
@[go_sem] def Jp (base n:Nat) (W:List rT):Nat×Nat×(Nat×Nat)×(Nat×Nat)->Option (Nat×Nat×(Nat×Nat)×(Nat×Nat))
 |(c,i,(k3,n3),(k4,n4))=>V3 c n3 n4 (QV base n i 0 (zQ W i)) (AC base n k3 (zQ W k3)) (AC base n k4 (zQ W k4))
@[go_sem] def C2 (base n:Nat) (W:List rT):(t:Ty)->t.den->Option t.den
 | .ref,x=>LS base n W x
 | .clo,x=>QU x
 | .mp,x=>Jn base n W x
 | .pair a b,x=>G0 (if a.pure=true then some x.1 else C2 base n W a x.1) (if b.pure=true then some x.2 else C2 base n W b x.2)
 | .list t,x=>if t.pure=true then some x else none
 | .bool,x=>some x
 | .int _,x=>some x
 | .str,x=>some x
 | .unit,x=>some x
 | .rl _ _,x=>Jo base n W x
 | .fn,x=>some x
 | .mref,x=>LS base n W x
 | .ap,x=>Jp base n W x
@[go_sem] def V5 (i o:Nat) (u t:Ty) (toks ts:pU):Option u.den->Option (Nat×qJ)
 |some z=>some (i,.cells u z (r7 ts (tK toks o t.cells)))
 |none=>none
@[go_sem] def Jq (i:Nat) (t:Ty) (ts:pU):Option t.den->Option (Nat×qJ)
 |some y=>some (i,.cells t y ts)
 |none=>none
def yW (base n c:Nat) (W:List rT):qJ->Option (Nat×qJ)
 | .cells t y ts=>if t.pure=true then some (base+c,.cells t y (EM base n W 0 ts)) else Jq (base+c) t (EM base n W 0 ts) (C2 base n W t y)
 | .grow e m k=>some (base+c,.grow e m k)
 | .row e t l n=>if t.pure=true then some (base+c,.row e t l n) else none
 | .map k v l=>if (k.pure&&v.pure)=true then some (base+c,.map k v l) else none
 | .iter _ _=>none
 | .dead=>some (base+c,.dead)
attribute [go_sem] yW.eq_1 yW.eq_2 yW.eq_3 yW.eq_4 yW.eq_5 yW.eq_6
def wR (k:Nat):qJ->Option (Nat×qJ)
 | .cells _ _ _=>none
 | .grow e m n=>some (k,.grow e m n)
 | .row e t l n=>if t.pure=true then some (k,.row e t l n) else none
 | .map s v l=>if (s.pure&&v.pure)=true then some (k,.map s v l) else none
 | .iter _ _=>none
 | .dead=>some (k,.dead)
attribute [go_sem] wR.eq_1 wR.eq_2 wR.eq_3 wR.eq_4 wR.eq_5 wR.eq_6
@[go_sem] def Jr (i o:Nat) (u t:Ty) (toks ts:pU) (x:u.den):Option t.den->Option (Nat×qJ)
 |some y=>V5 i o u t toks ts (sQ t y u x o)
 |none=>none
@[go_sem] def yF (base n i o:Nat) (W:List rT) (u:Ty) (x:u.den) (toks:pU):qJ->Option (Nat×qJ)
 | .cells t y ts=>if t.pure=true then V5 i o u t toks (EM base n W o ts) (sQ t y u x o) else Jr i o u t toks (EM base n W o ts) x (C2 base n W t y)
 | .dead=>some (i,.dead)
 | .grow _ _ _=>none
 | .row _ _ _ _=>none
 | .map _ _ _=>none
 | .iter _ _=>none
@[go_sem] def QW:Option (Nat×qJ)->Option (List (Nat×qJ))->Option (List (Nat×qJ))
 |some q,some r=>some (q::r)
 |_,_=>none
@[go_sem] def C3 (base n:Nat) (W:List rT):Nat->List rT->List qJ->Option (List (Nat×qJ))
 |_,[],[]=>some []
 |c,[],b::L=>QW (yW base n c W b) (C3 base n W (c+1) [] L)
 |c,.box i u x toks o::ws,b::L=>QW (yF base n i o W u x toks b) (C3 base n W (c+1) ws L)
 |c,.tok k::ws,b::L=>QW (wR k b) (C3 base n W (c+1) ws L)
 |_,_::_,[]=>none
@[go_sem] def HF:List qK->Option (List ((Σ t:Ty,t.den)×pY))
 |[]=>some []
 |(.val t x,k)::r=>(HF r).map ((⟨t,x⟩,k):: ·)
 |(.own k n,_)::r=>(HF r).map ((⟨.rl 0 .unit,some (k,n)⟩,none):: ·)
 |_=>none
@[go_sem] def a3Z:Option (List ((Σ t:Ty,t.den)×pY))->qK
 |some q=>(.tup q,none)
 |none=>(.any,none)
@[go_sem] def OO:List qK->Option qK
 |[]=>some (.tup [],none)
 |[s]=>some s
 |s::s'::l=>some (a3Z (HF (s::s'::l)))
@[go_sem] def cj (W:List rT):pZ->pZ
 |[]=>[]
 |c::r=>sameId (zQ W c) (cj W r)
where
 sameId:Option rT->pZ->pZ
  |some w,r=>w.id::r
  |none,r=>r
attribute [go_sem] cj.sameId
@[go_sem] def QX (side:List Prop) (rds:pZ):Option (List (Nat×qJ))->Option qK->Option qY
 |some H,some s=>some ⟨side,s,H,rds⟩
 |_,_=>none
@[go_sem] def QY (base n:Nat) (W:List rT):List qK->List qK
 |[]=>[]
 |s::r=>V4 base n W s::QY base n W r
@[go_sem] def rD:List qJ->Nat
 |[]=>0
 |_::r=>rD r+1
@[go_sem] def V6 (base:Nat) (W:List rT) (sm:pZ):Option qT->Option qY
 |some r=>QX r.side (r7 (sM W) (cj W sm)) (C3 base (rD r.H) W 0 W r.H) (OO (QY base (rD r.H) W r.ret))
 |none=>none
@[go_sem] def V7 (C:List qK->List qJ->Option qT) (sm:pZ) (base:Nat) (W:List rT) (args:List qK):Option (List qJ)->Option qY
 |some L=>V6 base W sm (C args L)
 |none=>none
@[go_sem] def QZ (C:List qK->List qJ->Option qT) (sm:pZ) (base:Nat):Option t8->Option qY
 |some a=>V7 C sm base (zP a.ws []) (zP a.args []) (JI (zP a.ws []) (zP a.H []))
 |none=>none
@[go_sem] def HG (H:List (Nat×qJ)) (base:Nat) (args:List qK):Option rH->Option qY
 |some g=>QZ g.C g.same base (C1 H g.gs (yE H g.ps args (some ⟨[],[],[],0⟩)))
 |none=>none
@[go_sem] def R0:List PK->List qK->pY
 | .r::ps,_::ss=>R0 ps ss
 |_::_,(.own k _,_)::_=>some k
 |_::ps,_::ss=>R0 ps ss
 |_,_=>none
@[go_sem] def Js (k:Nat) (t:Ty) (l:List t.den):qK->qK
 |(.own j m,x)=>if j=k then(.val (.list t) l,none) else(.own j m,x)
 |s=>s
@[go_sem] def R1 (k:Nat) (t:Ty) (l:List t.den):List qK->List qK
 |[]=>[]
 |s::r=>Js k t l s::R1 k t l r
@[go_sem] def LT (k n:Nat):List qK->List Prop
 |[]=>[]
 |(.own j m,_)::r=>(j=k->m=n)::LT k n r
 |_::r=>LT k n r
@[go_sem] def HH:Ty->Bool
 | .list _=>false
 | .pair a b=>HH a&&HH b
 | .bool| .int _| .str| .unit| .fn=>true
 | .ref| .clo| .mp| .rl _ _| .mref| .ap=>false
@[go_sem] def qQ:List (Nat×qJ)->pZ
 |[]=>[]
 |(i,_)::r=>i::qQ r
@[go_sem] def OP:List (Nat×qJ)->Bool
 |[]=>true
 |(_,.cells t _ [])::r=>HH t&&OP r
 |_=>false
@[go_sem] def V8:List ((Σ t:Ty,t.den)×pY)->Bool
 |[]=>true
 |(⟨t,_⟩,_)::r=>HH t&&V8 r
@[go_sem] def ck:List ((Σ t:Ty,t.den)×pY)->List ((Σ t:Ty,t.den)×pY)
 |[]=>[]
 |(q,_)::r=>(q,none)::ck r
@[go_sem] def V9:qK->Option qK
 |(.val t x,_)=>if HH t=true then some (.val t x,none) else none
 |(.tup l,_)=>if V8 l=true then some (.tup (ck l),none) else none
 |_=>none
@[go_sem] def cn (sd:List Prop) (k:Nat) (side:List Prop) (U:List (Nat×qJ)) (rds:pZ):Option qK->Option qY
 |some s=>if (OP U&& !AP k (qQ U))=true then some ⟨r7 sd side,s,U,k::rds⟩ else none
 |none=>none
@[go_sem] def co (sd:List Prop) (k:Nat):Option qY->Option qY
 |some ⟨side,s,U,rds⟩=>cn sd k side U rds (V9 s)
 |none=>none
@[go_sem] def R2 (H:List (Nat×qJ)) (base:Nat) (args:List qK) (g:rH) (k:Nat):Option qJ->Option qY
 |some (.row _ t l m)=>co (LT k m args) k (HG ((k,.dead)::H) base (R1 k t l args) (some g))
 |_=>none
@[go_sem] def Ju (H:List (Nat×qJ)) (base:Nat) (args:List qK) (g:rH):pY->Option qY
 |some k=>R2 H base args g k (qO H k)
 |none=>HG H base args (some g)
@[go_sem] def Jv (k n m e:Nat) (t:Ty):Option (List t.den)->Option qY
 |some l=>some ⟨[n=m,m<4611686018427387904],(.tup [],none),[(k,.row e t l m)],[k]⟩
 |none=>none
@[go_sem] def cp (F:(t:Ty)->List t.den->Option (List t.den)) (k n:Nat):Option qJ->Option qY
 |some (.row e t l m)=>Jv k n m e t (F t l)
 |_=>none
@[go_sem] def VA (H:List (Nat×qJ)) (F:(t:Ty)->List t.den->Option (List t.den)):List qK->Option qY
 |[(.own k n,_)]=>cp F k n (qO H k)
 |_=>none
@[go_sem] def cq (base:Nat):Option TI->qK->Option qY
 |some ⟨.list u,e,_,true,_⟩,(.nilS,_)=>some ⟨[],(.own base 0,none),[(base,.row e u [] 0)],[]⟩
 |some ⟨.list u,e,_,false,_⟩,(.nilS,_)=>some ⟨[],(.val (.list u) [],some base),[(base,.grow e u.cells 0)],[]⟩
 |_,(.nilS,_)=>none
 |_,s=>some ⟨[],s,[],[]⟩
@[go_sem] def G1:Ty->Nat->Bool
 | .list _,0=>true
 | .pair a b,o=>if o<a.cells then G1 a o else G1 b (o-a.cells)
 |_,_=>false
@[go_sem] def G2 (t:Ty):List (Nat×TypeId×Nat)->Bool
 |[]=>true
 |(o,_,_)::r=>G1 t o&&G2 t r
@[go_sem] def CS:List (Nat×TypeId×Nat)->Nat->pU
 |[],_=>[]
 |(o,_,_)::r,i=>(o,i)::CS r (i+1)
@[go_sem] def EN:List (Nat×TypeId×Nat)->Nat->List (Nat×qJ)
 |[],_=>[]
 |(_,e,c)::r,i=>r7 (EN r (i+1)) [(i,.grow e c 0)]
@[go_sem] def cr (e:Nat):Bool:=if e=82 then true else if e=Jb then true else false
@[go_sem] def ct (e:Nat) (u:Ty) (o:Nat):pX->List (Nat×Nat×Ty)
 |none=>[(o,e,u)]
 |some _=>[]
@[go_sem] def AD:(t:Ty)->t.den->Nat->List (Nat×Nat×Ty)
 | .rl e u,x,o=>ct e u o x
 | .pair a b,x,o=>r7 (AD a x.1 o) (AD b x.2 (o+a.cells))
 |_,_,_=>[]
@[go_sem] def cu (o:Nat):pX->pZ
 |none=>[o]
 |some _=>[]
@[go_sem] def HI:(t:Ty)->t.den->Nat->pZ
 | .mref,x,o=>cu o x
 | .pair a b,x,o=>r7 (HI a x.1 o) (HI b x.2 (o+a.cells))
 |_,_,_=>[]
@[go_sem] def Jw:Nat->pZ->pZ
 |2,[0]=>[0]
 |_,_=>[]
@[go_sem] def VB (el:Nat) (t:Ty) (y:t.den):pZ:=if cr el=true then Jw t.cells (HI t y 0) else[]
@[go_sem] def C5 (t:Ty):Nat->List (Nat×Nat×Ty)->Option t.den->Option t.den
 |_,[],x=>x
 |i,(o,e,u)::r,some x=>C5 t (i+1) r (sQ (.rl e u) (some (i,0)) t x o)
 |_,_::_,none=>none
@[go_sem] def JJ (t:Ty) (i:Nat):pZ->Option t.den->Option t.den
 |[],x=>x
 |q::r,some x=>JJ t i r (sQ .mref (some (i,q)) t x q)
 |_::_,none=>none
@[go_sem] def G3:List (Nat×Nat×Ty)->Nat->List (Nat×qJ)
 |[],_=>[]
 |(_,e,u)::r,i=>r7 (G3 r (i+1)) [(i,.row e u [] 0)]
@[go_sem] def R3 {α:Type}:List α->Nat
 |[]=>0
 |_::r=>R3 r+1
@[go_sem] def Jy (base:Nat) (t:Ty) (ls:List (Nat×TypeId×Nat)) (R:List (Nat×Nat×Ty)):Option t.den->Option qY
 |some z=>some ⟨[],(.val .ref (some (base,0)),none),(base,.cells t z (CS ls (base+1)))::r7 (G3 R (base+1+R3 ls)) (EN ls (base+1)),[]⟩
 |none=>none
@[go_sem] def R4 (base el:Nat) (t:Ty) (y:t.den) (ls:List (Nat×TypeId×Nat)):Bool->Option qY
 |true=>Jy base t ls (AD t y 0) (JJ t base (VB el t y) (C5 t (base+1+R3 ls) (AD t y 0) (some y)))
 |false=>none
@[go_sem] def CT (k:Nat):List (Nat×TypeId×Nat)->List (Nat×TypeId×Nat)
 |[]=>[]
 |(o,e,c)::r=>if o+1=k then CT k r else(o,e,c)::CT k r
@[go_sem] def Jz (base el:Nat) (ls:List (Nat×TypeId×Nat)):(t:Ty)->t.den->pY->Option qY
 | .pair a b,y,some k=>R4 base el (.pair a b) y (CT k ls) (G2 (.pair a b) (CT k ls))
 | .list u,y,k=>some ⟨[],(.val .ref (some (base,0)),none),[(base,.cells (.list u) y (yA k 0))],[]⟩
 |t,y,_=>some ⟨[],(.val .ref (some (base,0)),none),[(base,.cells t y [])],[]⟩
@[go_sem] def R5 (base el:Nat):Option TI->Option qY
 |some ⟨.list u,e,_,_,_⟩=>some ⟨[],(.val .ref (some (base,0)),none),[(base,.cells (.list u) [] [(0,base+1)]),(base+1,.grow e u.cells 0)],[]⟩
 |some ti=>R4 base el ti.ty ti.ty.zero ti.ls (G2 ti.ty ti.ls)
 |none=>none
@[go_sem] def cz (base el:Nat):Option TI->qK->Option qY
 |some ti,(.val t y,k)=>if t=ti.ty then Jz base el ti.ls t y k else none
 |_,_=>none
@[go_sem] def da (base el:Nat):Option TI->qK->Option qY
 |some ⟨.list u,e,_,true,_⟩,(.nilS,_)=>R4 base el (.rl e u) none [] true
 |some ⟨.list u,e,b,a,ls⟩,(.nilS,_)=>R5 base el (some ⟨.list u,e,b,a,ls⟩)
 |ti,s=>cz base el ti (OI ti s)
@[go_sem] def LU:Ty->Bool
 | .list _=>true
 | .pair a b=>LU a||LU b
 | .bool| .int _| .str| .unit| .ref| .clo| .mp| .rl _ _| .mref| .fn| .ap=>false
@[go_sem] def VC:pY->pY->pY
 |some o,some m=>if m=0 then some (o+1) else none
 |_,_=>none
@[go_sem] def db:Ty->Bool
 | .list _=>true
 | .pair _ _| .bool| .int _| .str| .unit| .ref| .clo| .mp| .rl _ _| .mref| .fn| .ap=>false
@[go_sem] def VD (u:Ty) (o m:pY):Bool->Bool->pY
 |false,_=>m
 |true,true=>VC o m
 |true,false=>none
@[go_sem] def B8 (t:Ty):List (Nat×qK)->pY
 |[]=>some 0
 |(_,(.nilS,_))::r=>B8 t r
 |(i,(.val u _,_))::r=>VD u (t.offs i) (B8 t r) (LU u) (db u)
 |_=>none
@[go_sem] def dc:Ty->pY->pY
 | .pair _ _,m=>m
 |_,_=>none
@[go_sem] def a30 (t:Ty) (k:pY):Option t.den->Option qY
 |some x=>some ⟨[],(.val t x,k),[],[]⟩
 |none=>none
@[go_sem] def de (sl:List (Nat×qK)):Option TI->Option qY
 |some ti=>if ti.ty.isRow=true then a30 ti.ty (dc ti.ty (B8 ti.ty sl)) (B7 ti.ty (some ti.ty.zero) sl) else none
 |none=>none
@[go_sem] def VE (base e c n:Nat) (t:Ty):Option (List t.den)->Option qY
 |some l=>if n<=16777216/\n*c<=16777216 then some ⟨[],(.val (.list t) l,some base),[(base,.grow e c n)],[]⟩ else none
 |none=>none
@[go_sem] def Ka (base e n:Nat) (t:Ty):Option (List t.den)->Option qY
 |some l=>if t.pure=true/\n<=16777216/\n*t.cells<=16777216 then some ⟨[],(.own base n,none),[(base,.row e t l n)],[]⟩ else none
 |none=>none
@[go_sem] def df (base n:Nat) (sl:List (Nat×qK)):Option TI->Option qY
 |some ⟨.list u,e,_,true,_⟩=>if n=0 then Ka base e n u (C0 u n (some (DT u n)) sl) else VE base e u.cells n u (C0 u n (some (DT u n)) sl)
 |some ⟨.list u,e,_,false,_⟩=>VE base e u.cells n u (C0 u n (some (DT u n)) sl)
 |_=>none
@[go_sem] def Kb (t:Ty) (k:pY) (i:Nat):Option t.den->Option qY
 |some y=>some ⟨[],(.val t y,k),[],[i]⟩
 |none=>none
@[go_sem] def R6 (t:Ty) (i off:Nat):Option qJ->Option qY
 |some (.cells u x toks)=>Kb t (FY t (xQ toks off)) i (rE t u x off)
 |_=>none
@[go_sem] def Kc (u:Ty) (k n m:Nat):Option u.den->Option qY
 |some y=>some ⟨[n=m],(.val u y,none),[],[k]⟩
 |none=>none
@[go_sem] def R7 (u:Ty) (k n c:Nat) (i:Int) (o:Nat):Option qJ->Option qY
 |some (.row _ t l m)=>if c=t.cells then Kc u k n m (rE u t (qR t l i) o) else none
 |_=>none
@[go_sem] def dg (i:Nat):Option pX->Option qY
 |some (some (k,n))=>some ⟨[],(.own k n,none),[],[i]⟩
 |_=>none
@[go_sem] def VF (i off:Nat):TI->Option qJ->Option qY
 |⟨.list u,e,_,_,_⟩,some (.cells v x _)=>dg i (rE (.rl e u) v x off)
 |_,_=>none
@[go_sem] def dh:pX->pX->pX
 |some p,_=>some p
 |none,q=>q
@[go_sem] def C6:(t:Ty)->t.den->pX
 | .rl _ _,x=>x
 | .pair a b,x=>dh (C6 a x.1) (C6 b x.2)
 |_,_=>none
@[go_sem] def di (u0:Ty) (l:List u0.den) (u:Ty):pX->Option (Σ t:Ty,t.den)
 |some _=>if u=u0 then some ⟨.list u0,l⟩ else none
 |none=>none
@[go_sem] def LV (a b:Ty) (x:a.den) (y:b.den):pX->Option (Σ t:Ty,t.den)->Option (Σ t:Ty,t.den)->Option (Σ t:Ty,t.den)
 |some _,some ⟨a',x'⟩,_=>some ⟨.pair a' b,(x',y)⟩
 |some _,none,_=>none
 |none,_,some ⟨b',y'⟩=>some ⟨.pair a b',(x,y')⟩
 |none,_,none=>none
@[go_sem] def AE (u0:Ty) (l:List u0.den):(t:Ty)->t.den->Option (Σ t:Ty,t.den)
 | .rl _ u,x=>di u0 l u x
 | .pair a b,x=>LV a b x.1 x.2 (C6 a x.1) (AE u0 l a x.1) (AE u0 l b x.2)
 |_,_=>none
@[go_sem] def dj (t:Ty) (i k:Nat) (sd:Prop) (e:TypeId) (c n:Nat) (v:Ty) (x:v.den):Option t.den->Option qY
 |some y=>some ⟨[sd],(.val t y,none),[(i,.cells v x []),(k,.grow e c n)],[1000000000,i,k]⟩
 |none=>none
@[go_sem] def dk (t:Ty) (i off k:Nat) (sd:Prop) (e:TypeId) (c n:Nat):Option (Σ t:Ty,t.den)->Option qY
 |some ⟨v,x⟩=>dj t i k sd e c n v x (rE t v x off)
 |none=>none
@[go_sem] def VG (t:Ty) (i off k n0:Nat) (v:Ty) (x:v.den):Option qJ->Option qY
 |some (.row e u0 l m)=>dk t i off k (n0=m) e u0.cells (List.length l) (AE u0 l v x)
 |_=>none
@[go_sem] def VH (H:List (Nat×qJ)) (t:Ty) (i off:Nat) (v:Ty) (x:v.den):pX->Option qY
 |some (k,n0)=>VG t i off k n0 v x (qO H k)
 |none=>none
@[go_sem] def JK (H:List (Nat×qJ)) (t:Ty) (i off:Nat):Option qJ->Option qY
 |some (.cells v x _)=>VH H t i off v x (C6 v x)
 |_=>none
@[go_sem] def HJ:Ty->Ty
 | .rl _ u=> .list u
 | .pair a b=> .pair (HJ a) (HJ b)
 | .bool=> .bool
 | .int k=> .int k
 | .str=> .str
 | .list t=> .list t
 | .unit=> .unit
 | .ref=> .ref
 | .clo=> .clo
 | .mp=> .mp
 | .mref=> .mref
 | .fn=> .fn
 | .ap=> .ap
@[go_sem] def Kd (u:Ty):Option qJ->Option (List u.den)
 |some (.row _ t l _)=>if h:t=u then some (uG (t:= .list t) (u:= .list u) (by rw[h]) l) else none
 |_=>none
@[go_sem] def dl (H:List (Nat×qJ)) (u:Ty):pX->Option (List u.den)
 |some (k,_)=>Kd u (qO H k)
 |none=>some []
@[go_sem] def B9 (H:List (Nat×qJ)):(t:Ty)->t.den->Option (HJ t).den
 | .rl _ u,x=>dl H u x
 | .pair a b,x=>G0 (B9 H a x.1) (B9 H b x.2)
 | .bool,x=>some x
 | .int _,x=>some x
 | .str,x=>some x
 | .list _,x=>some x
 | .unit,x=>some x
 | .ref,x=>some x
 | .clo,x=>some x
 | .mp,x=>some x
 | .mref,x=>some x
 | .fn,x=>some x
 | .ap,x=>some x
@[go_sem] def dm:pX->pU
 |some p=>[p]
 |none=>[]
@[go_sem] def BA:(t:Ty)->t.den->pU
 | .rl _ _,x=>dm x
 | .pair a b,x=>r7 (BA a x.1) (BA b x.2)
 |_,_=>[]
@[go_sem] def VI (k n:Nat):Option qJ->Option (Prop×qJ)
 |some (.row e t _ m)=>some (n=m,.grow e t.cells m)
 |_=>none
@[go_sem] def LW (k:Nat):Option (Prop×qJ)->Option (List Prop×List (Nat×qJ))->Option (List Prop×List (Nat×qJ))
 |some (p,b),some (ps,bs)=>some (p::ps,(k,b)::bs)
 |_,_=>none
@[go_sem] def R8 (k:Nat):pU->Bool
 |[]=>false
 |(j,_)::r=>if j=k then true else R8 k r
@[go_sem] def C7 (H:List (Nat×qJ)):pU->Option (List Prop×List (Nat×qJ))
 |[]=>some ([],[])
 |(k,n)::r=>if R8 k r=true then none else LW k (VI k n (qO H k)) (C7 H r)
@[go_sem] def VJ (t:Ty) (i:Nat):Option (List Prop×List (Nat×qJ))->Option t.den->Option qY
 |some (ps,bs),some y=>some ⟨ps,(.val t y,none),bs,i::qQ bs⟩
 |_,_=>none
@[go_sem] def VK (H:List (Nat×qJ)) (t:Ty) (i off:Nat) (v:Ty) (x:v.den):Option (HJ v).den->Option qY
 |some z=>VJ t i (C7 H (BA v x)) (rE t (HJ v) z off)
 |none=>none
@[go_sem] def LX (H:List (Nat×qJ)) (t:Ty) (i off:Nat):Option qJ->Option qY
 |some (.cells v x _)=>VK H t i off v x (B9 H v x)
 |_=>none
@[go_sem] def Ke (H:List (Nat×qJ)) (t:Ty) (i off:Nat) (b:Option qJ):Option qY->Option qY
 |some r=>some r
 |none=>JK H t i off b
@[go_sem] def VL (H:List (Nat×qJ)):Option TI->qK->Option qY
 |some ti,(.elt k n c i o,_)=>R7 ti.ty k n c i o (qO H k)
 |some ti,(.at u x,_)=>if u=ti.ty then some ⟨[],(.val u x,none),[],[]⟩ else none
 |some ti,(.val .ref (some (i,off)),_)=>if ti.elem=bu then LX H ti.ty i off (qO H i) else Ke H ti.ty i off (qO H i) (Jd (R6 ti.ty i off (qO H i)) (VF i off ti (qO H i)))
 |_,_=>none
@[go_sem] def OQ (u:Ty) (i:Nat) (toks:pU):Option u.den->Option qY
 |some z=>some ⟨[],(.any,none),[(i,.cells u z toks)],[i]⟩
 |none=>none
@[go_sem] def VM (t:Ty) (y:t.den) (k:pY) (i off:Nat):Option qJ->Option qY
 |some (.cells u x toks)=>OQ u i (r7 (yA (FY t k) off) (tK toks off t.cells)) (sQ t y u x off)
 |_=>none
@[go_sem] def OR (off:Nat):pU->pU
 |[]=>[]
 |(o,k)::r=>(off+o,k)::OR off r
@[go_sem] def Kf (u:Ty) (i:Nat) (nt toks:pU) (bs:List (Nat×qJ)):Option u.den->Option qY
 |some z=>some ⟨[],(.any,none),(i,.cells u z (r7 nt toks))::r7 bs [(i,.cells u z toks)],[i]⟩
 |none=>none
@[go_sem] def VN (t:Ty) (y:t.den) (ls:List (Nat×TypeId×Nat)) (base i off:Nat):Option qJ->Bool->Option qY
 |some (.cells u x toks),true=>Kf u i (OR off (CS ls base)) (tK toks off t.cells) (EN ls base) (sQ t y u x off)
 |_,_=>none
@[go_sem] def HK (base i off:Nat) (b:Option qJ):List (Nat×TypeId×Nat)->(t:Ty)->t.den->pY->Option qY
 |q::r,.pair a c,y,some k=>VN (.pair a c) y (CT k (q::r)) base i off b (G2 (.pair a c) (CT k (q::r)))
 |_,t,y,k=>VM t y k i off b
@[go_sem] def LY:Ty->Bool
 | .rl _ _=>true
 | .pair a b=>LY a||LY b
 |_=>false
@[go_sem] def VO (base:Nat) (sd:List Prop) (s:qK) (i:Nat) (v:Ty) (ts:pU) (U:List (Nat×qJ)) (R:List (Nat×Nat×Ty)):Option v.den->Option qY
 |some z=>some ⟨sd,s,(i,.cells v z ts)::r7 (G3 R base) U,[i]⟩
 |none=>none
@[go_sem] def VP (n:Nat):List (Nat×qJ)->Bool
 |[]=>true
 |(i,_)::r=>if i<n then VP n r else false
@[go_sem] def R9 (base:Nat):Option qY->Option qY
 |some ⟨sd,s,(i,.cells v z ts)::U,_⟩=>if VP base ((i,.cells v z ts)::U)=true then VO base sd s i v ts ((i,.cells v z ts)::U) (AD v z 0) (C5 v base (AD v z 0) (some z)) else none
 |_=>none
@[go_sem] def dn (base:Nat) (e:Option qY):Bool->Option qY
 |true=>R9 base e
 |false=>e
@[go_sem] def VQ (i k n m e:Nat) (u v:Ty) (l:List u.den) (ts:pU):Option v.den->Option qY
 |some z=>some ⟨[n=m],(.any,none),[(i,.cells v z ts),(k,.grow e u.cells m)],[i,k]⟩
 |none=>none
@[go_sem] def RA (i off k n:Nat) (u v:Ty) (x:v.den) (ts:pU):Option qJ->Option qY
 |some (.row e t l m)=>if h:t=u then VQ i k n m e t v l ts (sQ (.list t) l v x off) else none
 |_=>none
@[go_sem] def VR:Option pX->Nat×Nat
 |some (some p)=>p
 |_=>(0,0)
@[go_sem] def Kg (i j o:Nat) (r3 r4:Nat×Nat):Option (List Prop×(Nat×Nat×(Nat×Nat)×(Nat×Nat))):=
 if j=i then(if o=6 then some ([],(1,i,r3,r4)) else if o=7 then some ([],(2,i,r3,r4)) else none) else none
@[go_sem] def Kh (i k n c o:Nat) (ix:Int) (r3 r4:Nat×Nat):Option (List Prop×(Nat×Nat×(Nat×Nat)×(Nat×Nat))):=
 if c=1 then(if o=0 then(if k=r3.1 then some ([n=r3.2,ix+1=(n:Int)],(3,i,(k,r3.2),r4)) else none) else none)
 else if c=2 then(if o=1 then(if k=r4.1 then some ([n=r4.2,ix+1=(n:Int)],(4,i,r3,(k,r4.2))) else none) else none) else none
@[go_sem] def VS (i:Nat):DV->Nat×Nat->Nat×Nat->Option (List Prop×(Nat×Nat×(Nat×Nat)×(Nat×Nat)))
 | .val .ref (some (j,o)),r3,r4=>Kg i j o r3 r4
 | .elt k n c ix o,r3,r4=>Kh i k n c o ix r3 r4
 |_,_,_=>none
@[go_sem] def dp (i off:Nat) (v:Ty) (ts:pU) (sd:List Prop):Option v.den->Option qY
 |some z=>some ⟨sd,(.any,none),[(i,.cells v z (tK ts off 1))],[i]⟩
 |none=>none
@[go_sem] def dq (i off:Nat) (v:Ty) (x:v.den) (ts:pU):Option (List Prop×(Nat×Nat×(Nat×Nat)×(Nat×Nat)))->Option qY
 |some (sd,y)=>dp i off v ts sd (sQ .ap y v x off)
 |none=>none
@[go_sem] def dr (i off:Nat) (d:DV):Ty->Option qJ->Option qY
 | .ap,some (.cells v x ts)=>dq i off v x ts (VS i d (VR (CQ v x 8)) (VR (CQ v x 11)))
 |_,_=>none
@[go_sem] def Ki (k n m:Nat) (e:TypeId) (t:Ty) (l:List t.den) (i:Int):Option t.den->Option qY
 |some z=>some ⟨[n=m],(.any,none),[(k,.row e t (l.set i.toNat z) m)],[k]⟩
 |none=>none
@[go_sem] def VT (u:Ty) (y:u.den) (k n c:Nat) (i:Int) (o:Nat):Option qJ->Option qY
 |some (.row e t l m)=>if c=t.cells then Ki k n m e t l i (sQ u y t (qR t l i) o) else none
 |_=>none
@[go_sem] def du (b:Ty) (y:b.den):Option (Σ t:Ty,t.den)->Option (Σ t:Ty,t.den)
 |some ⟨a,x⟩=>some ⟨.pair a b,(x,y)⟩
 |none=>none
@[go_sem] def dv (a:Ty) (x:a.den):Option (Σ t:Ty,t.den)->Option (Σ t:Ty,t.den)
 |some ⟨b,y⟩=>some ⟨.pair a b,(x,y)⟩
 |none=>none
@[go_sem] def yX (e:Nat) (u:Ty) (kn:pX):(t:Ty)->t.den->Nat->Option (Σ t:Ty,t.den)
 | .list v,_,0=>if v=u then some ⟨.rl e u,kn⟩ else none
 | .pair a b,x,o=>if o<a.cells then du b x.2 (yX e u kn a x.1 o) else dv a x.1 (yX e u kn b x.2 (o-a.cells))
 |_,_,_=>none
@[go_sem] def dw (i:Nat):Option (Σ t:Ty,t.den)->Option qY
 |some ⟨v,z⟩=>some ⟨[],(.any,none),[(i,.cells v z [])],[1000000000,i]⟩
 |none=>none
@[go_sem] def Kj (H:List (Nat×qJ)) (i off k n e:Nat) (u v:Ty) (x:v.den) (ts:pU):List (Nat×TypeId×Nat)->Option qY
 |[]=>dw i (yX e u (some (k,n)) v x off)
 |_::_=>RA i off k n u v x (tK ts off 1) (qO H k)
@[go_sem] def dz (H:List (Nat×qJ)) (i off k n e:Nat) (u v:Ty) (x:v.den) (ts:pU) (ls:List (Nat×TypeId×Nat)):Option qY->Option qY
 |some r=>some r
 |none=>Kj H i off k n e u v x ts ls
@[go_sem] def OS (H:List (Nat×qJ)) (i off k n:Nat):TI->Option qJ->Option qY
 |⟨.list u,e,_,_,ls⟩,some (.cells v x toks)=>dz H i off k n e u v x toks ls (OQ v i (tK toks off 1) (sQ (.rl e u) (some (k,n)) v x off))
 |_,_=>none
@[go_sem] def VU (base:Nat) (H:List (Nat×qJ)):Option TI->qK->qK->Option qY
 |some ti,(.val .ref (some (i,off)),_),(.own k n,_)=>OS H i off k n ti (qO H i)
 |some ti,(.val .ref (some (i,off)),_),(.apd d,_)=>dr i off d ti.ty (qO H i)
 |some ti,(.elt k n c i o,_),(.val t y,_)=>if t=ti.ty then VT t y k n c i o (qO H k) else none
 |some ti,(.val .ref (some (i,off)),_),(.val t y,k)=>if t=ti.ty then dn (base+16) (HK base i off (qO H i) ti.ls t y k) (LY t) else none
 |_,_,_=>none
@[go_sem] def ec:qK->Option qY
 |(.val .ref (some p),_)=>some ⟨[],(.val .ref (some p),none),[],[]⟩
 |(.at t x,_)=>some ⟨[],(.at t x,none),[],[]⟩
 |(.elt k n c i o,_)=>some ⟨[],(.elt k n c i o,none),[],[]⟩
 |_=>none
@[go_sem] def Kk (f:FuncId):Option pU->Option qY
 |some l=>some ⟨[],(.val .clo (some (f,l)),none),[],[]⟩
 |none=>none
@[go_sem] def a32 (f:FuncId) (l:Option pU):List Operand->Option qY
 |[]=>Kk f l
 |_=>none
@[go_sem] def VV (side:List Prop):Option (Σ t:Ty,t.den)->Option qY
 |some ⟨t,x⟩=>if 0<t.cells then some ⟨side,(.at t x,none),[],[]⟩ else none
 |none=>none
@[go_sem] def VW (side:List Prop) (i off:Nat):pY->Option Ty->Option qY
 |some o,some u=>if 0<u.cells then some ⟨side,(.val .ref (some (i,off+o)),none),[],[]⟩ else none
 |_,_=>none
@[go_sem] def Kl (k n c:Nat) (i:Int) (o:Nat):pY->Option Ty->Option qY
 |some q,some u=>if 0<u.cells then some ⟨[],(.elt k n c i (o+q),none),[],[]⟩ else none
 |_,_=>none
@[go_sem] def ee (f:Nat):Option TI->qK->Option qY
 |some ⟨t,_,_,false,_⟩,(.elt k n c i o,_)=>Kl k n c i o (t.offs f) (t.fld f)
 |some ⟨t,_,_,false,_⟩,(.at u y,_)=>if u=t then VV [] (u.proj y f) else none
 |some ⟨t,_,_,false,_⟩,(.val .ref (some (i,off)),_)=>VW [] i off (t.offs f) (t.fld f)
 |_,_=>none
@[go_sem] def a33:Option (Σ t:Ty,t.den)->Option qY
 |some ⟨t,x⟩=>some ⟨[],(.val t x,none),[],[]⟩
 |none=>none
@[go_sem] def ef (f:Nat):Option TI->qK->Option qY
 |some ⟨t,_,_,false,_⟩,(.val u y,_)=>if u=t then a33 (u.proj y f) else none
 |_,_=>none
@[go_sem] def eh:Option TI->qK->qK->Option qY
 |some ⟨.list t',_,_,_,_⟩,(.own k n,_),(.val (.int _) i,_)=>if 0<t'.cells then some ⟨[0<=i/\i<(n:Int)],(.elt k n t'.cells i 0,none),[],[]⟩ else none
 |some ⟨.list t',_,_,_,_⟩,(.val (.list t) l,_),(.val (.int _) i,_)=>if t=t' then some ⟨[0<=i/\i<(List.length l:Int)],(.at t (qR t l i),none),[],[]⟩ else none
 |some ⟨.pair a b,_,_,true,_⟩,(.val .ref (some (i,off)),_),(.val (.int _) n,_)=>VW [(0:Int)<=n] i off ((Ty.pair a b).offs (Int.toNat n)) ((Ty.pair a b).fld (Int.toNat n))
 |some ⟨.pair a b,_,_,true,_⟩,(.at u x,_),(.val (.int _) n,_)=>if u= .pair a b then VV [(0:Int)<=n] (u.proj x (Int.toNat n)) else none
 |_,_,_=>none
@[go_sem] def ej:Option TI->qK->qK->Option qY
 |some ⟨.str,_,_,_,_⟩,(.val .str l,_),(.val (.int _) i,_)=>some ⟨[0<=i/\i<(List.length l:Int)],(.val (.int .u8) (sE l i),none),[],[]⟩
 |_,_,_=>none
@[go_sem] def a34 (e:Nat) (u:Ty):pX->qK
 |some (k,n)=>(.own k n,none)
 |none=>(.val (.rl e u) none,none)
@[go_sem] def a35:(t:Ty)->t.den->pY->qK
 | .rl e u,x,_=>a34 e u x
 | .bool,x,k=>(.val .bool x,k)
 | .int i,x,k=>(.val (.int i) x,k)
 | .str,x,k=>(.val .str x,k)
 | .list u,x,k=>(.val (.list u) x,k)
 | .unit,x,k=>(.val .unit x,k)
 | .pair a b,x,k=>(.val (.pair a b) x,k)
 | .ref,x,k=>(.val .ref x,k)
 | .clo,x,k=>(.val .clo x,k)
 | .mp,x,k=>(.val .mp x,k)
 | .mref,x,k=>(.val .mref x,k)
 | .ap,x,k=>(.val .ap x,k)
 | .fn,x,k=>(.val .fn x,k)
@[go_sem] def VX:List ((Σ t:Ty,t.den)×pY)->Nat->Option qY
 |[],_=>none
 |(⟨t,x⟩,k)::_,0=>some ⟨[],a35 t x k,[],[]⟩
 |_::r,n+1=>VX r n
@[go_sem] def Km (b:Bool) (p c:Int):Nat->Option qY
 |0=>some ⟨[],(.val .bool b,none),[],[]⟩
 |1=>some ⟨[b=true],(.val (.int .i64) p,none),[],[]⟩
 |2=>some ⟨[b=true],(.val (.int .i32) c,none),[],[]⟩
 |_=>none
@[go_sem] def ek (i:Nat):qK->Option qY
 |(.tup l,_)=>VX l i
 |(.nxt b p c,_)=>Km b p c i
 |_=>none
@[go_sem] def VY (i:Nat):Option qJ->Option qY
 |some (.map _ _ l)=>some ⟨[],(.val (.int .i64) (List.length l:Int),none),[],[i]⟩
 |_=>none
@[go_sem] def eo (H:List (Nat×qJ)):Option TI->List qK->Option qY
 |some ⟨.mp,_,_,_,_⟩,[(.val .mp (some i),_)]=>VY i (qO H i)
 |some ⟨.str,_,_,_,_⟩,[(.val .str l,_)]=>some ⟨[],(.val (.int .i64) (List.length l:Int),none),[],[]⟩
 |some ⟨.list _,_,_,_,_⟩,[(.val (.list _) l,_)]=>some ⟨[],(.val (.int .i64) (List.length l:Int),none),[],[]⟩
 |some ⟨.list _,_,_,_,_⟩,[(.own _ n,_)]=>some ⟨[],(.val (.int .i64) (n:Int),none),[],[]⟩
 |_,_=>none
@[go_sem] def VZ (a:Ty) (l r:List a.den) (k e' by':Nat):Option qJ->Option qY
 |some (.grow e c n)=>if e=e'/\c=a.cells/\0<c/\0<by' then some ⟨[List.length l=n,(List.length l+List.length r)*by'<=140737488355328],(.val (.list a) (l++r),some k),[(k,.grow e c (List.length (l++r)))],[k]⟩ else none
 |_=>none
@[go_sem] def W3 (b:Ty) (r:List b.den) (k n e' by':Nat):Option qJ->Option qY
 |some (.row e t l m)=>if h:b=t then(if e=e'/\0<t.cells/\0<by' then some ⟨[n=m,(n+List.length r)*by'<=140737488355328],(.own k (List.length (l++uG (t:= .list b) (u:= .list t) (by rw[h]) r)),none),[(k,.row e t (l++uG (t:= .list b) (u:= .list t) (by rw[h]) r) (List.length (l++uG (t:= .list b) (u:= .list t) (by rw[h]) r)))],[k]⟩ else none) else none
 |_=>none
@[go_sem] def W4 (H:List (Nat×qJ)):Option TI->List qK->Option qY
 |some ⟨.list u,e,by',_,_⟩,[(.own k n,_),(.val (.list b) r,_)]=>if b=u then W3 b r k n e by' (qO H k) else none
 |some ⟨.list u,e,by',_,_⟩,[(.val (.list a) l,some k),(.val (.list b) r,_)]=>if h:b=a/\a=u then VZ a l (uG (t:= .list b) (u:= .list a) (by rw[h.1]) r) k e by' (qO H k) else none
 |_,_=>none
@[go_sem] def W5 (mx:Bool):List qK->Option (List Prop×DV)
 |[(.val (.int k) a,_),(.val (.int k') b,_)]=>if k=k' then some ([],.val (.int k) (if mx then max (a:Int) b else min (a:Int) b)) else none
 |_=>none
@[go_sem] def ep:pU->List qK
 |[]=>[]
 |c::r=>(.val .ref (some c),none)::ep r
@[go_sem] def W6 (H:List (Nat×qJ)) (base:Nat) (args:List qK) (g:rH):Option ((t:Ty)->List t.den->Option (List t.den))->Option qY
 |some F=>VA H F args
 |none=>Ju H base args g (R0 g.ps args)
@[go_sem] def LZ (H:List (Nat×qJ)) (base:Nat) (args:List qK):Option rH->Option qY
 |some g=>W6 H base args g g.row
 |none=>none
@[go_sem] def JL (Γ:tH) (f:Nat):Option rH:=if f<1000000000 then Γ f else none
@[go_sem] def M0 (Γ:tH) (H:List (Nat×qJ)) (base:Nat) (args:List qK):qK->Option qY
 |(.val .clo (some (f,caps)),_)=>LZ H base (args++ep caps) (JL Γ f)
 |(.val .fn (some f),_)=>LZ H base args (JL Γ f)
 |_=>none
@[go_sem] def C8 (T:sW) (ρ:Operand->qK):List Operand->List TypeId->List qK
 |x::xs,t::ts=>OI (rY T t) (ρ x)::C8 T ρ xs ts
 |_,_=>[]
@[go_sem] def vY (ρ:Operand->qK):List Operand->List qK
 |[]=>[]
 |x::xs=>ρ x::vY ρ xs
@[go_sem] def uM (ρ:Operand->qK):List (Nat×Operand)->List (Nat×qK)
 |[]=>[]
 |(i,x)::xs=>(i,ρ x)::uM ρ xs
@[go_sem] def AF (ρ:Operand->qK):Option Operand->Option qK
 |some x=>some (ρ x)
 |none=>none
@[go_sem] def W7 (T:sW) (H:List (Nat×qJ)) (ss:List qK):List TypeId->Option qY
 |t::_=>eo H (rY T t) ss
 |[]=>none
@[go_sem] def W8 (l:pV) (s:pL) (k e':Nat):Option qJ->Option qY
 |some (.grow e c n)=>if e=e'/\c=1 then some ⟨[List.length l=n,List.length l+List.length s<=140737488355328],(.val (.list (.int .u8)) (l++uQ s),some k),[(k,.grow e c (List.length (l++uQ s)))],[k]⟩ else none
 |_=>none
@[go_sem] def eq (H:List (Nat×qJ)):Option TI->Option TI->List qK->Option qY
 |some ⟨.list (.int .u8),e,1,_,_⟩,some ⟨.str,_,_,_,_⟩,[(.val (.list (.int .u8)) l,some k),(.val .str s,_)]=>W8 l s k e (qO H k)
 |_,_,_=>none
@[go_sem] def W9 (T:sW) (H:List (Nat×qJ)) (ss:List qK):List TypeId->Option qY
 |[t,u]=>if t=u then W4 H (rY T t) ss else eq H (rY T t) (rY T u) ss
 |_=>none
@[go_sem] def M1:List Operand->List TypeId->Bool
 |[],[]=>true
 |_::xs,_::ts=>M1 xs ts
 |_,_=>false
@[go_sem] def et:List qK->Option TI->Option qY
 |[(.val .ref (some p),_)],some ⟨.ap,_,_,_,_⟩=>some ⟨[],(.apd (.val .ref (some p)),none),[],[]⟩
 |[(.elt k n c ix o,_)],some ⟨.ap,_,_,_,_⟩=>some ⟨[],(.apd (.elt k n c ix o),none),[],[]⟩
 |_,_=>none
@[go_sem] def Kn (args:List qK) (ti:Option TI):pU->Option qY
 |[]=>et args ti
 |_=>none
@[go_sem] def M2 (c:Nat) (y1 y2 y3 y4:pL):pL:=if c=1 then y1 else if c=2 then y2 else if c=3 then y3 else y4
@[go_sem] def M3 (b:Bool) (z y:pL):pL:=if b=true then z else y
abbrev HL:Ty:= .pair .str (.pair .str .unit)
def G4 (l:pM):pL:=l.getD (l.length-1) []
def JM (l:List (pL×pL×Unit)):pL:=(l.getD (l.length-1) ([],[],())).2.1
def G5 (b:Bool) (z:pL) (l:pM):pM:=if b=true then l.set (l.length-1) z else l
def G6 (b:Bool) (z:pL) (l:List (pL×pL×Unit)):List (pL×pL×Unit):=if b=true then l.set (l.length-1) ((l.getD (l.length-1) ([],[],())).1,z,()) else l
@[go_sem] def eu (c i k3 n3 k4 n4:Nat) (u:Ty) (ts:pU) (e3:Nat) (l3:pM) (m3 e4:Nat) (l4:List (pL×pL×Unit)) (m4:Nat) (z:pL) (b:Bool) (sd:List Prop):Option u.den->Option qY
 |some x=>some ⟨(c≠0)::(n3=m3)::(n4=m4)::((z.length:Int)<=9223372036854775807)::sd,(.val .bool b,none),[(i,.cells u x (tK (tK ts 6 1) 7 1)),(k3,.row e3 .str (G5 (b&&decide (c=3)) z l3) m3),(k4,.row e4 HL (G6 (b&&decide (4<=c)) z l4) m4)],[i,k3,k4]⟩
 |none=>none
@[go_sem] def Ko {u:Ty}(b:Bool) (z:pL) (o:Nat) (x:u.den):Option pL->Option u.den
 |some y=>sQ .str (M3 b z y) u x o
 |none=>none
@[go_sem] def OT {u:Ty}(b:Bool) (z:pL) (o:Nat):Option u.den->Option u.den
 |some x=>Ko b z o x (rE .str u x o)
 |none=>none
@[go_sem] def ew (c i k3 n3 k4 n4:Nat) (u:Ty) (x:u.den) (ts:pU) (e3:Nat) (l3:pM) (m3 e4:Nat) (l4:List (pL×pL×Unit)) (m4:Nat) (z:pL):Option qT->Option qY
 |some ⟨sd,[(.val .bool b,none)],[]⟩=>eu c i k3 n3 k4 n4 u ts e3 l3 m3 e4 l4 m4 z b sd (OT (b&&decide (c=2)) z 7 (OT (b&&decide (c=1)) z 6 (some x)))
 |_=>none
@[go_sem] def ez (Γ:tH) (c i k3 n3 k4 n4:Nat) (s:pL) (u:Ty) (x:u.den) (ts:pU) (e3:Nat) (l3:pM) (m3 e4:Nat) (l4:List (pL×pL×Unit)) (m4:Nat):Option rH->Option pL->Option pL->Option qY
 |some g,some y1,some y2=>ew c i k3 n3 k4 n4 u x ts e3 l3 m3 e4 l4 m4 (M2 c y1 y2 (G4 l3) (JM l4)++s) (g.C [(.val .str (M2 c y1 y2 (G4 l3) (JM l4)++s),none)] [])
 |_,_,_=>none
@[go_sem] def fe (Γ:tH) (c i k3 n3 k4 n4:Nat) (s:pL) (u:Ty) (x:u.den) (ts:pU):Option qJ->Option qJ->Option qY
 |some (.row e3 .str l3 m3),some (.row e4 (.pair .str (.pair .str .unit)) l4 m4)=>ez Γ c i k3 n3 k4 n4 s u x ts e3 l3 m3 e4 l4 m4 (JL Γ HE) (rE .str u x 6) (rE .str u x 7)
 |_,_=>none
@[go_sem] def ff (i k3 k4:Nat):Bool:=if i=k3 then false else if i=k4 then false else if k3=k4 then false else true
@[go_sem] def WA (Γ:tH) (H:List (Nat×qJ)) (c i k3 n3 k4 n4:Nat) (s:pL):Option qJ->Bool->Option qY
 |some (.cells u x ts),true=>fe Γ c i k3 n3 k4 n4 s u x ts (qO H k3) (qO H k4)
 |_,_=>none
@[go_sem] def M4 (Γ:tH) (H:List (Nat×qJ)):Nat×Nat×(Nat×Nat)×(Nat×Nat)->List qK->Option TI->Option qY
 |(c,i,(k3,n3),(k4,n4)),[(.val .str s,_)],some ⟨.ap,_,_,_,_⟩=>WA Γ H c i k3 n3 k4 n4 s (qO H i) (ff i k3 k4)
 |_,_,_=>none
@[go_sem] def fh (T:sW) (Γ:tH) (base:Nat) (H:List (Nat×qJ)) (args:List qK) (f:Nat) (caps:pU):Option qY:=
 if f=JE then Kn args (rY T LL) caps else M0 Γ H base args (.val .clo (some (f,caps)),none)
@[go_sem] def OU (T:sW) (Γ:tH) (base:Nat) (H:List (Nat×qJ)) (args:List qK):qK->Option qY
 |(.val .ap x,_)=>M4 Γ H x args (rY T LL)
 |(.val .clo (some (f,caps)),_)=>fh T Γ base H args f caps
 |s=>M0 Γ H base args s
@[go_sem] def fi (T:sW) (Γ:tH) (ρ:Operand->qK) (base:Nat) (H:List (Nat×qJ)) (args:List Operand) (tys:List TypeId) (f:qK):Bool->Option qY
 |true=>OU T Γ base H (C8 T ρ args tys) f
 |false=>none
@[go_sem] def M5 (T:sW) (Γ:tH) (ρ:Operand->qK) (base:Nat) (H:List (Nat×qJ)) (args:Array Operand) (tys:Array TypeId):Callee->Option qY
 | .builtin .len=>W7 T H (vY ρ args.toList) tys.toList
 | .builtin .append=>W9 T H (vY ρ args.toList) tys.toList
 | .builtin .max=>B6 (W5 true (vY ρ args.toList))
 | .builtin .min=>B6 (W5 false (vY ρ args.toList))
 | .value f=>fi T Γ ρ base H args.toList tys.toList (ρ f) (M1 args.toList tys.toList)
 |_=>none
@[go_sem] def EO:Ty->Bool
 | .int _| .str| .bool=>true
 |_=>false
def HO:(k:Ty)->k.den->k.den->Bool
 | .int _,a,b=>decide ((a:Int)=b)
 | .str,a,b=>decide ((a:pL)=b)
 | .bool,a,b=>a==b
 |_,_,_=>false
def sT (k v:Ty):List (k.den×v.den)->k.den->v.den
 |[],_=>v.zero
 |(x,y)::r,a=>if HO k a x=true then y else sT k v r a
def G7 (k v:Ty):List (k.den×v.den)->k.den->Bool
 |[],_=>false
 |(x,_)::r,a=>if HO k a x=true then true else G7 k v r a
def t6 (k v:Ty) (a:k.den) (b:v.den):List (k.den×v.den)->List (k.den×v.den)
 |[]=>[(a,b)]
 |(x,y)::r=>if HO k a x=true then(a,b)::r else(x,y)::t6 k v a b r
@[go_sem] def Kp (base:Nat):Option TI->Option TI->Option qY
 |some k,some v=>if EO k.ty=true then some ⟨[],(.val .mp (some base),none),[(base,.map k.ty v.ty [])],[]⟩ else none
 |_,_=>none
@[go_sem] def fj (T:sW) (base:Nat):Option TI->Option Operand->Option qY
 |some ⟨.mp,e,f,_,_⟩,none=>Kp base (rY T e) (rY T f)
 |_,_=>none
@[go_sem] def WB (k:Ty) (a:k.den) (u:Ty) (i:Nat) (ok:Bool):Option qJ->Option qY
 |some (.map k' v l)=>if h:k=k'/\v=u then(if EO k=true then(match ok with
   |true=>some ⟨[],(.tup [(⟨v,sT k' v l (uG h.1 a)⟩,none),(⟨.bool,G7 k' v l (uG h.1 a)⟩,none)],none),[],[i]⟩
   |false=>some ⟨[],(.val v (sT k' v l (uG h.1 a)),none),[],[i]⟩) else none) else none
 |_=>none
@[go_sem] def fk (H:List (Nat×qJ)) (ok:Bool) (i:Nat):Option TI->Option TI->qK->Option qY
 |some kt,some vt,(.val k a,_)=>if k=kt.ty then WB k a vt.ty i ok (qO H i) else none
 |_,_,_=>none
@[go_sem] def Kq (ok:Bool):Option TI->Option TI->qK->Option qY
 |some kt,some vt,(.val k _,_)=>if k=kt.ty then(if EO k=true then(match ok with
   |true=>some ⟨[],(.tup [(⟨vt.ty,vt.ty.zero⟩,none),(⟨.bool,false⟩,none)],none),[],[]⟩
   |false=>some ⟨[],(.val vt.ty vt.ty.zero,none),[],[]⟩) else none) else none
 |_,_,_=>none
@[go_sem] def WC (T:sW) (H:List (Nat×qJ)) (ok:Bool):Option TI->qK->qK->Option qY
 |some ⟨.mp,e,f,_,_⟩,(.val .mp (some i),_),s=>fk H ok i (rY T e) (rY T f) s
 |some ⟨.mp,e,f,_,_⟩,(.val .mp none,_),s=>Kq ok (rY T e) (rY T f) s
 |_,_,_=>none
@[go_sem] def OV (k:Ty) (a:k.den) (u:Ty) (b:u.den) (i:Nat):Option qJ->Option qY
 |some (.map k' v l)=>if h:k=k'/\u=v then(if EO k=true then some ⟨[],(.any,none),[(i,.map k' v (t6 k' v (uG h.1 a) (uG h.2 b) l))],[i]⟩ else none) else none
 |_=>none
@[go_sem] def WD (H:List (Nat×qJ)) (i:Nat):Option TI->qK->qK->Option qY
 |some kt,(.val k a,_),(.val u b,_)=>if k=kt.ty then OV k a u b i (qO H i) else none
 |_,_,_=>none
@[go_sem] def Kr:Option TI->qK->qK
 |some ⟨.fn,_,_,_,_⟩,(.val .clo (some (f,[])),_)=>(.val .fn (some f),none)
 |_,s=>s
@[go_sem] def WE (T:sW):Option TI->qK->qK
 |some ⟨.mp,_,f,_,_⟩,s=>Kr (rY T f) s
 |_,s=>s
@[go_sem] def OW (T:sW) (H:List (Nat×qJ)):Option TI->qK->qK->qK->Option qY
 |some ⟨.mp,e,_,_,_⟩,(.val .mp (some i),_),s,x=>WD H i (rY T e) s x
 |_,_,_,_=>none
def xR (s:pL) (p:Nat):Int:=((Utf8.decode ⟨s.toArray⟩ p).1:Int)
def fm (s:pL) (p:Nat):Nat:=(Utf8.decode ⟨s.toArray⟩ p).2
def BB (s:pL) (p:Nat):Nat:=if p<s.length then p+fm s p else p
@[go_sem] def fp (base:Nat):Option TI->qK->Option qY
 |some ⟨.str,_,_,_,_⟩,(.val .str s,_)=>some ⟨[],(.val .ref (some (base,0)),none),[(base,.iter s 0)],[]⟩
 |_,_=>none
@[go_sem] def fq (i:Nat):Option qJ->Option qY
 |some (.iter s p)=>some ⟨[],(.nxt (decide (p<List.length s)) ((p:Nat):Int) (xR s p),none),[(i,.iter s (BB s p))],[i]⟩
 |_=>none
@[go_sem] def WF (H:List (Nat×qJ)):Bool->qK->Option qY
 |true,(.val .ref (some (i,0)),_)=>fq i (qO H i)
 |_,_=>none
@[go_sem] def uN (T:sW) (Γ:tH) (ty:TypeId) (ρ:Operand->qK) (base:Nat) (H:List (Nat×qJ)):Op->Option qY
 | .move x| .assign x=>cq base (rY T ty) (ρ x)
 | .alloc e=>R5 base e (rY T e)
 | .box e x=>da base e (rY T e) (ρ x)
 | .build t ps=>de (uM ρ ps.toList) (rY T t)
 | .buildSlice t n ps=>df base n (uM ρ ps.toList) (rY T t)
 | .load t a=>VL H (rY T t) (ρ a)
 | .store t a x=>VU base H (rY T t) (ρ a) (OI (rY T t) (ρ x))
 | .nilCheck x=>ec (ρ x)
 | .binOp op t x y _=>B6 (ce (UU op (rY T t) (ρ x) (ρ y)) (ce (UT op (ρ x) (ρ y)) (cb (rY T t) op (ρ x) (ρ y))))
 | .unOp op _ x=>B6 (cf op (ρ x))
 | .convert src dst x=>B6 (ce (UW (rY T src) (rY T dst) (ρ x)) (cg T (rY T src) (rY T dst) (ρ x)))
 | .makeFunc (.func f) first caps=>a32 f (LN (vY ρ caps.toList)) first.toList
 | .slice t x lo hi none=>B6 (ch (rY T t) (ρ x) (AF ρ lo) (AF ρ hi))
 | .fieldAddr t x f=>ee f (rY T t) (ρ x)
 | .field t x f=>ef f (rY T t) (ρ x)
 | .indexAddr t x ix=>eh (rY T t) (ρ x) (ρ ix)
 | .index t x ix=>ej (rY T t) (ρ x) (ρ ix)
 | .extract x i=>ek i (ρ x)
 | .makeMap t r=>fj T base (rY T t) r
 | .range t x=>fp base (rY T t) (ρ x)
 | .next x b=>WF H b (ρ x)
 | .lookup t x i ok=>WC T H ok (rY T t) (ρ x) (ρ i)
 | .mapUpdate t m k x=>OW T H (rY T t) (ρ m) (ρ k) (WE T (rY T t) (ρ x))
 | .insert t m k x=>OW T H (rY T t) (ρ m) (ρ k) (WE T (rY T t) (ρ x))
 | .call c=>M5 T Γ ρ base H c.args c.argTypes c.callee
 |_=>none
@[go_sem] def uB:qK->qK
 |(.cond _ d,_)=>(d,none)
 |s=>s
@[go_sem] def zR (G:Bool):List qK->List Prop
 |[]=>[]
 |(.cond p _,_)::r=>(G=true->p=true)::zR G r
 |_::r=>zR G r
@[go_sem] def Ks (b:Bool):qK->Option Bool
 |(.val .bool c,_)=>some (c==b)
 |(.cond p (.val .bool c),_)=>some (p&&(c==b))
 |_=>none
@[go_sem] def AQ:List Oper->Nat->Option Tmp
 |[],_=>none
 |o::_,0=>o.dst
 |_::r,n+1=>AQ r n
@[go_sem] def HP (env:List (Nat×qK)) (b:Bool):Option Tmp->Option Bool
 |some t=>Ks b (lk env t)
 |none=>none
@[go_sem] def Kt (b:Bool):qK->Bool
 |(.val .bool c,_)=>c==b
 |(.cond p (.val .bool c),_)=>p&&(c==b)
 |(.cond p .any,_)=>p
 |_=>true
@[go_sem] def M6 (env:List (Nat×qK)) (b:Bool):Option Tmp->Bool
 |some t=>Kt b (lk env t)
 |none=>true
@[go_sem] def WG (j:Nat) (b:Bool):Nat:=1000000000+(2*j+if b=true then 1 else 0)
@[go_sem] theorem aDx (x y:Bool):cond x y false=(x&&y):=by cases x<;>rfl
@[go_sem] theorem aDy (x y:Bool):cond x true y=(x||y):=by cases x<;>rfl
@[go_sem] def Ku (x:Bool):qK->qK->Option qY
 |(.val .bool y,_),(.val .bool z,_)=>some ⟨[],(.val .bool (cond x y z),none),[],[]⟩
 |(.cond p (.val .bool y),_),(.val .bool z,_)=>some ⟨[x=true->p=true],(.val .bool (cond x y z),none),[],[]⟩
 |(.val .bool y,_),(.cond p (.val .bool z),_)=>some ⟨[x=false->p=true],(.val .bool (cond x y z),none),[],[]⟩
 |(.cond q (.val .bool y),_),(.cond p (.val .bool z),_)=>some ⟨[x=true->q=true,x=false->p=true],(.val .bool (cond x y z),none),[],[]⟩
 |(.val .bool y,_),(.cond _ .any,_)=>some ⟨[x=true],(.val .bool y,none),[],[]⟩
 |(.cond q (.val .bool y),_),(.cond _ .any,_)=>some ⟨[x=true,q=true],(.val .bool y,none),[],[]⟩
 |(.cond _ .any,_),(.val .bool z,_)=>some ⟨[x=false],(.val .bool z,none),[],[]⟩
 |(.cond _ .any,_),(.cond p (.val .bool z),_)=>some ⟨[x=false,p=true],(.val .bool z,none),[],[]⟩
 |_,_=>none
@[go_sem] def RB:qK->qK->qK->Option qY
 |(.val .bool x,_),a,b=>Ku x a b
 |_,_,_=>none
@[go_sem] def sV:Op->List Operand
 | .move x| .assign x| .box _ x| .load _ x| .nilCheck x| .unOp _ _ x| .convert _ _ x| .fieldAddr _ x _| .field _ x _| .extract x _=>[x]
 | .build _ ps| .buildSlice _ _ ps=>parts ps.toList
 | .store _ a v| .binOp _ _ a v _| .indexAddr _ a v| .index _ a v=>[a,v]
 | .lookup _ a v _=>[a,v]
 | .range _ x| .next x _=>[x]
 | .mapUpdate _ m k x=>[m,k,x]
 | .insert _ m k x=>[m,k,x]
 | .makeFunc _ _ caps=>caps.toList
 | .slice _ x l h _=>x::r7 (opt l) (opt h)
 | .call ⟨.value f,args,_⟩=>f::args.toList
 | .call ⟨_,args,_⟩=>args.toList
 |_=>[]
where
 parts:List (Nat×Operand)->List Operand
  |[]=>[]
  |(_,x)::r=>x::parts r
 opt:Option Operand->List Operand
  |some x=>[x]
  |none=>[]
attribute [go_sem] sV.parts sV.opt
@[go_sem] def OX (l:List Prop):Option qY->Option qY
 |some e=>some ⟨r7 l e.side,e.slot,e.upd,e.rds⟩
 |none=>none
@[go_sem] def RC (G:Bool):List Prop->List Prop
 |[]=>[]
 |p::r=>(G=true->p)::RC G r
@[go_sem] def JN (G:Bool) (l:List Prop):Option qY->Option qY
 |some ⟨side,(d,_),[],rds⟩=>some ⟨r7 l (RC G side),(.cond G d,none),[],rds⟩
 |some ⟨side,s,u::us,rds⟩=>some ⟨(G=true)::r7 l (RC G side),s,u::us,rds⟩
 |none=>none
@[go_sem] def CU (env:List (Nat×qK)):List Operand->List qK
 |[]=>[]
 |x::r=>u7 env x::CU env r
@[go_sem] def OY (T:sW) (Γ:tH) (o:Oper) (s:St):Option Bool->Op->Option qY
 |some G,.pick c a b=>JN G (zR G [u7 s.env c]) (RB (uB (u7 s.env c)) (u7 s.env a) (u7 s.env b))
 |some G,op=>JN G (zR G (CU s.env (sV op))) (uN T Γ o.type (fun x=>uB (u7 s.env x)) s.nb s.H op)
 |none,_=>none
@[go_sem] def Kv:Op->Bool
 | .defer _=>true
 |_=>false
@[go_sem] def Kw (up:Bool):Bool->Option qY
 |true=>none
 |false=>some ⟨[up=false],(.cond false .any,none),[],[]⟩
@[go_sem] def RD (T:sW) (Γ:tH) (o:Oper) (s:St) (up:Bool) (g:Option Bool) (op:Op):Option rH->Option qY
 |some _=>Kw up (Kv op)
 |none=>OY T Γ o s g op
@[go_sem] def OZ (T:sW) (Γ:tH) (o:Oper) (s:St):Op->Option qY
 | .pick c a b=>RB (u7 s.env c) (u7 s.env a) (u7 s.env b)
 |op=>OX (zR true (CU s.env (sV op))) (uN T Γ o.type (fun x=>uB (u7 s.env x)) s.nb s.H op)
@[go_sem] def JO (np:Nat):List (Nat×qJ)->Bool
 |[]=>true
 |(i,.cells _ _ _)::r=>if np<=i then JO np r else false
 |_::r=>JO np r
@[go_sem] def Kx (np:Nat) (e:qY):Bool->Option qY
 |true=>if JO np e.upd=true then some e else none
 |false=>some e
@[go_sem] def ft (np:Nat):Option qY->Option qY
 |some e=>Kx np e (JG e.rds)
 |none=>none
@[go_sem] def P0 (T:sW) (Γ:tH) (ops:List Oper) (o:Oper) (s:St):Option qY:=
 match o.guard with
 |none=>OZ T Γ o s o.op
 |some (j,b)=>RD T Γ o s (M6 s.env b (AQ ops j)) (HP s.env b (AQ ops j)) o.op (Γ (WG j b))
@[go_sem] def AG (T:sW) (Γ:tH) (ops:List Oper) (o:Oper) (s:St):Option qY:=ft s.np (P0 T Γ ops o s)
@[go_sem] def uH:Option Tmp->qK->List (Nat×qK)->List (Nat×qK)
 |some d,s,env=>(d,s)::env
 |none,_,env=>env
structure wB where
 s:St
 side:List Prop
 es:List qY
@[go_sem] def JP (N:Nat):Option Tmp->Bool
 |some d=>decide (d<N)
 |none=>true
@[go_sem] def JQ (n:Nat):List (Nat×qJ)->Bool
 |[]=>true
 |(i,_)::r=>decide (i<n)&&JQ n r
@[go_sem] def CV (i:Nat):pZ->Bool
 |[]=>false
 |j::r=>if j=i then AP i r else CV i r
@[go_sem] def M7 (H U:List (Nat×qJ)) (rds:pZ):List (Nat×qJ)->List Prop
 |[]=>[]
 |(i,_)::r=>if CV i rds=true then(qO U i=qO H i)::M7 H U rds r else M7 H U rds r
@[go_sem] def JR (rds:pZ):List (Nat×qJ)->List (Nat×qJ)
 |[]=>[]
 |(i,b)::r=>if CV i rds=true then JR rds r else(i,b)::JR rds r
@[go_sem] def yG (e:qY):List (Nat×qJ):=JR e.rds e.upd
@[go_sem] def WH (o:Oper) (a:wB):Option qY->Option wB
 |some e=>if (JP a.s.N o.dst&&JQ (a.s.nb+32) e.upd)=true then some ⟨⟨uH o.dst e.slot a.s.env,r7 e.upd a.s.H,a.s.nb+32,a.s.N,a.s.np⟩,r7 a.side (r7 (M7 a.s.H e.upd e.rds e.upd) e.side),e::a.es⟩ else none
 |none=>none
@[go_sem] def vA (T:sW) (Γ:tH) (ops:List Oper):List Oper->Option wB->Option wB
 |[],a=>a
 |o::r,some a=>vA T Γ ops r (WH o a (AG T Γ ops o a.s))
 |_::_,none=>none
@[go_sem] def RE:List (Nat×qJ)->pZ->Bool
 |[],_=>false
 |(i,_)::r,l=>l.contains i||RE r l
@[go_sem] def HR (a b:qY):Bool:= !RE (yG a) (r7 b.rds (qQ b.upd))&& !RE (yG b) a.rds
def M8 (lo:Nat):List (Nat×qJ)->Bool
 |[]=>true
 |(i,_)::r=>(decide (i<lo)||decide (lo+32<=i))&&M8 lo r
def WI (i0 j0:Nat) (ops:Array Oper) (bs:pZ) (nb i:Nat) (o:Oper) (e:qY):List Oper->List qY->Nat->Bool
 |p::ps,f::fs,j=>((bs.getD j 0).testBit i||(o.apart ops p&&(HR e f||(decide (i=i0)&&decide (j=j0)))&&M8 (nb+32*i) f.upd))&&WI i0 j0 ops bs nb i o e ps fs (j+1)
 |_,_,_=>true
def WJ (i0 j0:Nat) (ops:Array Oper) (bs:pZ) (nb:Nat):List Oper->List qY->Nat->Bool
 |o::os,e::es,i=>WI i0 j0 ops bs nb i o e os es (i+1)&&WJ i0 j0 ops bs nb os es (i+1)
 |_,_,_=>true
def WK:List Oper->Nat->Bool
 |[],_=>true
 |o::r,i=>o.after.toList.all (fun e=> !Region.binds .any e||decide (e.on<i))&&WK r (i+1)
def WL (i0 j0:Nat) (ops:Array Oper) (nb:Nat) (es:List qY):Bool:=WK ops.toList 0&&WJ i0 j0 ops (Region.before ops).toList nb ops.toList es 0
def M9 (ops:Array Oper) (nb:Nat) (es:List qY):Bool:=WL ops.size 0 ops nb es
@[go_sem] def Ky (ops:Array Oper) (nb:Nat):Option wB->Option wB
 |some a=>if M9 ops nb a.es.reverse then some a else none
 |none=>none
@[go_sem] def RF (T:sW) (Γ:tH) (ops:Array Oper) (s:St):Bool->Option wB
 |true=>Ky ops s.nb (vA T Γ ops.toList ops.toList (some ⟨s,[],[]⟩))
 |false=>vA T Γ ops.toList ops.toList (some ⟨s,[],[]⟩)
inductive Ex where
 |normal|exit (id:Nat) |ret
structure wG where
 slots:pZ
 ids:pU:=[]
@[go_sem] def wH:pU->Nat->pY
 |[],_=>none
 |(n,o)::r,k=>if o=k then some n else wH r k
@[go_sem] def Kz (m:pU):pX->pX
 |some (i,o)=>(wH m i).map fun j=>(j,o)
 |none=>none
@[go_sem] def CW (m:pU):pU->Option pU
 |[]=>some []
 |(i,o)::r=>renCons (wH m i) o (CW m r)
where
 renCons:pY->Nat->Option pU->Option pU
  |some j,o,some r=>some ((j,o)::r)
  |_,_,_=>none
attribute [go_sem] CW.renCons
@[go_sem] def La (m:pU):pY->pY
 |some k=>wH m k
 |none=>none
@[go_sem] def a36 (n:Nat):pY->qK
 |some k=>(.own k n,none)
 |none=>(.any,none)
@[go_sem] def Lb (m:pU):Option (Nat×pU)->Option (Option (Nat×pU))
 |none=>some none
 |some (f,l)=>(CW m l).map fun l'=>some (f,l')
@[go_sem] def WM (m:pU):pX->Option pX
 |none=>some none
 |some (i,o)=>(wH m i).map fun j=>some (j,o)
@[go_sem] def Lc (m:pU):pY->Option pY
 |none=>some none
 |some i=>(wH m i).map some
@[go_sem] def Ld (m:pU):pX->Option pX
 |none=>some none
 |some (k,n)=>(wH m k).map fun j=>some (j,n)
@[go_sem] def fu (c n3 n4:Nat):pY->pY->pY->Option (Nat×Nat×(Nat×Nat)×(Nat×Nat))
 |some i,some k3,some k4=>some (c,i,(k3,n3),(k4,n4))
 |_,_,_=>none
@[go_sem] def Lf (m:pU):Nat×Nat×(Nat×Nat)×(Nat×Nat)->Option (Nat×Nat×(Nat×Nat)×(Nat×Nat))
 |(c,i,(k3,n3),(k4,n4))=>fu c n3 n4 (wH m i) (wH m k3) (wH m k4)
@[go_sem] def zS (m:pU):(t:Ty)->t.den->Option t.den
 | .ref,x=>WM m x
 | .clo,x=>Lb m x
 | .mp,x=>Lc m x
 | .pair a b,x=>G0 (if a.pure=true then some x.1 else zS m a x.1) (if b.pure=true then some x.2 else zS m b x.2)
 | .list t,x=>if t.pure=true then some x else none
 | .bool,x=>some x
 | .int _,x=>some x
 | .str,x=>some x
 | .unit,x=>some x
 | .rl _ _,x=>Ld m x
 | .fn,x=>some x
 | .mref,x=>WM m x
 | .ap,x=>Lf m x
@[go_sem] def AR (m:pU):qK->qK
 |(.own k n,_)=>a36 n (wH m k)
 |(.val .ref none,_)=>(.val .ref none,none)
 |(.val .ref (some p),_)=>refSlot (Kz m (some p))
 |(.val .clo (some (f,l)),_)=>cloSlot f (CW m l)
 |(.val .mp (some i),_)=>mpSlot (wH m i)
 |(.val t x,k)=>if t.pure then(.val t x,La m (FY t k)) else valSlot t (zS m t x)
 |(.at t x,_)=>if t.pure then(.at t x,none) else(.any,none)
 |(.nilS,_)=>(.nilS,none)
 |_=>(.any,none)
where
 refSlot:pX->qK
  |some p=>(.val .ref (some p),none)
  |none=>(.any,none)
 cloSlot (f:Nat):Option pU->qK
  |some l=>(.val .clo (some (f,l)),none)
  |none=>(.any,none)
 valSlot (t:Ty):Option t.den->qK
  |some y=>(.val t y,none)
  |none=>(.any,none)
 mpSlot:pY->qK
  |some j=>(.val .mp (some j),none)
  |none=>(.any,none)
attribute [go_sem] AR.refSlot AR.cloSlot AR.mpSlot AR.valSlot
@[go_sem] def WN (q j:Nat):pU->pU
 |[]=>[(q,j)]
 |(a,b)::r=>if q<=a then(q,j)::(a,b)::r else(a,b)::WN q j r
@[go_sem] def MA (m:pU):pU->pU
 |[]=>[]
 |(q,k)::r=>renTok1 q (wH m k) (MA m r)
where
 renTok1 (q:Nat):pY->pU->pU
  |some j,r=>WN q j r
  |none,r=>r
attribute [go_sem] MA.renTok1
@[go_sem] def fv (t:Ty) (toks:pU):Option t.den->qJ
 |some y=> .cells t y toks
 |none=> .dead
def zT (m:pU):Option qJ->qJ
 |some (.cells t x toks)=>if t.pure then .cells t x (MA m toks) else fv t (MA m toks) (zS m t x)
 |some (.grow e c n)=> .grow e c n
 |some (.row e t l n)=>if t.pure then .row e t l n else .dead
 |some (.map k v l)=>if k.pure&&v.pure then .map k v l else .dead
 |some (.iter s p)=> .iter s p
 |_=> .dead
attribute [go_sem] zT.eq_1 zT.eq_2 zT.eq_3 zT.eq_4 zT.eq_5 zT.eq_6
@[go_sem] def RG (m:pU) (env:List (Nat×qK)):pZ->List (Nat×qK)
 |[]=>[]
 |t::r=>(t,AR m (lk env t))::RG m env r
@[go_sem] def WO (m:pU) (H:List (Nat×qJ)):pU->List (Nat×qJ)
 |[]=>[]
 |(n,o)::r=>(n,zT m (qO H o))::WO m H r
@[go_sem] def WP:pU->Nat
 |[]=>0
 |(n,_)::r=>max (n+1) (WP r)
@[go_sem] def P1 (n o:Nat):pU->Bool
 |[]=>false
 |(n',o')::r=>decide (n'=n)||decide (o'=o)||P1 n o r
@[go_sem] def xE (np:Nat):pU->Bool
 |[]=>true
 |(n,o)::r=>(decide (np<=n)||decide (n=o))&& !P1 n o r&&xE np r
@[go_sem] def RH (s:St) (k:wG):Bool->St
 |true=>⟨RG k.ids s.env k.slots,WO k.ids s.H k.ids,max s.np (WP k.ids),s.N,s.np⟩
 |false=>⟨[],[],s.nb,s.N,s.np⟩
@[go_sem] def St.keep (s:St) (k:wG):St:=RH s k (xE s.np k.ids)
@[go_sem] def rJ:List Prop->Prop
 |[]=>True
 |[p]=>p
 |p::q::r=>p/\rJ (q::r)
@[go_sem] def Lg (Q:Ex->St->Prop):Option wB->Prop
 |some a=>rJ a.side/\Q .normal a.s
 |none=>False
@[go_sem] def Lh (A B:Prop):qK->Prop
 |(.val .bool x,_)=>(x=true->A)/\(x=false->B)
 |(.flag p q,_)=>(p->A)/\(q->B)
 |_=>False
@[go_sem] def RI (f:St->Prop) (Q:Ex->St->Prop):Ex->St->Prop
 | .normal,s=>f s
 | .exit j,s=>Q (.exit j) s
 | .ret,s=>Q .ret s
@[go_sem] def MB (id:Nat) (Q:Ex->St->Prop):Ex->St->Prop
 | .normal,s=>Q .normal s
 | .exit j,s=>if j=id then Q .normal s else Q (.exit j) s
 | .ret,s=>Q .ret s
@[go_sem] def a38 (I:St->Prop) (μ:St->Nat) (m:Nat) (Q:Ex->St->Prop):Ex->St->Prop
 | .normal,s=> ∃k:wG,I (s.keep k)/\μ (s.keep k)<m
 | .exit j,s=>Q (.exit j) s
 | .ret,s=>Q .ret s
def wS (T:sW) (Γ:tH):Code->St->(Ex->St->Prop)->Prop
 | .skip,s,Q=>Q .normal s
 | .label _,s,Q=>Q .normal s
 | .region _ ops draw,s,Q=>Lg Q (RF T Γ ops s draw)
 | .seq a b,s,Q=>wS T Γ a s (RI (fun s'=>wS T Γ b s' Q) Q)
 | .cond c a b,s,Q=>Lh (wS T Γ a s Q) (wS T Γ b s Q) (u7 s.env c)
 | .block id c,s,Q=>wS T Γ c s (MB id Q)
 | .loop c,s,Q=> ∃(k:wG) (I:St->Prop) (μ:St->Nat),I (s.keep k)/\∀s,I s->wS T Γ c s (a38 I μ (μ s) Q)
 | .exit id,s,Q=>Q (.exit id) s
 | .ret,s,Q=>Q .ret s
 |_,_,_=>False
attribute [go_sem] Ty.list.injEq Ty.pair.injEq Ty.int.injEq
section
variable {T:sW}{Γ:tH}{s:St}{Q:Ex->St->Prop}
theorem a4a {id:Nat}{ops:Array Oper}{a:wB}(h:vA T Γ ops.toList ops.toList (some ⟨s,[],[]⟩)=some a) (hp:rJ a.side) (hq:Q .normal a.s):wS T Γ (.region id ops false) s Q:=by
 unfold wS RF;rw[h];exact⟨hp,hq⟩
theorem a4b {id:Nat}{ops:Array Oper}{a:wB}(h:vA T Γ ops.toList ops.toList (some ⟨s,[],[]⟩)=some a) (hf:M9 ops s.nb a.es.reverse=true) (hp:rJ a.side) (hq:Q .normal a.s):wS T Γ (.region id ops true) s Q:=by
 unfold wS RF;rw[h];show Lg Q (if M9 ops s.nb a.es.reverse=true then some a else none);rw[aFz hf];exact⟨hp,hq⟩
end
end Go.Proofs.YtcpbaddnmpeipaaGreatDoor.Vc
namespace Go.Proofs.YtcpbaddnmpeipaaGreatDoor.Vc
open Go.RowKit
abbrev sF:=List (Nat×qJ)
structure Pl where
 b:Nat
 o:Nat
 k:Option (TypeId×Nat):=none
structure Gh where
 S:Nat->Nat->Prop
 J:Nat->Option Pl
 cur:Nat->Nat->Option q9
def yY {α:Type}(R:α->pW->Prop) (w:q8) (S:Nat->Nat->Prop) (c b:Nat):Nat->List α->Prop
 |_,[]=>True
 |o,x::xs=>(∃cs,cs.length=c/\w.rangeAt b o cs/\(∀j,j<c->S b (o+j))/\R x cs)/\yY R w S c b (o+c) xs
def yZ (g:Gh):pU->pW->Prop
 |[],vs=>vs=[]
 |(i,o)::l,vs=> ∃p vs',g.J i=some p/\vs= .pointer (some ⟨p.1,p.2+o,none⟩)::vs'/\yZ g l vs'
def RJ (g:Gh):pX->pW->Prop
 |none,cs=>cs=[.pointer none]
 |some (i,o),cs=> ∃p,g.J i=some p/\cs=[.pointer (some ⟨p.1,p.2+o,none⟩)]
def JS (g:Gh):Option (Nat×pU)->pW->Prop
 |none,cs=>cs=[.nilFunc]
 |some (f,l),cs=> ∃vs,yZ g l vs/\cs=[.func (.func f) #[] vs.toArray]
def MC (g:Gh):pY->pW->Prop
 |none,cs=>cs=[.map none]
 |some i,cs=> ∃p,g.J i=some p/\cs=[.map (some p.1)]
def fw (k:Option (TypeId×Nat)) (o:Nat):Prop:=o=0/\∃e,cr e=true/\k=some (e,2)
def C9 (g:Gh):pX->pW->Prop
 |none,cs=>cs=[.slice none 0 0]
 |some (k,n),cs=> ∃v,g.cur k n=some v/\cs=[v]/\((v= .slice none 0 0/\n=0)\/∃b cap,v= .slice (some ⟨b,0,none⟩) n cap/\n<=cap)
def RK (g:Gh):pX->pW->Prop
 |none,cs=>cs=[.pointer none]
 |some (i,o),cs=> ∃p,g.J i=some p/\fw p.3 (p.2+o)/\(cs=[.pointer none]\/cs=[.pointer (some ⟨p.1,p.2+o,none⟩)])
def G8 (g:Gh) (w:q8):Nat×Nat×(Nat×Nat)×(Nat×Nat)->pW->Prop
 |(c,i,(k3,n3),(k4,n4)),cs=>(c=0/\cs=[.nilFunc])\/(c≠0/\∃b α,cs=[.func (.func JD) #[] #[.pointer (some ⟨b,0,none⟩)]]/\g.S b 0/\w.cell? ⟨b,0,none⟩=some (.pointer (some α))/\
   (c=1->∃p,g.J i=some p/\α=⟨p.1,p.2+a3N,none⟩)/\(c=2->∃p,g.J i=some p/\α=⟨p.1,p.2+a3O,none⟩)/\
   (c=3->∃bb cap,g.cur k3 n3=some (.slice (some ⟨bb,0,none⟩) n3 cap)/\0<n3/\α=⟨bb,n3-1,none⟩)/\
   (4<=c->∃bb cap,g.cur k4 n4=some (.slice (some ⟨bb,0,none⟩) n4 cap)/\0<n4/\α=⟨bb,(n4-1)*2+1,none⟩))
def WQ:pY->pW->Prop
 |none,cs=>cs=[.nilFunc]
 |some f,cs=>cs=[.func (.func f) #[] #[]]
def Rd (g:Gh) (w:q8):(t:Ty)->t.den->pW->Prop
 | .bool,x,cs=>cs=[.bool x]
 | .int k,n,cs=>cs=[.int k n]
 | .str,l,cs=>cs=[.string ⟨List.toArray l⟩]
 | .list t,l,cs=> ∃a cap,cs=[.slice a (List.length l) cap]/\List.length l<=cap/\(l=[]\/∃b o,a=some ⟨b,o,none⟩/\yY (Rd g w t) w g.S t.cells b o l)
 | .unit,_,cs=>cs=[]
 | .pair s t,x,cs=> ∃c1 c2,cs=c1++c2/\Rd g w s x.1 c1/\Rd g w t x.2 c2
 | .ref,x,cs=>RJ g x cs
 | .clo,x,cs=>JS g x cs
 | .mp,x,cs=>MC g x cs
 | .rl _ _,x,cs=>C9 g x cs
 | .fn,x,cs=>WQ x cs
 | .mref,x,cs=>RK g x cs
 | .ap,x,cs=>G8 g w x cs
def tD (g:Gh) (w:q8) (t:Ty) (x:t.den) (v:q9):Prop:=
 (t.isRow=true/\∃cs:pW,v= .agg cs.toArray/\Rd g w t x cs)\/(t.isRow=false/\Rd g w t x [v])
def yH (k:Nat):Ty->Nat->pW->Prop
 | .list _,o,cs=>o+1=k\/cs=[.slice none 0 0]
 | .pair a b,o,cs=> ∃c1 c2,cs=c1++c2/\c1.length=a.cells/\yH k a o c1/\yH k b (o+a.cells) c2
 |_,_,_=>True
def DW (g:Gh) (t:Ty) (x:t.den) (v:q9):pY->Prop
 |none=>True
 |some k=>match t,x with
  | .list _,l=>g.cur k (List.length l)=some v
  | .pair a b,_=>yH k (.pair a b) 0 v.cells.toList
  |_,_=>False
def JT (g:Gh) (w:q8):List ((Σ t:Ty,t.den)×pY)->pW->Prop
 |[],vs=>vs=[]
 |(⟨t,x⟩,k)::l,vs=> ∃v vs',vs=v::vs'/\tD g w t x v/\DW g t x v k/\JT g w l vs'
def zJ (g:Gh) (w:q8):DV->q9->Prop
 | .any,_=>True
 | .nilS,v=>v= .slice none 0 0
 | .val t x,v=>tD g w t x v
 | .at t x,v=> ∃b o cs,v= .pointer (some ⟨b,o,none⟩)/\w.rangeAt b o cs/\(∀j,j<t.cells->g.S b (o+j))/\Rd g w t x cs
 | .tup l,v=> ∃vs:pW,v= .tuple vs.toArray/\JT g w l vs
 | .cond p d,v=>(p=true->zJ g w d v)/\(p=false->v=undef)
 | .flag p q,v=> ∃b,v= .bool b/\(b=true->p)/\(b=false->q)
 | .own k n,v=>g.cur k n=some v/\((v= .slice none 0 0/\n=0)\/∃b cap,v= .slice (some ⟨b,0,none⟩) n cap/\n<=cap)
 | .nxt b p c,v=>(b=true->v= .tuple #[.bool true,.int .i64 p,.int .i32 c])/\(b=false->v= .tuple #[.bool false])
 | .elt k n c i o,v=> ∃b cap,g.cur k n=some (.slice (some ⟨b,0,none⟩) n cap)/\0<=i/\i<(n:Int)/\v= .pointer (some ⟨b,i.toNat*c+o,none⟩)
 | .apd d,v=> ∃b u,v= .func (.func JD) #[] #[.pointer (some ⟨b,0,none⟩)]/\g.S b 0/\w.cell? ⟨b,0,none⟩=some u/\zJ g w d u
def rS (g:Gh) (w:q8) (s:qK) (v:q9):Prop:=
 zJ g w s.1 v/\match s with
  |(_,none)=>True
  |(.val t x,some k)=>DW g t x v (some k)
  |(_,some _)=>False
structure Le (g:Gh) (w:q8) (g':Gh) (w':q8):Prop where
 S: ∀b o,g.S b o->g'.S b o
 cell: ∀b o,g.S b o->w'.cell? ⟨b,o,none⟩=w.cell? ⟨b,o,none⟩
 J: ∀i p,g.J i=some p->g'.J i=some p
 cur: ∀k n v,g.cur k n=some v->g'.cur k n=some v
def Le.refl (g:Gh) (w:q8):Le g w g w:=⟨fun _ _ h=>h,fun _ _ _=>rfl,fun _ _ h=>h,fun _ _ _ h=>h⟩
def Le.trans {g g' g'':Gh}{w w' w'':q8}(h:Le g w g' w') (k:Le g' w' g'' w''):Le g w g'' w'':=
 ⟨fun b o x=>k.S b o (h.S b o x),fun b o x=>(k.cell b o (h.S b o x)).trans (h.cell b o x),fun i p x=>k.J i p (h.J i p x),fun i n v x=>k.cur i n v (h.cur i n v x)⟩
def fy {g g':Gh}(j: ∀i p,g.J i=some p->g'.J i=some p): ∀{l:pU}{vs:pW},yZ g l vs->yZ g' l vs
 |[],_,h=>h
 |(_,_)::_,_,⟨p,vs',D,z,h3⟩=>⟨p,vs',j _ _ D,z,fy j h3⟩
def a4c {g g':Gh}(j: ∀i p,g.J i=some p->g'.J i=some p): ∀{x:pX}{cs:pW},RJ g x cs->RJ g' x cs
 |none,_,h=>h
 |some (_,_),_,⟨p,D,z⟩=>⟨p,j _ _ D,z⟩
def a4d {g g':Gh}(j: ∀i p,g.J i=some p->g'.J i=some p): ∀{x:Option (Nat×pU)}{cs:pW},JS g x cs->JS g' x cs
 |none,_,h=>h
 |some (_,_),_,⟨vs,D,z⟩=>⟨vs,fy j D,z⟩
def a4e {g g':Gh}(j: ∀i p,g.J i=some p->g'.J i=some p): ∀{x:pY}{cs:pW},MC g x cs->MC g' x cs
 |none,_,h=>h
 |some _,_,⟨p,D,z⟩=>⟨p,j _ _ D,z⟩
def a4f {g g':Gh}(j: ∀k n v,g.cur k n=some v->g'.cur k n=some v): ∀{x:pX}{cs:pW},C9 g x cs->C9 g' x cs
 |none,_,h=>h
 |some (_,_),_,⟨v,D,z⟩=>⟨v,j _ _ _ D,z⟩
def a4g {g g':Gh}(j: ∀i p,g.J i=some p->g'.J i=some p): ∀{x:pX}{cs:pW},RK g x cs->RK g' x cs
 |none,_,h=>h
 |some (_,_),_,⟨p,D,z⟩=>⟨p,j _ _ D,z⟩
def a4h {g g':Gh}{w w':q8}(h:Le g w g' w'): ∀{x:Nat×Nat×(Nat×Nat)×(Nat×Nat)}{cs:pW},G8 g w x cs->G8 g' w' x cs
 |(_,_,(_,_),(_,_)),_,.inl r=> .inl r
 |(_,_,(_,_),(_,_)),_,.inr ⟨h0,b,α,e,j,z,E,D,h3,h4⟩=> .inr ⟨h0,b,α,e,h.S _ _ j,(h.cell _ _ j).trans z,fun q=>let ⟨p,a1,a2⟩:=E q;⟨p,h.J _ _ a1,a2⟩,fun q=>let ⟨p,a1,a2⟩:=D q;⟨p,h.J _ _ a1,a2⟩,fun q=>let ⟨bb,cap,a1,a2⟩:=h3 q;⟨bb,cap,h.cur _ _ _ a1,a2⟩,fun q=>let ⟨bb,cap,a1,a2⟩:=h4 q;⟨bb,cap,h.cur _ _ _ a1,a2⟩⟩
def fz {α:Type}{R R':α->pW->Prop}{w w':q8}{S S':Nat->Nat->Prop}{c b:Nat}(F: ∀x cs,R x cs->R' x cs) (E: ∀o,S b o->S' b o)
  (D: ∀o,S b o->w'.cell? ⟨b,o,none⟩=w.cell? ⟨b,o,none⟩): ∀{l:List α}{o:Nat},yY R w S c b o l->yY R' w' S' c b o l
 |[],_,_=>trivial
 |_::_,o,⟨⟨cs,G,K,h3,h4⟩,I⟩=>⟨⟨cs,G,fun j v z=>by
   have h:j<c:=G▸(aFP.1 z).1;rw[D _ (h3 j h)];exact K j v z,fun j h=>E _ (h3 j h),F _ _ h4⟩,fz F E D I⟩
def wT {g g':Gh}{w w':q8}(h:Le g w g' w'): ∀{t:Ty}{x:t.den}{cs:pW},Rd g w t x cs->Rd g' w' t x cs
 | .bool,_,_,r=>r
 | .int _,_,_,r=>r
 | .str,_,_,r=>r
 | .unit,_,_,r=>r
 | .ref,_,_,r=>a4c h.J r
 | .clo,_,_,r=>a4d h.J r
 | .mp,_,_,r=>a4e h.J r
 | .rl _ _,_,_,r=>a4f h.cur r
 | .fn,_,_,r=>r
 | .mref,_,_,r=>a4g h.J r
 | .ap,_,_,r=>a4h h r
 | .pair _ _,_,_,⟨c1,c2,e,r1,r2⟩=>⟨c1,c2,e,wT h r1,wT h r2⟩
 | .list _,_,_,⟨a,cap,e,j,hl⟩=>⟨a,cap,e,j,hl.imp id fun⟨b,o,ea,hr⟩=>⟨b,o,ea,fz (fun _ _=>wT h) (fun _=>h.S _ _) (fun _=>h.cell _ _) hr⟩⟩
def sZ {g:Gh}{w:q8}: ∀{t:Ty}{x:t.den}{cs:pW},Rd g w t x cs->cs.length=t.cells
 | .bool,_,_,r=>by cases r;rfl
 | .int _,_,_,r=>by cases r;rfl
 | .str,_,_,r=>by cases r;rfl
 | .unit,_,_,r=>by cases r;rfl
 | .ref,none,_,r=>by cases r;rfl
 | .ref,some (_,_),_,⟨_,_,e⟩=>by cases e;rfl
 | .clo,none,_,r=>by cases r;rfl
 | .clo,some (_,_),_,⟨_,_,e⟩=>by cases e;rfl
 | .mp,none,_,r=>by cases r;rfl
 | .mp,some _,_,⟨_,_,e⟩=>by cases e;rfl
 | .fn,none,_,r=>by cases r;rfl
 | .fn,some _,_,r=>by cases r;rfl
 | .rl _ _,none,_,r=>by cases r;rfl
 | .rl _ _,some (_,_),_,⟨_,_,e,_⟩=>by cases e;rfl
 | .mref,none,_,r=>by cases r;rfl
 | .mref,some (_,_),_,⟨_,_,_,e⟩=>by rcases e with e|e<;>(cases e;rfl)
 | .ap,(_,_,(_,_),(_,_)),_,.inl ⟨_,e⟩=>by cases e;rfl
 | .ap,(_,_,(_,_),(_,_)),_,.inr ⟨_,_,_,e,_⟩=>by cases e;rfl
 | .pair _ _,_,_,⟨c1,c2,e,r1,r2⟩=>by rw[e,aFD,sZ r1,sZ r2];rfl
 | .list _,_,_,⟨_,_,e,_,_⟩=>by cases e;rfl
def WR {g g':Gh}{w w':q8}(h:Le g w g' w') {t:Ty}{x:t.den}{v:q9}(r:tD g w t x v):tD g' w' t x v:=
 r.imp (fun⟨a,cs,e,q⟩=>⟨a,cs,e,wT h q⟩) (fun⟨a,q⟩=>⟨a,wT h q⟩)
def Li {g g':Gh}{w w':q8}(h:Le g w g' w') {t:Ty}{x:t.den}{v:q9}{k:pY}(r:DW g t x v k):DW g' t x v k:=by
 cases k with
 |none=>trivial
 |some k=>
  cases t with
  |list u=>exact h.cur _ _ _ r
  |pair a b=>exact r
  |_=>exact r.elim
def Lj {g g':Gh}{w w':q8}(h:Le g w g' w'): ∀{l:List ((Σ t:Ty,t.den)×pY)}{vs:pW},JT g w l vs->JT g' w' l vs
 |[],_,r=>r
 |(⟨_,_⟩,_)::_,_,⟨v,vs',e,r1,r2,r3⟩=>⟨v,vs',e,WR h r1,Li h r2,Lj h r3⟩
def RL {g g':Gh}{w w':q8}(h:Le g w g' w'): ∀{d:DV}{v:q9},zJ g w d v->zJ g' w' d v
 | .any,_,r=>r
 | .nilS,_,r=>r
 | .val _ _,_,r=>WR h r
 | .at t _,_,⟨b,o,cs,e,D,z,h3⟩=>⟨b,o,cs,e,fun j v F=>by
   by_cases E:j<t.cells
   .rw[h.cell _ _ (z j E)];exact D j v F
   .exact absurd (aFP.1 F).1 (by rw[sZ h3];exact E),fun j E=>h.S _ _ (z j E),wT h h3⟩
 | .tup _,_,⟨vs,e,r⟩=>⟨vs,e,Lj h r⟩
 | .cond _ _,_,⟨r1,r2⟩=>⟨fun p=>RL h (r1 p),r2⟩
 | .flag _ _,_,r=>r
 | .own _ _,_,⟨D,z⟩=>⟨h.cur _ _ _ D,z⟩
 | .nxt _ _ _,_,r=>r
 | .elt _ _ _ _ _,_,⟨b,cap,D,z⟩=>⟨b,cap,h.cur _ _ _ D,z⟩
 | .apd _,_,⟨b,u,e,G,I,r⟩=>⟨b,u,e,h.S _ _ G,(h.cell _ _ G).trans I,RL h r⟩
def DX {g g':Gh}{w w':q8}(h:Le g w g' w') {s:qK}{v:q9}(r:rS g w s v):rS g' w' s v:=by
 obtain⟨d,k⟩:=s;refine⟨RL h r.1,?_⟩;have r2:=r.2;cases k with
 |none=>trivial
 |some k=>
  cases d with
  |val t x=>exact Li h r2
  |_=>exact r2.elim
def AS {g:Gh}{w:q8}: ∀{t:Ty}{x:t.den}{cs:pW},Rd g w t x cs->∀v∈cs,v.oneCell'=true
 | .bool,_,_,r=>by cases r;intro v j;simp at j;subst j;rfl
 | .int _,_,_,r=>by cases r;intro v j;simp at j;subst j;rfl
 | .str,_,_,r=>by cases r;intro v j;simp at j;subst j;rfl
 | .unit,_,_,r=>by cases r;intro v j;simp at j
 | .ref,none,_,r=>by cases r;intro v j;simp at j;subst j;rfl
 | .ref,some (_,_),_,⟨_,_,e⟩=>by cases e;intro v j;simp at j;subst j;rfl
 | .clo,none,_,r=>by cases r;intro v j;simp at j;subst j;rfl
 | .clo,some (_,_),_,⟨_,_,e⟩=>by cases e;intro v j;simp at j;subst j;rfl
 | .mp,none,_,r=>by cases r;intro v j;simp at j;subst j;rfl
 | .mp,some _,_,⟨_,_,e⟩=>by cases e;intro v j;simp at j;subst j;rfl
 | .fn,none,_,r=>by cases r;intro v j;simp at j;subst j;rfl
 | .fn,some _,_,r=>by cases r;intro v j;simp at j;subst j;rfl
 | .rl _ _,none,_,r=>by cases r;intro v j;simp at j;subst j;rfl
 | .rl _ _,some (_,_),_,⟨_,_,e,z⟩=>by
  cases e;intro v j;simp at j;subst j;rcases z with⟨rfl,_⟩ |⟨_,_,rfl,_⟩<;>rfl
 | .mref,none,_,r=>by cases r;intro v j;simp at j;subst j;rfl
 | .mref,some (_,_),_,⟨_,_,_,e⟩=>by rcases e with e|e<;>(cases e;intro v j;simp at j;subst j;rfl)
 | .ap,(_,_,(_,_),(_,_)),_,.inl ⟨_,e⟩=>by cases e;intro v j;simp at j;subst j;rfl
 | .ap,(_,_,(_,_),(_,_)),_,.inr ⟨_,_,_,e,_⟩=>by cases e;intro v j;simp at j;subst j;rfl
 | .pair _ _,_,_,⟨c1,c2,e,r1,r2⟩=>by
  subst e;intro v j;rcases aGl.1 j with h|h
  .exact AS r1 v h
  .exact AS r2 v h
 | .list _,_,_,⟨_,_,e,_,_⟩=>by cases e;intro v j;simp at j;subst j;rfl
def wC {g g':Gh}{w:q8}(j:g'.S=g.S): ∀{t:Ty}{x:t.den}{cs:pW},t.pure=true->Rd g w t x cs->Rd g' w t x cs
 | .bool,_,_,_,r=>r
 | .int _,_,_,_,r=>r
 | .str,_,_,_,r=>r
 | .unit,_,_,_,r=>r
 | .ref,_,_,h,_=>by simp [Ty.pure] at h
 | .clo,_,_,h,_=>by simp [Ty.pure] at h
 | .mp,_,_,h,_=>by simp [Ty.pure] at h
 | .rl _ _,_,_,h,_=>by simp [Ty.pure] at h
 | .fn,_,_,_,r=>r
 | .mref,_,_,h,_=>by simp [Ty.pure] at h
 | .ap,_,_,h,_=>by simp [Ty.pure] at h
 | .pair _ _,_,_,h,⟨c1,c2,e,r1,r2⟩=>by
  simp only[Ty.pure,aFL] at h;exact⟨c1,c2,e,wC j h.1 r1,wC j h.2 r2⟩
 | .list _,_,_,h,⟨a,cap,e,z,hl⟩=>by
  simp only[Ty.pure] at h;exact⟨a,cap,e,z,hl.imp id fun⟨b,o,ea,hr⟩=>⟨b,o,ea,fz (fun _ _ r=>wC j h r) (fun _ q=>by rw[j];exact q) (fun _ _=>rfl) hr⟩⟩
def EP (g:Gh) (w:q8) (k v:Ty):List (k.den×v.den)->List MapEntry->Prop
 |[],es=>es=[]
 |(a,b)::l,es=> ∃e es',es=e::es'/\tD g w k a e.key/\tD g w v b e.val/\EP g w k v l es'
def ga {g g':Gh}{w w':q8}(h:Le g w g' w') {k v:Ty}: ∀{l:List (k.den×v.den)}{es:List MapEntry},EP g w k v l es->EP g' w' k v l es
 |[],_,r=>r
 |_::_,_,⟨e,es',z,j,h3,h4⟩=>⟨e,es',z,WR h j,WR h h3,ga h h4⟩
def Lk {g g':Gh}{w:q8}(h:g'.S=g.S) {t:Ty}{x:t.den}{v:q9}(hp:t.pure=true) (r:tD g w t x v):tD g' w t x v:=
 r.imp (fun⟨a,cs,e,q⟩=>⟨a,cs,e,wC h hp q⟩) (fun⟨a,q⟩=>⟨a,wC h hp q⟩)
def RM {g g':Gh}{w:q8}(h:g'.S=g.S) {k v:Ty}(z:k.pure=true) (j:v.pure=true): ∀{l:List (k.den×v.den)}{es:List MapEntry},EP g w k v l es->EP g' w k v l es
 |[],_,r=>r
 |_::_,_,⟨e,es',E,D,h3,h4⟩=>⟨e,es',E,Lk h z D,Lk h j h3,RM h z j h4⟩
def uD {α:Type}(R:α->pW->Prop) (c:Nat):List α->pW->Prop
 |[],cs=>cs=[]
 |x::xs,cs=> ∃c1 c2,cs=c1++c2/\c1.length=c/\R x c1/\uD R c xs c2
def MD {α:Type}{R:α->pW->Prop}{c:Nat}: ∀{l:List α}{cs:pW},uD R c l cs->cs.length=l.length*c
 |[],_,h=>by rw[h];simp
 |_::l,_,⟨c1,c2,e,j,_,h3⟩=>by rw[e,aFD,j,MD h3,aFF,aGO];omega
def gc {α:Type}{R:α->pW->Prop}{c:Nat}: ∀{l m:List α}{cs ds:pW},uD R c l cs->uD R c m ds->uD R c (l++m) (cs++ds)
 |[],_,_,_,h,k=>by rw[h];exact k
 |_::_,_,_,_,⟨c1,c2,e,z,j,h3⟩,k=>⟨c1,c2++_,by rw[e,aFO],z,j,gc h3 k⟩
def CX {α:Type}{R R':α->pW->Prop}{c:Nat}(j: ∀x cs,R x cs->R' x cs): ∀{l:List α}{cs:pW},uD R c l cs->uD R' c l cs
 |[],_,h=>h
 |_::_,_,⟨c1,c2,e,D,z,h3⟩=>⟨c1,c2,e,D,j _ _ z,CX j h3⟩
def CA {g:Gh}{w:q8}{u:Ty}: ∀{t:Ty}{x:t.den}{cs:pW}{o:Nat}{y:u.den},Rd g w t x cs->rE u t x o=some y->
  ∃c1 c2 c3,cs=c1++c2++c3/\c1.length=o/\Rd g w u y c2:=by
 intro t
 induction t with
 |pair a b iha ihb=>
  intro x cs o y r h;obtain⟨c1,c2,e,r1,r2⟩:=r;have key: ∀o,(if o<a.cells then rE u a x.1 o else rE u b x.2 (o-a.cells))=some y->∃d1 d2 d3,cs=d1++d2++d3/\d1.length=o/\Rd g w u y d2:=by
   intro o h;by_cases ho:o<a.cells
   .rw[aFz ho] at h;obtain⟨d1,d2,d3,e',hl,hr⟩:=iha r1 h;exact⟨d1,d2,d3++c2,by rw[e,e'];simp,hl,hr⟩
   rw[aFA ho] at h;obtain⟨d1,d2,d3,e',hl,hr⟩:=ihb r2 h;refine⟨c1++d1,d2,d3,by rw[e,e'];simp,?_,hr⟩;rw[aFD,hl,sZ r1];omega
  cases o with
  |zero=>
   unfold rE at h;by_cases j:Ty.pair a b=u
   .rw[aHB j] at h;subst j;simp only[uG,aFy] at h;subst h;exact⟨[],cs,[],by simp,rfl,⟨c1,c2,e,r1,r2⟩⟩
   .rw[aG3 j] at h;refine key 0 ?_;simpa using h
  |succ o=>exact key (o+1) (by simpa[rE] using h)
 |_=>
  intro x cs o y r h;cases o with
  |zero=>
   unfold rE at h;split at h
   .rename_i j;subst j;simp only[uG,aFy] at h
    try subst h
    exact⟨[],cs,[],by simp,rfl,r⟩
   .simp at h
  |succ o=>simp [rE] at h
def RN {g:Gh}{w:q8}{u:Ty}{y:u.den}{cy:pW}(E:Rd g w u y cy): ∀{t:Ty}{x z:t.den}{cs:pW}{o:Nat},Rd g w t x cs->sQ u y t x o=some z->
  ∃c1 c2 c3,cs=c1++c2++c3/\c1.length=o/\c2.length=u.cells/\Rd g w t z (c1++cy++c3):=by
 intro t
 induction t with
 |pair a b iha ihb=>
  intro x z cs o r h;obtain⟨c1,c2,e,r1,r2⟩:=r;have key: ∀o,(if o<a.cells then(sQ u y a x.1 o).map (fun q=>(q,x.2)) else(sQ u y b x.2 (o-a.cells)).map (fun q=>(x.1,q)))=some z->
    ∃d1 d2 d3,cs=d1++d2++d3/\d1.length=o/\d2.length=u.cells/\Rd g w (.pair a b) z (d1++cy++d3):=by
   intro o h;by_cases ho:o<a.cells
   .rw[aFz ho] at h;obtain⟨q,hq,rfl⟩:=aFQ.1 h;obtain⟨d1,d2,d3,e',hl,j,hr⟩:=iha r1 hq;exact⟨d1,d2,d3++c2,by rw[e,e'];simp,hl,j,⟨d1++cy++d3,c2,by simp,hr,r2⟩⟩
   rw[aFA ho] at h;obtain⟨q,hq,rfl⟩:=aFQ.1 h;obtain⟨d1,d2,d3,e',hl,j,hr⟩:=ihb r2 hq;refine⟨c1++d1,d2,d3,by rw[e,e'];simp,?_,j,⟨c1,d1++cy++d3,by simp,r1,hr⟩⟩;rw[aFD,hl,sZ r1];omega
  cases o with
  |zero=>
   unfold sQ at h;by_cases D:u=Ty.pair a b
   .rw[aHB D] at h;subst D;simp only[uG,aFy] at h;subst h;exact⟨[],cs,[],by simp,rfl,sZ (t:= .pair a b) (x:=x) ⟨c1,c2,e,r1,r2⟩,by simpa using E⟩
   .rw[aG3 D] at h;refine key 0 ?_;simpa using h
  |succ o=>exact key (o+1) (by simpa[sQ] using h)
 |_=>
  intro x z cs o r h;cases o with
  |zero=>
   unfold sQ at h;split at h
   .rename_i D;subst D;simp only[uG,aFy] at h
    try subst h
    exact⟨[],cs,[],by simp,rfl,sZ r,by simpa using E⟩
   .simp at h
  |succ o=>simp [sQ] at h
def a4i {e:Nat}{u:Ty}{kn:pX}: ∀{t:Ty}{x:t.den}{o:Nat}{q: Σ t:Ty,t.den},yX e u kn t x o=some q->q.1.cells=t.cells:=by
 intro t
 induction t with
 |pair a b iha ihb=>
  intro x o q h;unfold yX at h;split at h
  .cases hq:yX e u kn a x.1 o with
   |none=>rw[hq] at h;cases h
   |some r=>
    obtain⟨a',x'⟩:=r;rw[hq] at h;simp only[du,aFy] at h;subst h;have:=iha hq;simp only[Ty.cells] at this|-;omega
  .cases hq:yX e u kn b x.2 (o-a.cells) with
   |none=>rw[hq] at h;cases h
   |some r=>
    obtain⟨b',y'⟩:=r;rw[hq] at h;simp only[dv,aFy] at h;subst h;have:=ihb hq;simp only[Ty.cells] at this|-;omega
 |list v=>
  intro x o q h;cases o with
  |zero=>
   simp only[yX] at h;split at h
   .simp only[aFy] at h;subst h;rfl
   .cases h
  |succ o=>simp [yX] at h
 |_=>intro x o q h;cases o<;>simp [yX] at h
def a4j {g:Gh}{w:q8}{e:Nat}{u:Ty}{kn:pX}{cy:pW}(D:C9 g kn cy): ∀{t:Ty}{x:t.den}{cs:pW}{o:Nat}{q: Σ t:Ty,t.den},Rd g w t x cs->yX e u kn t x o=some q->
  ∃c1 c2 c3,cs=c1++c2++c3/\c1.length=o/\c2.length=1/\Rd g w q.1 q.2 (c1++cy++c3):=by
 intro t
 induction t with
 |pair a b iha ihb=>
  intro x cs o q r h;obtain⟨c1,c2,e1,r1,r2⟩:=r;unfold yX at h;split at h
  .cases hq:yX e u kn a x.1 o with
   |none=>rw[hq] at h;cases h
   |some z=>
    obtain⟨a',x'⟩:=z;rw[hq] at h;simp only[du,aFy] at h;subst h;obtain⟨d1,d2,d3,e',hl,j,hr⟩:=iha r1 hq;exact⟨d1,d2,d3++c2,by rw[e1,e'];simp,hl,j,⟨d1++cy++d3,c2,by simp,hr,r2⟩⟩
  .cases hq:yX e u kn b x.2 (o-a.cells) with
   |none=>rw[hq] at h;cases h
   |some z=>
    obtain⟨b',y'⟩:=z;rw[hq] at h;simp only[dv,aFy] at h;subst h;obtain⟨d1,d2,d3,e',hl,j,hr⟩:=ihb r2 hq;refine⟨c1++d1,d2,d3,by rw[e1,e'];simp,?_,j,⟨c1,d1++cy++d3,by simp,r1,hr⟩⟩;rw[aFD,hl,sZ r1];omega
 |list v=>
  intro x cs o q r h;cases o with
  |zero=>
   simp only[yX] at h;split at h
   .simp only[aFy] at h;subst h;exact⟨[],cs,[],by simp,rfl,sZ r,by rw[List.nil_append,List.append_nil];exact D⟩
   .cases h
  |succ o=>simp [yX] at h
 |_=>intro x cs o q r h;cases o<;>simp [yX] at h
def HS (g:Gh) (t:Ty) (x:t.den) (cs:pW) (toks:pU):Prop:=
 ∀o k,(o,k)∈toks->∃(u:Ty) (l:List u.den) (v:q9),rE (.list u) t x o=some l/\cs[o]? =some v/\g.cur k l.length=some v
def a4k (w:q8) (p:Pl) (n:Nat):Prop:=w.there p.1 p.2 n/\(0<n->∀s,p.3=some s->w.shape? p.1=some s)
def CB {w:q8}{b:Nat}{s:TypeId×Nat}(h:w.shape? b=some s):b<w.heap.size:=by
 unfold World.shape? at h;cases hb:w.heap[b]? with
 |none=>rw[hb] at h;cases h
 |some x=>exact(aF1.1 hb).1
def CC {w w':q8}{b:Nat}(h:w'.heap[b]? =w.heap[b]?):w'.shape? b=w.shape? b:=by
 unfold World.shape?;rw[h]
def AT (g:Gh) (w:q8) (i:Nat):qJ->Prop
 | .cells t x toks=> ∃p cs,g.J i=some p/\Rd g w t x cs/\w.rangeAt p.1 p.2 cs/\a4k w p t.cells/\(∀j,j<t.cells->¬g.S p.1 (p.2+j))/\HS g t x cs toks
 | .grow e c n=> ∃v xs,g.cur i n=some v/\w.ownsRow 0 e c v n xs/\(∀m,n<m->g.cur i m=none)/\∀b,v.ownBlock=some b->∀o,g.S b o->o<n*c
 | .row e t l n=>l.length=n/\∃v xs,g.cur i n=some v/\w.ownsRow 0 e t.cells v n xs/\uD (Rd g w t) t.cells l xs/\(∀m,n<m->g.cur i m=none)/\∀b,v.ownBlock=some b->∀o,¬g.S b o
 | .map k v l=> ∃p es clock,g.J i=some p/\p.2=0/\w.heap[p.1]? =some (.map es clock)/\EP g w k v l es.toList/\∀o,¬g.S p.1 o
 | .iter s n=> ∃p,g.J i=some p/\p.2=0/\w.heap[p.1]? =some (.stringIter ⟨s.toArray⟩ n)/\∀o,¬g.S p.1 o
 | .dead=>True
def sH (g:Gh) (i:Nat):qJ->Nat->Nat->Prop
 | .cells t _ _,b,o=> ∃p,g.J i=some p/\b=p.1/\p.2<=o/\o<p.2+t.cells
 | .grow _ _ n,b,_=> ∃v,g.cur i n=some v/\v.ownBlock=some b
 | .row _ _ _ n,b,_=> ∃v,g.cur i n=some v/\v.ownBlock=some b
 | .map _ _ _,b,_=> ∃p,g.J i=some p/\b=p.1
 | .iter _ _,b,_=> ∃p,g.J i=some p/\b=p.1
 | .dead,_,_=>False
structure sK (g:Gh) (w:q8) (H:sF):Prop where
 blk: ∀i b,qO H i=some b->AT g w i b
 dis: ∀i j bi bj b o,i≠j->qO H i=some bi->qO H j=some bj->sH g i bi b o->sH g j bj b o->False
 sl: ∀b o,g.S b o->b<w.heap.size
 tab:FX w/\∀i blk b o,qO H i=some blk->sH g i blk b o->NG<=b
def sY (g:Gh) (H:sF) (ids:pZ) (b o:Nat):Prop:= ∃i blk,i∈ids/\qO H i=some blk/\sH g i blk b o
structure Fr (A:Nat->Nat->Prop) (w w':q8) (S S':Nat->Nat->Prop):Prop where
 os:w'.os=w.os
 tape:w'.tape=w.tape
 output:w'.output=w.output
 size:w.heap.size<=w'.heap.size
 blk: ∀b,b<w.heap.size->(∀o,¬A b o)->w'.heap[b]? =w.heap[b]?
 cell: ∀b o,b<w.heap.size->¬A b o->w'.cell? ⟨b,o,none⟩=w.cell? ⟨b,o,none⟩/\w'.frozen? ⟨b,o,none⟩=w.frozen? ⟨b,o,none⟩
 new: ∀b o,S' b o->S b o\/w.heap.size<=b\/A b o
 shape: ∀b s,w.shape? b=some s->w'.shape? b=some s\/∀o,A b o
def Fr.refl (A:Nat->Nat->Prop) (w:q8) (S:Nat->Nat->Prop):Fr A w w S S:=
 ⟨rfl,rfl,rfl,aFW _,fun _ _ _=>rfl,fun _ _ _ _=>⟨rfl,rfl⟩,fun _ _ h=> .inl h,fun _ _ h=> .inl h⟩
def Fr.trans {A B:Nat->Nat->Prop}{w w' w'':q8}{S S' S'':Nat->Nat->Prop}(h:Fr A w w' S S') (k:Fr B w' w'' S' S'') (F: ∀b o,B b o->w.heap.size<=b\/A b o):Fr A w w'' S S'':=by
 refine⟨k.os.trans h.os,k.tape.trans h.tape,k.output.trans h.output,aGA h.size k.size,fun b hb D=>?_,fun b o hb D=>?_,fun b o E=>?_,fun b s E=>?_⟩
 .refine(k.blk b (aF9 hb h.size) fun o ho=>?_).trans (h.blk b hb D);rcases F b o ho with j|j
  .omega
  exact D o j
 .have j:=h.cell b o hb D;have z:=k.cell b o (aF9 hb h.size) (fun ho=>by
   rcases F b o ho with j|j
   .omega
   exact D j)
  exact⟨z.1.trans j.1,z.2.trans j.2⟩
 .rcases k.new b o E with j|j|j
  .exact h.new b o j
  .exact .inr (.inl (aGA h.size j))
  exact .inr (F b o j)
 rcases h.shape b s E with j|j
 .rcases k.shape b s j with z|z
  .exact .inl z
  refine .inr fun o=>(F b o (z o)).resolve_left ?_;have:=CB E;omega
 exact .inr j
structure rR (g:Gh) (w:q8) (H:sF) (e:qY) (g':Gh) (w':q8) (v:q9):Prop where
 le:Le g w g' w'
 slot:rS g' w' e.slot v
 heap:sK g' w' (r7 e.upd H)
 fr:Fr (sY g H (qQ e.upd)) w w' g.S g'.S
 perm: ∀i blk b o,i∈qQ e.upd->qO (r7 e.upd H) i=some blk->sH g' i blk b o->w.heap.size<=b\/sY g H (qQ e.upd) b o
 gho: ∀i,i∉qQ e.upd->g'.J i=g.J i/\g'.cur i=g.cur i
 ty: ∀i u y us,qO (r7 e.upd H) i=some (.cells u y us)->(∃x ts,qO H i=some (.cells u x ts))\/(g.J i=none/\∀n,g.cur i n=none)
structure AH (g:Gh) (w:q8) (H:sF) (e:qY) (g':Gh) (w':q8) (v:q9):Prop where
 le:Le g w g' w'
 slot:rS g' w' e.slot v
 heap:sK g' w' (r7 e.upd H)
 fr:Fr (sY g H (qQ e.upd)) w w' g.S g'.S
 perm: ∀i blk b o,i∈qQ e.upd->qO (r7 e.upd H) i=some blk->sH g' i blk b o->w.heap.size<=b\/sY g H (qQ e.upd) b o
 gho: ∀i,i∉qQ e.upd->g'.J i=g.J i/\g'.cur i=g.cur i
 ty:JG e.rds=false->∀i u y us,qO (r7 e.upd H) i=some (.cells u y us)->(∃x ts,qO H i=some (.cells u x ts))\/(g.J i=none/\∀n,g.cur i n=none)
def rR.w {g:Gh}{w:q8}{H:sF}{e:qY}{g':Gh}{w':q8}{v:q9}(h:rR g w H e g' w' v):AH g w H e g' w' v:=⟨h.le,h.slot,h.heap,h.fr,h.perm,h.gho,fun _=>h.ty⟩
def ME {w:q8}{B:Nat}{e:TypeId}{c n:Nat}{v:q9}{xs:pW}(h:w.ownsRow B e c v n xs) {b:Nat}(hb:v.ownBlock=some b):b<w.heap.size:=(h.lt b hb).2
def RO {w:q8}{b o:Nat}{v:q9}(h:w.cell? ⟨b,o,none⟩=some v):b<w.heap.size:=by
 have:=World.block_lt_of_cell? w ⟨b,o,none⟩ h;exact this
def MF {g:Gh}{w:q8}{i:Nat}{blk:qJ}(h:AT g w i blk) {b o:Nat}(ho:sH g i blk b o):b<w.heap.size:=by
 cases blk with
 |cells t x toks=>
  obtain⟨p,cs,hp,_,_,E,_⟩:=h;obtain⟨q,hq,rfl,G,F⟩:=ho;rw[hp] at hq;obtain rfl:=aFE hq;have:=(E.1 (o-p.2) pP).1;obtain⟨v,z⟩:=aFB.1 this;exact RO z
 |grow e c n=>
  obtain⟨v,xs,z,hr,_⟩:=h;obtain⟨v',j,hb⟩:=ho;rw[z] at j;obtain rfl:=aFE j;exact ME hr hb
 |row e t l n=>
  obtain⟨_,v,xs,z,hr,_⟩:=h;obtain⟨v',j,hb⟩:=ho;rw[z] at j;obtain rfl:=aFE j;exact ME hr hb
 |map k v l=>
  obtain⟨p,es,cl,hp,_,D,_,_⟩:=h;obtain⟨q,hq,rfl⟩:=ho;rw[hp] at hq;obtain rfl:=aFE hq;exact(aF1.1 D).1
 |iter s n=>
  obtain⟨p,hp,_,D,_⟩:=h;obtain⟨q,hq,rfl⟩:=ho;rw[hp] at hq;obtain rfl:=aFE hq;exact(aF1.1 D).1
 |dead=>exact ho.elim
def Ll {g g':Gh}(j: ∀k n v,g.cur k n=some v->g'.cur k n=some v) {t:Ty}{x:t.den}{cs:pW}{toks:pU}(h:HS g t x cs toks):HS g' t x cs toks:=
 fun o k hm=>let ⟨u,l,v,D,z,h3⟩:=h o k hm;⟨u,l,v,D,z,j _ _ _ h3⟩
def JU {g g':Gh}{w w':q8}{i:Nat}{blk:qJ}(h:AT g w i blk) (le:Le g w g' w') (U:g'.J i=g.J i) (E:g'.cur i=g.cur i)
  (R: ∀b o,sH g i blk b o->w'.cell? ⟨b,o,none⟩=w.cell? ⟨b,o,none⟩/\w'.frozen? ⟨b,o,none⟩=w.frozen? ⟨b,o,none⟩)
  (hb: ∀b,(∀o,sH g i blk b o)->w'.heap[b]? =w.heap[b]?) (M: ∀b o,sH g i blk b o->g'.S b o->g.S b o) (X: ∀b o s,sH g i blk b o->w.shape? b=some s->w'.shape? b=some s):AT g' w' i blk:=by
 cases blk with
 |cells t x toks=>
  obtain⟨p,cs,hp,hr,Z,ht,G,V⟩:=h;have ho: ∀j,j<t.cells->sH g i (.cells t x toks) p.1 (p.2+j):=fun j I=>⟨p,hp,rfl,pP,pP⟩;refine⟨p,cs,U.trans hp,wT le hr,fun j v K=>?_,⟨fun j I=>?_,fun h0 s Y=>X _ _ _ (ho 0 h0) (ht.2 h0 s Y)⟩,fun j I D=>G j I (M _ _ (ho j I) D),Ll le.cur V⟩
  .have I:j<t.cells:=sZ hr▸(aFP.1 K).1;rw[(R _ _ (ho j I)).1];exact Z j v K
  .rw[(R _ _ (ho j I)).1,(R _ _ (ho j I)).2];exact ht.1 j I
 |grow e c n=>
  obtain⟨v,xs,K,hr,O,G⟩:=h;have z: ∀b,v.ownBlock=some b->∀o,sH g i (.grow e c n) b o:=fun b hb o=>⟨v,K,hb⟩;refine⟨v,xs,by rw[E];exact K,⟨hr.1,?_⟩,fun m hm=>by rw[E];exact O m hm,fun b F o D=>G b F o (M _ _ (z b F o) D)⟩;rcases hr.2 with h0|⟨q,cap,cur,e1,e2,e3,e4⟩
  .exact .inl h0
  .subst e1;exact .inr ⟨q,cap,cur,rfl,e2,by rw[hb q (z q rfl)];exact e3,e4⟩
 |row e t l n=>
  obtain⟨hl,v,xs,K,hr,hF,O,G⟩:=h;have z: ∀b,v.ownBlock=some b->∀o,sH g i (.row e t l n) b o:=fun b hb o=>⟨v,K,hb⟩;refine⟨hl,v,xs,by rw[E];exact K,⟨hr.1,?_⟩,CX (fun _ _ h=>wT le h) hF,fun m hm=>by rw[E];exact O m hm,fun b F o D=>G b F o (M _ _ (z b F o) D)⟩;rcases hr.2 with h0|⟨q,cap,cur,e1,e2,e3,e4⟩
  .exact .inl h0
  .subst e1;exact .inr ⟨q,cap,cur,rfl,e2,by rw[hb q (z q rfl)];exact e3,e4⟩
 |map k v l=>
  obtain⟨p,es,cl,hp,h0,Q,hM,G⟩:=h;have z: ∀o,sH g i (.map k v l) p.1 o:=fun o=>⟨p,hp,rfl⟩;exact⟨p,es,cl,U.trans hp,h0,(hb _ z).trans Q,ga le hM,fun o D=>G o (M _ _ (z o) D)⟩
 |iter s n=>
  obtain⟨p,hp,h0,Q,G⟩:=h;have z: ∀o,sH g i (.iter s n) p.1 o:=fun o=>⟨p,hp,rfl⟩;exact⟨p,U.trans hp,h0,(hb _ z).trans Q,fun o D=>G o (M _ _ (z o) D)⟩
 |dead=>trivial
def xS {g g':Gh}{i:Nat}{blk:qJ}(j:g'.J i=g.J i) (h:g'.cur i=g.cur i) {b o:Nat}:sH g' i blk b o↔sH g i blk b o:=by
 cases blk<;>simp [sH,j,h]
def AU {i:Nat}: ∀{u:List (Nat×qJ)}{H:sF},i∉qQ u->qO (r7 u H) i=qO H i
 |[],_,_=>rfl
 |(k,b)::r,H,h=>by
  simp only[qQ,aFN,not_or] at h;simp only[r7,qO];rw[aFA (Ne.symm h.1)];exact AU h.2
def sK.upd {g g':Gh}{w w':q8}{H:sF}{u:List (Nat×qJ)}(h:sK g w H) (le:Le g w g' w') (fr:Fr (sY g H (qQ u)) w w' g.S g'.S)
  (perm: ∀i blk b o,i∈qQ u->qO (r7 u H) i=some blk->sH g' i blk b o->w.heap.size<=b\/sY g H (qQ u) b o)
  (gho: ∀i,i∉qQ u->g'.J i=g.J i/\g'.cur i=g.cur i)
  (hb: ∀i blk,i∈qQ u->qO (r7 u H) i=some blk->AT g' w' i blk)
  (V: ∀i j bi bj b o,i∈qQ u->j∈qQ u->i≠j->qO (r7 u H) i=some bi->qO (r7 u H) j=some bj->sH g' i bi b o->sH g' j bj b o->False)
  (sl: ∀b o,g'.S b o->b<w'.heap.size):sK g' w' (r7 u H):=by
 have out: ∀i blk,i∉qQ u->qO H i=some blk->∀b o,sH g i blk b o->b<w.heap.size/\¬sY g H (qQ u) b o:=fun i blk hi O b o ho=>
  ⟨MF (h.blk i blk O) ho,fun⟨j,bj,G,F,E⟩=>h.dis i j blk bj b o (fun e=>hi (e▸G)) O F ho E⟩
 refine⟨fun i blk O=>?_,fun i j bi bj b o Q M F K E=>?_,sl,JF h.tab.1 fr.size (fun b hb=>fr.blk b (aF9 hb h.tab.1.1) (fun o ⟨j,bj,_,k1,k2⟩=>Nat.not_lt.2 (h.tab.2 j bj b o k1 k2) hb)),fun i blk b o O ho=>?_⟩
 rotate_right
 .by_cases hi:i∈qQ u
  .rcases perm i blk b o hi O ho with D|⟨j,bj,_,k1,k2⟩
   .exact aGA h.tab.1.1 D
   exact h.tab.2 j bj b o k1 k2
  exact h.tab.2 i blk b o ((AU hi).symm.trans O) ((xS (gho i hi).1 (gho i hi).2).1 ho)
 .by_cases hi:i∈qQ u
  .exact hb i blk hi O
  have z:=(AU hi).symm.trans O;have U:=gho i hi;refine JU (h.blk i blk z) le U.1 U.2 (fun b o ho=>?_) (fun b ho=>?_) (fun b o ho R=>?_) (fun b o s ho R=>(fr.shape b s R).resolve_right fun D=>(out i blk hi z b o ho).2 (D o))
  .exact fr.cell b o (out i blk hi z b o ho).1 (out i blk hi z b o ho).2
  .exact fr.blk b (out i blk hi z b 0 (ho 0)).1 (fun o=>(out i blk hi z b o (ho o)).2)
  rcases fr.new b o R with D|D|D
  .exact D
  .have:=(out i blk hi z b o ho).1;omega
  exact absurd D (out i blk hi z b o ho).2
 by_cases hi:i∈qQ u<;>by_cases G:j∈qQ u
 .exact V i j bi bj b o hi G Q M F K E
 .have z:=(AU G).symm.trans F;have I:=(xS (gho j G).1 (gho j G).2).1 E;rcases perm i bi b o hi M K with D|D
  .have:=(out j bj G z b o I).1;omega
  exact(out j bj G z b o I).2 D
 .have z:=(AU hi).symm.trans M;have I:=(xS (gho i hi).1 (gho i hi).2).1 K;rcases perm j bj b o G F E with D|D
  .have:=(out i bi hi z b o I).1;omega
  exact(out i bi hi z b o I).2 D
 exact h.dis i j bi bj b o Q ((AU hi).symm.trans M) ((AU G).symm.trans F) ((xS (gho i hi).1 (gho i hi).2).1 K) ((xS (gho j G).1 (gho j G).2).1 E)
def rR.pure {g:Gh}{w:q8}{H:sF}{side:List Prop}{s:qK}{rds:pZ}{v:q9}(h:sK g w H) (j:rS g w s v):rR g w H ⟨side,s,[],rds⟩ g w v:=
 ⟨.refl _ _,j,h,.refl _ _ _,fun _ _ _ _ hi=>(by cases hi),fun _ _=>⟨rfl,rfl⟩,fun _ _ y us h=> .inl ⟨y,us,h⟩⟩
def AH.pure {g:Gh}{w:q8}{H:sF}{side:List Prop}{s:qK}{rds:pZ}{v:q9}(h:sK g w H) (j:rS g w s v):AH g w H ⟨side,s,[],rds⟩ g w v:=(rR.pure h j).w
def MG {α:Type}: ∀(l m n:List α),r7 (r7 l m) n=r7 l (r7 m n)
 |[],_,_=>rfl
 |x::l,m,n=>by simp only[r7,MG l m n]
def CY {i:Nat}: ∀{l m:List (Nat×qJ)},i∈qQ (r7 l m)↔i∈qQ l\/i∈qQ m
 |[],m=>by simp [r7,qQ]
 |(k,b)::l,m=>by simp only[r7,qQ,aFN,CY (l:=l),or_assoc]
def rR.trans {g:Gh}{w:q8}{H:sF}{e1 e2:qY}{g1 g2:Gh}{w1 w2:q8}{v1 v2:q9}{side:List Prop}{rds:pZ}(h:rR g w H e1 g1 w1 v1) (k:rR g1 w1 (r7 e1.upd H) e2 g2 w2 v2):rR g w H ⟨side,e2.slot,r7 e2.upd e1.upd,rds⟩ g2 w2 v2:=by
 have M: ∀b o,sY g1 (r7 e1.upd H) (qQ e2.upd) b o->w.heap.size<=b\/sY g H (qQ (r7 e2.upd e1.upd)) b o:=by
  rintro b o ⟨i,blk,hi,z,ho⟩;by_cases D:i∈qQ e1.upd
  .refine(h.perm i blk b o D z ho).imp id fun⟨j,bj,F,q⟩=>⟨j,bj,CY.2 (.inr F),q⟩
  exact .inr ⟨i,blk,CY.2 (.inl hi),(AU D).symm.trans z,(xS (h.gho i D).1 (h.gho i D).2).1 ho⟩
 have mono: ∀b o,sY g H (qQ e1.upd) b o->sY g H (qQ (r7 e2.upd e1.upd)) b o:=fun b o ⟨j,bj,F,q⟩=>⟨j,bj,CY.2 (.inr F),q⟩;refine⟨h.le.trans k.le,k.slot,by simp only[MG];exact k.heap,?_,fun i blk b o hi z ho=>?_,fun i hi=>?_,fun i u y us z=>?_⟩
 .have D:Fr (sY g H (qQ (r7 e2.upd e1.upd))) w w1 g.S g1.S:=⟨h.fr.os,h.fr.tape,h.fr.output,h.fr.size,fun b hb I=>h.fr.blk b hb (fun o ho=>I o (mono b o ho)),fun b o hb I=>h.fr.cell b o hb (fun ho=>I (mono b o ho)),fun b o G=>(h.fr.new b o G).imp id (Or.imp id (mono b o)),fun b s G=>(h.fr.shape b s G).imp id fun h o=>mono b o (h o)⟩;exact D.trans k.fr M
 .simp only[MG] at z;by_cases E:i∈qQ e2.upd
  .rcases k.perm i blk b o E z ho with h3|h3
   .exact .inl (aGA h.fr.size h3)
   exact M b o h3
  have K:i∈qQ e1.upd:=(CY.1 hi).resolve_left E;rw[AU E] at z;exact(h.perm i blk b o K z ((xS (k.gho i E).1 (k.gho i E).2).1 ho)).imp id (mono b o)
 .have E:i∉qQ e2.upd:=fun q=>hi (CY.2 (.inl q));have D:i∉qQ e1.upd:=fun q=>hi (CY.2 (.inr q));exact⟨(k.gho i E).1.trans (h.gho i D).1,(k.gho i E).2.trans (h.gho i D).2⟩
 simp only[MG] at z;rcases k.ty i u y us z with⟨x,ts,h3⟩ |⟨h3,h4⟩
 .exact h.ty i u x ts h3
 right;refine⟨?_,fun n=>?_⟩
 .cases F:g.J i with
  |none=>rfl
  |some p=>rw[h.le.J i p F] at h3;cases h3
 cases F:g.cur i n with
 |none=>rfl
 |some p=>rw[<-h4 n,h.le.cur i n p F]
def rR.congrH {g:Gh}{w:q8}{H H':sF}{e:qY}{g':Gh}{w':q8}{v:q9}(h:rR g w H e g' w' v) (hH:H=H'):rR g w H' e g' w' v:=hH▸h
def HT {α:Type}{x:α}: ∀{l m:List α},x∈r7 l m↔x∈l\/x∈m
 |[],m=>by simp [r7]
 |y::l,m=>by simp only[r7,aFN,HT (l:=l),or_assoc]
def rR.slot' {g:Gh}{w:q8}{H:sF}{sd sd2:List Prop}{s s2:qK}{U:List (Nat×qJ)}{r r2:pZ}{g':Gh}{w':q8}{v v2:q9}(h:rR g w H ⟨sd,s,U,r⟩ g' w' v) (j:rS g' w' s2 v2):rR g w H ⟨sd2,s2,U,r2⟩ g' w' v2:=
 ⟨h.le,j,h.heap,h.fr,h.perm,h.gho,h.ty⟩
def sK.ext0 {g:Gh}{w:q8}{H H':sF}(h:sK g w H) (e: ∀i,qO H i=qO H' i):sK g w H':=
 ⟨fun i b hb=>h.blk i b (by rw[e];exact hb),fun i j bi bj b o z E D=>h.dis i j bi bj b o z (by rw[e];exact E) (by rw[e];exact D),h.sl,h.tab.1,fun i b bb oo hb ho=>h.tab.2 i b bb oo (by rw[e];exact hb) ho⟩
def rR.more {g:Gh}{w:q8}{H:sF}{sd sd2:List Prop}{s:qK}{U U2:List (Nat×qJ)}{r r2:pZ}{g':Gh}{w':q8}{v:q9}(h:rR g w H ⟨sd,s,U,r⟩ g' w' v) (G: ∀i,qO (r7 U2 H) i=qO (r7 U H) i) (hm: ∀i,i∈qQ U->i∈qQ U2):rR g w H ⟨sd2,s,U2,r2⟩ g' w' v:=by
 have mono: ∀b o,sY g H (qQ U) b o->sY g H (qQ U2) b o:=fun b o ⟨j,bj,I,q⟩=>⟨j,bj,hm j I,q⟩;refine⟨h.le,h.slot,h.heap.ext0 (fun i=>(G i).symm),⟨h.fr.os,h.fr.tape,h.fr.output,h.fr.size,fun b hb F=>h.fr.blk b hb (fun o ho=>F o (mono b o ho)),fun b o hb F=>h.fr.cell b o hb (fun ho=>F (mono b o ho)),fun b o E=>(h.fr.new b o E).imp id (Or.imp id (mono b o)),fun b s E=>(h.fr.shape b s E).imp id fun h o=>mono b o (h o)⟩,fun i blk b o hi z ho=>?_,fun i hi=>h.gho i (fun q=>hi (hm i q)),fun i u y us z=>h.ty i u y us ((G i).symm.trans z)⟩;rw[G] at z;by_cases D:i∈qQ U
 .exact(h.perm i blk b o D z ho).imp id (mono b o)
 exact .inr ⟨i,blk,hi,(AU D).symm.trans z,(xS (h.gho i D).1 (h.gho i D).2).1 ho⟩
def uI:Ty->pW
 | .bool=>[.bool false]
 | .int k=>[.int k 0]
 | .str=>[.string ⟨#[]⟩]
 | .list _=>[.slice none 0 0]
 | .unit=>[]
 | .pair a b=>uI a++uI b
 | .ref=>[.pointer none]
 | .clo=>[.nilFunc]
 | .mp=>[.map none]
 | .rl _ _=>[.slice none 0 0]
 | .fn=>[.nilFunc]
 | .mref=>[.pointer none]
 | .ap=>[.nilFunc]
def yI (t:Ty):q9:=if t.isRow then .agg (uI t).toArray else(uI t).headD undef
def P2 (P:Program):Ty->Nat->List Field->Prop
 | .unit,_,[]=>True
 | .pair a b,o,f::r=>f.offset=o/\(P.info? f.type).map (·.size)=some a.cells/\(P.underlying f.type).map (·.isRow)=some a.isRow/\P2 P b (o+a.cells) r
 |_,_,_=>False
def RP (P:Program) (e:TypeId):Ty->Nat->Prop
 | .unit,0=>True
 | .pair a b,n+1=>(P.info? e).map (·.size)=some a.cells/\(P.underlying e).map (·.isRow)=some a.isRow/\RP P e b n
 |_,_=>False
inductive gd where
 |ty (t:TypeId) |fs (o:Nat) (l:List Field) |el (e:TypeId) (i m:Nat)
inductive zK (P:Program):Nat->gd->Ty->Prop
 |bool {h t}:P.underlying t=some .bool->zK P h (.ty t) .bool
 |int {h t k}:P.underlying t=some (.int k)->zK P h (.ty t) (.int k)
 |str {h t}:P.underlying t=some .string->zK P h (.ty t) .str
 |struct {h t fs ty}:ty.isRow=true->P.underlying t=some (.struct fs)->P.stoodInHeld t=false->zK P h (.fs 0 fs.toList) ty->zK P (h+1) (.ty t) ty
 |arr {h t e n ty}:ty.isRow=true->P.underlying t=some (.array n e)->(P.info? e).isSome=true->zK P h (.el e 0 n) ty->zK P (h+1) (.ty t) ty
 |nil {h o}:zK P h (.fs o []) .unit
 |cons {h o}{f:Field}{r a b}:f.name≠ "_" ->f.offset=o->(P.info? f.type).map (·.size)=some a.cells->(P.underlying f.type).map (·.isRow)=some a.isRow->zK P h (.ty f.type) a->zK P h (.fs (o+a.cells) r) b->zK P h (.fs o (f::r)) (.pair a b)
 |anil {h e i}:zK P h (.el e i 0) .unit
 |acons {h e i m a b}:(P.info? e).map (·.size)=some a.cells->(P.underlying e).map (·.isRow)=some a.isRow->zK P h (.ty e) a->zK P h (.el e (i+1) m) b->zK P h (.el e i (m+1)) (.pair a b)
def Lm (P:Program):Prop:=
 (∀(w:q8) (p:Option Addr),Calls P JE #[.pointer p] w fun e w'=> ∃b,e= .returned (.func (.func JD) #[] #[.pointer (some ⟨b,0,none⟩)])/\w.heap.size<=b/\b<w'.heap.size/\w'.cell? ⟨b,0,none⟩=some (.pointer p)/\Below w.heap.size w w')/\
 (∀args w,(callFunc JE args).run P w= .ok (.enter JE args) w)/\(∀args w,(callFunc JD args).run P w= .ok (.enter JD args) w)/\
 ∀(w:q8) (b:Nat) (α:Addr) (y s:pL) (ok:Bool),w.cell? ⟨b,0,none⟩=some (.pointer (some α))->w.cell? α=some (.string ⟨y.toArray⟩)->w.frozen? α=false->α.spot=none->((y++s).length:Int)<=9223372036854775807->
  (∀w1,Below w.heap.size w w1->Calls P HE #[.string ⟨(y++s).toArray⟩] w1 fun e w'=>e= .returned (.bool ok)/\Below w1.heap.size w1 w')->
  Calls P JD #[.string ⟨s.toArray⟩,.pointer (some ⟨b,0,none⟩)] w fun e w'=>e= .returned (.bool ok)/\∃w1,Below w.heap.size w w1/\w'=if ok=true then w1.setCells α.block α.off [.string ⟨(y++s).toArray⟩] else w1
def xT (P:Program) (t:TypeId) (ti:TI):Prop:=
 match ti.ty with
 | .bool=>P.underlying t=some .bool
 | .int k=>P.underlying t=some (.int k)
 | .str=>P.underlying t=some .string
 | .ref=> ∃e,P.underlying t=some (.pointer e)
 | .clo=> ∃a b c,P.underlying t=some (.func a b c)
 | .mp=>P.underlying t=some (.map ti.elem ti.bytes)
 | .rl _ _=> ∃e,P.underlying t=some (.slice e)
 | .fn=> ∃a b c,P.underlying t=some (.func a b c)
 | .mref=> ∃e,P.underlying t=some (.pointer e)
 | .ap=>(∃a b c,P.underlying t=some (.func a b c))/\Lm P
 | .list u=>P.underlying t=some (.slice ti.elem)/\(P.info? ti.elem).map (fun i=>(i.size,i.bytes,i.zero))=some (u.cells,ti.bytes,some (yI u))/\(P.underlying ti.elem).map (·.isRow)=some u.isRow
 |ty=>((ti.arr=false/\∃fs,P.underlying t=some (.struct fs)/\P2 P ty 0 fs.toList)\/(ti.arr=true/\∃n e,P.underlying t=some (.array n e)/\RP P e ty n/\(P.info? e).isSome=true))/\(ti.bytes=1->P.eqGuardType P.depth t=false/\∃h,h<9000/\zK P h (.ty t) ty)
def tM (P:Program) (t:TypeId) (ti:TI):Prop:=(P.info? t).map (fun i=>(i.size,i.zero))=some (ti.ty.cells,some (yI ti.ty))/\xT P t ti
def xU (P:Program):sW->Prop
 |[]=>True
 |(t,ti)::r=>tM P t ti/\xU P r
theorem t7 {P:Program}: ∀{T:sW},xU P T->∀{t:TypeId}{ti:TI},rY T t=some ti->tM P t ti
 |[],_,_,_,h=>by simp [rY] at h
 |(k,ti)::r,hT,t,ti',h=>by
  simp only[rY] at h;by_cases j:k=t
  .rw[aFz j] at h;subst j;rw[<-aFE h];exact hT.1
  rw[aFA j] at h;exact t7 hT.2 h
theorem EQ (g:Gh) (w:q8): ∀t:Ty,Rd g w t t.zero (uI t)
 | .bool=>rfl
 | .int _=>rfl
 | .str=>rfl
 | .list _=>⟨none,0,rfl,aFW _,.inl rfl⟩
 | .unit=>rfl
 | .pair a b=>⟨_,_,rfl,EQ g w a,EQ g w b⟩
 | .ref=>rfl
 | .clo=>rfl
 | .mp=>rfl
 | .rl _ _=>rfl
 | .fn=>rfl
 | .mref=>rfl
 | .ap=> .inl ⟨rfl,rfl⟩
theorem MH (g:Gh) (w:q8) (t:Ty):tD g w t t.zero (yI t):=by
 unfold tD yI;by_cases h:t.isRow=true
 .left;rw[aFz h];exact⟨h,_,rfl,EQ g w t⟩
 right;rw[aFA h];refine⟨by simpa using h,?_⟩;cases t<;>first|exact EQ g w _|(simp [Ty.isRow] at h)
theorem G9 {g:Gh}{w:q8}{t:Ty}{x:t.den}{v:q9}(h:tD g w t x v):Rd g w t x v.cells.toList:=by
 rcases h with⟨_,cs,rfl,r⟩ |⟨hr,r⟩
 .simpa[Value.cells] using r
 have j:=AS r v pR;have:v.cells= #[v]:=by cases v<;>first|rfl|(simp [Value.oneCell'] at j)
 rw[this];exact r
theorem xV {g:Gh}{w:q8}{t:Ty}{x:t.den}{v:q9}(hr:t.isRow=false) (h:tD g w t x v):Rd g w t x [v]:=by
 rcases h with⟨j,_⟩ |⟨_,r⟩
 .rw[hr] at j;cases j
 exact r
theorem wD {g:Gh}{w:q8}{k:IntKind}{n:Int}{v:q9}(h:tD g w (.int k) n v):v= .int k n:=by
 have:=xV rfl h;simp only[Rd,aGm,and_true] at this;exact this
theorem vT {g:Gh}{w:q8}{n:Bool}{v:q9}(h:tD g w .bool n v):v= .bool n:=by
 have:=xV rfl h;simp only[Rd,aGm,and_true] at this;exact this
theorem wX {g:Gh}{w:q8}{l:pL}{v:q9}(h:tD g w .str l v):v= .string ⟨l.toArray⟩:=by
 have:=xV rfl h;simp only[Rd,aGm,and_true] at this;exact this
theorem ER {g:Gh}{w:q8}{t:Ty}{l:List t.den}{v:q9}(h:tD g w (.list t) l v): ∃a cap,v= .slice a l.length cap/\l.length<=cap/\(l=[]\/∃b o,a=some ⟨b,o,none⟩/\yY (Rd g w t) w g.S t.cells b o l):=by
 have:=xV rfl h;obtain⟨a,cap,e,z,j⟩:=this;simp only[aGm,and_true] at e;exact⟨a,cap,e,z,j⟩
theorem xW {g:Gh}{w:q8}{i o:Nat}{v:q9}(h:tD g w .ref (some (i,o)) v): ∃p,g.J i=some p/\v= .pointer (some ⟨p.1,p.2+o,none⟩):=by
 have:=xV rfl h;obtain⟨p,j,e⟩:=this;simp only[aGm,and_true] at e;exact⟨p,j,e⟩
theorem MI {g:Gh}{w:q8}{t:Ty}{x:t.den}{v:q9}(hr:t.isRow=true) (h:tD g w t x v): ∃cs:pW,v= .agg cs.toArray/\Rd g w t x cs:=by
 rcases h with⟨_,r⟩ |⟨j,_⟩
 .exact r
 rw[hr] at j;cases j
theorem wI (g:Gh) (w:q8) (k:IntKind) (n:Int):tD g w (.int k) n (.int k n):= .inr ⟨rfl,rfl⟩
theorem vU (g:Gh) (w:q8) (b:Bool):tD g w .bool b (.bool b):= .inr ⟨rfl,rfl⟩
theorem CZ (g:Gh) (w:q8) (l:pL):tD g w .str l (.string ⟨l.toArray⟩):= .inr ⟨rfl,rfl⟩
def rN (P:Program) (o:Oper) (a:Act) (g:Gh) (w:q8) (H:sF) (e:qY):Prop:=
 ∀(K:Act->q8->Prop) (Q:Exit->Act->q8->Prop),(∀g' w' v,AH g w H e g' w' v->K (a.put o.dst v) w')->o.wp P a w K Q
theorem rN.valueW {P:Program}{o:Oper}{a:Act}{g g':Gh}{w w':q8}{H:sF}{e:qY}{v:q9}(hr:(execOp a.eval o).run P w= .ok (.value v) w') (h:AH g w H e g' w' v):rN P o a g w H e:=by
 intro K Q j;unfold Oper.wp;rw[hr];exact j g' w' v h
theorem rN.skipW {P:Program}{o:Oper}{a:Act}{g g':Gh}{w w':q8}{H:sF}{e:qY}(hr:(execOp a.eval o).run P w= .ok .skip w') (h:AH g w H e g' w' undef):rN P o a g w H e:=by
 intro K Q j;unfold Oper.wp;rw[hr];exact j g' w' undef h
theorem rN.value {P:Program}{o:Oper}{a:Act}{g g':Gh}{w w':q8}{H:sF}{e:qY}{v:q9}(hr:(execOp a.eval o).run P w= .ok (.value v) w') (h:rR g w H e g' w' v):rN P o a g w H e:= .valueW hr h.w
theorem rN.skip {P:Program}{o:Oper}{a:Act}{g g':Gh}{w w':q8}{H:sF}{e:qY}(hr:(execOp a.eval o).run P w= .ok .skip w') (h:rR g w H e g' w' undef):rN P o a g w H e:= .skipW hr h.w
theorem rN.pure {P:Program}{o:Oper}{a:Act}{g:Gh}{w:q8}{H:sF}{side:List Prop}{d:DV}{rds:pZ}{v:q9}(hH:sK g w H) (hr:(execOp a.eval o).run P w= .ok (.value v) w) (h:zJ g w d v):
  rN P o a g w H ⟨side,(d,none),[],rds⟩:= .value hr (.pure hH ⟨h,trivial⟩)
section
variable {P:Program}{o:Oper}{a:Act}{g:Gh}{w:q8}{H:sF}
theorem WS {g:Gh}{w:q8}{k:IntKind}(q:Int) (hq: ∀p∈(LM k q).1,p):zJ g w (LM k q).2 (.int k (k.wrap q)):=by
 cases k<;>simp only[LM] at hq|- <;>first|exact wI _ _ _ _|skip
 have h0:=hq _ (aFR.2 rfl);rw[show IntKind.i64.wrap q=q from IntWalk.i64_in q pP];exact wI _ _ _ _
theorem a4l (g:Gh) {op:BinOp}{xt:TypeId}{x y:Operand}{k:IntKind}{m n:Int}{r:List Prop×DV}(hr:bx k m n op=some r) (h: ∀p∈r.1,p):
  ∃v,(do eqGuard op xt x y (.int k m) (.int k n);Go.binOp op xt (.int k m) (.int k n):Sem q9).run P w= .ok v w/\zJ g w r.2 v:=by
 cases op<;>simp only[bx,aFy,reduceCtorEq] at hr
 all_goals subst hr
 case add=>exact⟨.int k (k.wrap _),by simp [eqGuard,Go.binOp,Op.intArith],WS _ h⟩
 case sub=>exact⟨.int k (k.wrap _),by simp [eqGuard,Go.binOp,Op.intArith],WS _ h⟩
 case mul=>exact⟨.int k (k.wrap _),by simp [eqGuard,Go.binOp,Op.intArith],WS _ h⟩
 case eql=>exact⟨.bool (decide (m=n)),by simp [eqGuard,Go.binOp,Op.intCmp];rfl,vU _ _ _⟩
 case neq=>exact⟨.bool (!decide (m=n)),by simp [eqGuard,Go.binOp,Op.intCmp,bne];rfl,vU _ _ _⟩
 case lss=>exact⟨.bool (decide _),by simp [eqGuard,Go.binOp,Op.intCmp],vU _ _ _⟩
 case leq=>exact⟨.bool (decide _),by simp [eqGuard,Go.binOp,Op.intCmp],vU _ _ _⟩
 case gtr=>exact⟨.bool (decide (n<m)),by simp [eqGuard,Go.binOp,Op.intCmp],vU _ _ _⟩
 case geq=>exact⟨.bool (decide (n<=m)),by simp [eqGuard,Go.binOp,Op.intCmp],vU _ _ _⟩
 case quo=>
  have h0:=h _ (aFR.2 rfl);exact⟨.int k (k.wrap (Int.tdiv m n)),by simp [eqGuard,Go.binOp,Op.intDiv,h0],wI _ _ _ _⟩
 case rem=>
  have h0:=h _ (aFR.2 rfl);exact⟨.int k (Int.tmod m n),by simp [eqGuard,Go.binOp,Op.intDiv,h0],wI _ _ _ _⟩
 case and=>exact⟨.int k (bits .and k m n),by simp [eqGuard,Go.binOp,intBits_and],wI _ _ _ _⟩
 case or=>exact⟨.int k (bits .or k m n),by simp [eqGuard,Go.binOp,intBits_or],wI _ _ _ _⟩
 case xor=>exact⟨.int k (bits .xor k m n),by simp [eqGuard,Go.binOp,intBits_xor],wI _ _ _ _⟩
 case andNot=>exact⟨.int k (bits .andNot k m n),by simp [eqGuard,Go.binOp,intBits_andNot],wI _ _ _ _⟩
theorem RQ (m n:pL):(m==n)=decide (m=n):=by rw[aHi];simp
theorem a4m (g:Gh) {op:BinOp}{xt:TypeId}{x y:Operand}{m n:pL}{r:List Prop×DV}(hr:ca m n op=some r) (h: ∀p∈r.1,p):
  ∃v,(do eqGuard op xt x y (.string ⟨m.toArray⟩) (.string ⟨n.toArray⟩);Go.binOp op xt (.string ⟨m.toArray⟩) (.string ⟨n.toArray⟩):Sem q9).run P w= .ok v w/\zJ g w r.2 v:=by
 have hl: ∀l:pL,(⟨l.toArray⟩:ByteArray).size=l.length:=fun l=>by simp [ByteArray.size]
 cases op<;>simp only[ca,aFy,reduceCtorEq] at hr
 all_goals subst hr
 case add=>
  have h0:=h _ (aFR.2 rfl);refine⟨.string ⟨(m++n).toArray⟩,?_,CZ _ _ _⟩;rw[aFD] at h0;have j: ¬(((⟨m.toArray⟩:ByteArray).size+(⟨n.toArray⟩:ByteArray).size:Nat):Int) >IntKind.i64.max:=by rw[hl,hl,show IntKind.i64.max=9223372036854775807 from by decide];omega
  simp only[eqGuard,Go.binOp,Op.stringOp,aFM,aFA j];simp;rfl
 case eql=>exact⟨.bool (decide (m=n)),by simp [eqGuard,Go.binOp,Op.stringOp,RQ],vU _ _ _⟩
 case neq=>exact⟨.bool (!decide (m=n)),by simp [eqGuard,Go.binOp,Op.stringOp,RQ],vU _ _ _⟩
 case lss=>exact⟨.bool (Op.bytesLess m n),by simp [eqGuard,Go.binOp,Op.stringOp],vU _ _ _⟩
 case leq=>exact⟨.bool (Op.bytesLess m n||decide (m=n)),by simp [eqGuard,Go.binOp,Op.stringOp,RQ],vU _ _ _⟩
 case gtr=>exact⟨.bool (!(Op.bytesLess m n||decide (m=n))),by simp [eqGuard,Go.binOp,Op.stringOp,RQ],vU _ _ _⟩
 case geq=>exact⟨.bool (!Op.bytesLess m n),by simp [eqGuard,Go.binOp,Op.stringOp],vU _ _ _⟩
theorem JV {r:Option (List Prop×DV)}{e:qY}(h:B6 r=some e): ∃q,r=some q/\e=⟨q.1,(q.2,none),[],[]⟩:=by
 cases r with
 |none=>cases h
 |some q=>obtain⟨p,d⟩:=q;exact⟨(p,d),rfl,(aFE h).symm⟩
theorem a4n (hH:sK g w H) {op:BinOp}{xt yt:TypeId}{x y:Operand}(ho:o.op= .binOp op xt x y yt) {sx sy:qK}(j:rS g w sx (a.eval x)) (h:rS g w sy (a.eval y)) {e:qY}
  (hr:B6 (UT op sx sy)=some e) (D: ∀p∈e.side,p):rN P o a g w H e:=by
 obtain⟨q,hq,rfl⟩:=JV hr;have go: ∀{u v:q9},a.eval x=u->a.eval y=v->(∃z,(do eqGuard op xt x y u v;Go.binOp op xt u v:Sem q9).run P w= .ok z w/\zJ g w q.2 z)->rN P o a g w H ⟨q.1,(q.2,none),[],[]⟩:=by
  rintro u v rfl rfl ⟨z,E,G⟩;refine rN.pure hH (v:=z) ?_ G;unfold execOp;rw[ho];simp only[aFM,aF0] at E|-;rw[E];rfl
 obtain⟨dx,kx⟩:=sx;obtain⟨dy,ky⟩:=sy;replace j:=j.1;replace h:=h.1;unfold UT at hq;split at hq
 .rename_i k m k1 k' n k2 e1 e2;simp only[aF3] at e1 e2;obtain⟨rfl,-⟩:=e1;obtain⟨rfl,-⟩:=e2;unfold Je at hq;split at hq
  .cases hq;have h0:=D _ (aFR.2 rfl);exact go (wD j) (wD h) ⟨.int k (bz k m n),by simp [eqGuard,Go.binOp,Op.shift,bz,Int.not_lt.2 h0],wI _ _ _ _⟩
  .cases hq;have h0:=D _ (aFR.2 rfl);exact go (wD j) (wD h) ⟨.int k (yV k m n),by simp [eqGuard,Go.binOp,Op.shift,yV,Int.not_lt.2 h0],wI _ _ _ _⟩
  by_cases F:k=k'
  .subst F;rw[aFz rfl] at hq;exact go (wD j) (wD h) (a4l g hq D)
  rw[aFA F] at hq;cases hq
 .rename_i m k1 n k2 e1 e2;simp only[aF3] at e1 e2;obtain⟨rfl,-⟩:=e1;obtain⟨rfl,-⟩:=e2;exact go (wX j) (wX h) (a4m g hq D)
 cases hq
theorem a4o (hH:sK g w H) {op:BinOp}{xt yt:TypeId}{x y:Operand}(ho:o.op= .binOp op xt x y yt) {ti:Option TI}{sx sy:qK}(E:rS g w sx (a.eval x)) (D:rS g w sy (a.eval y)) {e:qY}
  (hr:B6 (UU op ti sx sy)=some e):rN P o a g w H e:=by
 obtain⟨q,hq,rfl⟩:=JV hr;unfold UU at hq;split at hq
 .rename_i k m _ k' n _;by_cases z:k=k'
  .subst z;rw[aFz rfl] at hq;have j:=wD E.1;have h:=wD D.1;cases op<;>simp only[Jf,aFy,reduceCtorEq] at hq
   all_goals subst hq
   all_goals refine rN.pure hH (v:= .int k (k.wrap _)) ?_ (wI _ _ _ _)
   all_goals
    unfold execOp;rw[ho];simp [j,h,eqGuard,Go.binOp,Op.intArith]
  rw[aFA z] at hq;cases hq
 cases hq
theorem a4p (hH:sK g w H) {op:UnOp}{xt:TypeId}{x:Operand}(ho:o.op= .unOp op xt x) {sx:qK}(h:rS g w sx (a.eval x)) {e:qY}
  (hr:B6 (cf op sx)=some e) (j: ∀p∈e.side,p):rN P o a g w H e:=by
 obtain⟨q,hq,rfl⟩:=JV hr;replace h:=h.1;unfold cf at hq;split at hq
 .have:=vT h;cases hq;refine rN.pure hH (v:= .bool _) ?_ (vU _ _ _);simp [execOp,ho,this,Op.unary]
 .rename_i k n _;have:=wD h;cases hq;refine rN.pure hH (v:= .int k (k.wrap (-n))) ?_ (WS _ j);simp [execOp,ho,this,Op.unary,Op.intArith]
 cases hq
theorem WT {t:TypeId}{ti:TI}(h:tM P t ti): ∃d,P.underlying t=some d/\d.isRow=ti.ty.isRow:=by
 have j:=h.2;unfold xT at j;obtain⟨ty,el,by',ar,ls⟩:=ti;cases ty<;>simp only at j
 case bool=>exact⟨_,j,rfl⟩
 case int=>exact⟨_,j,rfl⟩
 case str=>exact⟨_,j,rfl⟩
 case list=>exact⟨_,j.1,rfl⟩
 case ref=>obtain⟨e,h⟩:=j;exact⟨_,h,rfl⟩
 case clo=>obtain⟨a,b,c,h⟩:=j;exact⟨_,h,rfl⟩
 case mp=>exact⟨_,j,rfl⟩
 case rl=>obtain⟨e,h⟩:=j;exact⟨_,h,rfl⟩
 case fn=>obtain⟨a,b,c,h⟩:=j;exact⟨_,h,rfl⟩
 case ap=>obtain⟨⟨a,b,c,h⟩,_⟩:=j;exact⟨_,h,rfl⟩
 case mref=>obtain⟨e,h⟩:=j;exact⟨_,h,rfl⟩
 all_goals
  rcases j.1 with⟨_,fs,h,_⟩ |⟨_,n,e,h,_⟩
  .exact⟨_,h,rfl⟩
  exact⟨_,h,rfl⟩
theorem ES {t:TypeId}{ti:TI}(h:tM P t ti): ∃i,P.info? t=some i/\i.size=ti.ty.cells/\i.zero=some (yI ti.ty):=by
 obtain⟨i,hi,j⟩:=aFQ.1 h.1;simp only[aF3] at j;exact⟨i,hi,j.1,j.2⟩
theorem a4q {T:sW}(hT:xU P T) (hH:sK g w H) {st dt:TypeId}{x:Operand}(ho:o.op= .convert st dt x) {sx:qK}(z:rS g w sx (a.eval x)) {e:qY}
  (hr:B6 (UW (rY T st) (rY T dt) sx)=some e):rN P o a g w H e:=by
 obtain⟨q,hq,rfl⟩:=JV hr;replace z:=z.1;generalize D:rY T st=os at hq;generalize E:rY T dt=od at hq;unfold UW at hq;split at hq
 .rename_i k' k _ _ _ _ k0 n _;obtain⟨d,j,_⟩:=WT (t7 hT D);have h:=(t7 hT E).2;simp only[xT] at h;have:=wD z;cases hq;refine rN.pure hH (v:= .int k (k.wrap n)) ?_ (wI _ _ _ _);simp [execOp,ho,this,Go.convert,aFX j,aFX h,Conv.intToInt]
 .rename_i k' _ _ _ _ s _;obtain⟨d,j,_⟩:=WT (t7 hT D);have h:=(t7 hT E).2;simp only[xT] at h;have:=wX z;cases hq;refine rN.pure hH (v:= .string ⟨List.toArray s⟩) ?_ (CZ _ _ _);simp [execOp,ho,this,Go.convert,aFX j,aFX h]
 cases hq
theorem MJ {α:Type}{R:α->pW->Prop}{w:q8}{S:Nat->Nat->Prop}{c b:Nat}: ∀{l:List α}{o i:Nat}{x:α},yY R w S c b o l->l[i]? =some x->
  ∃cs,cs.length=c/\w.rangeAt b (o+i*c) cs/\(∀j,j<c->S b (o+i*c+j))/\R x cs
 |y::l,o,0,x,⟨⟨cs,D,z,h3,h4⟩,_⟩,h=>by
  simp only[aF8,aFy] at h;subst h;exact⟨cs,D,by simpa using z,by simpa using h3,h4⟩
 |y::l,o,i+1,x,⟨_,E⟩,h=>by
  simp only[aGk] at h;obtain⟨cs,D,z,h3,h4⟩:=MJ E h;have e:o+c+i*c=o+(i+1)*c:=by rw[aGO];omega
  exact⟨cs,D,by rw[<-e];exact z,by rw[<-e];exact h3,h4⟩
theorem Ln {α:Type}{R:α->pW->Prop}{w:q8}{S:Nat->Nat->Prop}{c b:Nat}: ∀{l:List α}{o:Nat}(i:Nat),yY R w S c b o l->i<=l.length->yY R w S c b (o+i*c) (l.drop i)
 |_,o,0,h,_=>by simpa using h
 |[],o,i+1,_,h=>by simp at h
 |y::l,o,i+1,⟨_,j⟩,h=>by
  have:=Ln i j (by simpa using h);have e:o+c+i*c=o+(i+1)*c:=by rw[aGO];omega
  rw[<-e];simpa using this
theorem Lo {α:Type}{R:α->pW->Prop}{w:q8}{S:Nat->Nat->Prop}{c b:Nat}: ∀{l:List α}{o:Nat}(i:Nat),yY R w S c b o l->yY R w S c b o (l.take i)
 |_,_,0,_=>by simp [yY]
 |[],_,_+1,_=>by simp [yY]
 |_::_,_,i+1,⟨h,j⟩=>by simpa[yY] using⟨h,Lo i j⟩
theorem ge {g:Gh}{w:q8}: ∀{t:Ty}{x:t.den}{cs:pW}{f:Nat}{u:Ty}{y:u.den},Rd g w t x cs->t.proj x f=some ⟨u,y⟩->
  ∃o c1 c2 c3,t.offs f=some o/\t.fld f=some u/\cs=c1++c2++c3/\c1.length=o/\Rd g w u y c2:=by
 intro t
 induction t with
 |pair a b _ ihb=>
  intro x cs f u y r h;obtain⟨c1,c2,e,r1,r2⟩:=r;cases f with
  |zero=>
   simp only[Ty.proj,aFy,Sigma.mk.injEq] at h;obtain⟨rfl,j⟩:=h;obtain rfl:=eq_of_heq j;exact⟨0,[],c1,c2,rfl,rfl,by simpa using e,rfl,r1⟩
  |succ f=>
   simp only[Ty.proj] at h;obtain⟨o,d1,d2,d3,D,j,h3,h4,z⟩:=ihb r2 h;refine⟨a.cells+o,c1++d1,d2,d3,by simp [Ty.offs,D],by simpa[Ty.fld] using j,by rw[e,h3];simp,?_,z⟩;rw[aFD,h4,sZ r1]
 |_=>intro x cs f u y r h;cases f<;>simp [Ty.proj] at h
theorem gg {P:Program}: ∀{ty:Ty}{off:Nat}{fs:List Field}{f o:Nat}{u:Ty},P2 P ty off fs->ty.offs f=some o->ty.fld f=some u->
  ∃fd,fs[f]? =some fd/\fd.offset=off+o/\(P.info? fd.type).map (·.size)=some u.cells/\(P.underlying fd.type).map (·.isRow)=some u.isRow:=by
 intro ty
 induction ty with
 |pair a b _ ihb=>
  intro off fs f o u h ho j;cases fs with
  |nil=>exact h.elim
  |cons fd fs=>
   obtain⟨E,D,h3,h4⟩:=h;cases f with
   |zero=>
    simp only[Ty.offs,aFy] at ho;simp only[Ty.fld,aFy] at j;subst ho;subst j;exact⟨fd,rfl,pP,D,h3⟩
   |succ f=>
    simp only[Ty.offs,aFQ] at ho;obtain⟨o',z,rfl⟩:=ho;obtain⟨fd',k1,k2,k3,k4⟩:=ihb h4 z j;exact⟨fd',by simpa using k1,pP,k3,k4⟩
 |_=>intro off fs f o u h ho j;cases f<;>simp [Ty.offs] at ho
theorem gh {P:Program}{e:TypeId}: ∀{ty:Ty}{n f o:Nat}{u:Ty},RP P e ty n->ty.offs f=some o->ty.fld f=some u->
  f<n/\(P.info? e).map (·.size)=some u.cells/\(P.underlying e).map (·.isRow)=some u.isRow/\o=f*u.cells:=by
 intro ty
 induction ty with
 |pair a b _ ihb=>
  intro n f o u h ho j;cases n with
  |zero=>exact h.elim
  |succ n=>
   obtain⟨z,h3,h4⟩:=h;cases f with
   |zero=>
    simp only[Ty.offs,aFy] at ho;simp only[Ty.fld,aFy] at j;subst ho;subst j;exact⟨pP,z,h3,by simp⟩
   |succ f=>
    simp only[Ty.offs,aFQ] at ho;obtain⟨o',D,rfl⟩:=ho;obtain⟨k1,k2,k3,k4⟩:=ihb h4 D j;rw[z] at k2;have E:a.cells=u.cells:=aFE k2;exact⟨pP,by rw[z,E],k3,by rw[k4,E,aGO];omega⟩
 |_=>intro n f o u h ho j;cases f<;>simp [Ty.offs] at ho
theorem RR {t:TypeId}{u:Ty}(hi:(P.info? t).map (·.size)=some u.cells) (hr:(P.underlying t).map (·.isRow)=some u.isRow) {y:u.den}{c1 c2 c3:pW}(h:Rd g w u y c2):
  ∃v,(part t (c1++c2++c3).toArray c1.length).run P w= .ok v w/\tD g w u y v:=by
 obtain⟨i,hi,F⟩:=aFQ.1 hi;obtain⟨d,G,z⟩:=aFQ.1 hr;have hl:=sZ h;by_cases E:u.isRow=true
 .refine⟨.agg c2.toArray,?_,.inl ⟨E,c2,rfl,h⟩⟩;have j:(isAgg t).run P w= .ok true w:=by
   unfold isAgg;rw[aFM,aFX G w];rw[E] at z;cases d<;>simp_all [TypeDesc.isRow]
  simp only[part,aFM,j,aFH,aHb,sizeOf,typeInfo,aGx,hi,F,aF0];congr 2;apply aGL.1;simp [<-hl]
 have D:u.isRow=false:=by simpa using E
 have I:u.cells=1:=by cases u<;>first|rfl|(simp [Ty.isRow] at D)
 obtain⟨v,rfl⟩: ∃v,c2=[v]:=by
  rw[I] at hl;exact aGS.1 hl
 refine⟨v,?_,.inr ⟨D,h⟩⟩;have j:(isAgg t).run P w= .ok false w:=by
  unfold isAgg;rw[aFM,aFX G w];rw[D] at z;cases d<;>simp_all [TypeDesc.isRow]
 simp only[part,aFM,j,aFH];simp
theorem gi {t:TypeId}{ti:TI}(h:tM P t ti) (hr:ti.ty.isRow=true):
  (ti.arr=false/\∃fs,P.underlying t=some (.struct fs)/\P2 P ti.ty 0 fs.toList)\/(ti.arr=true/\∃n e,P.underlying t=some (.array n e)/\RP P e ti.ty n/\(P.info? e).isSome=true):=by
 have j:=h.2;unfold xT at j;obtain⟨ty,el,by',ar,ls⟩:=ti;cases ty<;>simp only[Ty.isRow,aG2] at hr<;>exact j.1
theorem Lp {t:TypeId}{ti:TI}(h:tM P t ti) (hr:ti.ty.isRow=true) (j:ti.arr=false): ∃fs,P.underlying t=some (.struct fs)/\P2 P ti.ty 0 fs.toList:=by
 rcases gi h hr with⟨_,h⟩ |⟨h,_⟩
 .exact h
 rw[j] at h;cases h
theorem Lq {t:TypeId}{ti:TI}(h:tM P t ti) (hr:ti.ty.isRow=true) (j:ti.arr=true): ∃n e,P.underlying t=some (.array n e)/\RP P e ti.ty n/\(P.info? e).isSome=true:=by
 rcases gi h hr with⟨h,_⟩ |⟨_,h⟩
 .rw[j] at h;cases h
 exact h
theorem a4r {t:Ty}{x:t.den}{f:Nat}{q: Σ u:Ty,u.den}(h:t.proj x f=some q):t.isRow=true:=by
 cases t<;>first|rfl|(cases f<;>simp [Ty.proj] at h)
theorem a4s {t:Ty}{f o:Nat}(h:t.offs f=some o):t.isRow=true:=by
 cases t<;>first|rfl|(cases f<;>simp [Ty.offs] at h)
end
theorem a4t (l:pL) (n:Nat) (h:n<l.length):(⟨l.toArray⟩:ByteArray)[n]? =some l[n]:=by
 have:n<(⟨l.toArray⟩:ByteArray).size:=by simpa[ByteArray.size] using h
 rw[getElem?_pos (⟨l.toArray⟩:ByteArray) n this];rfl
theorem xX {i:Int}{n:Nat}(h0:0<=i) (h:i<n):i.toNat<n:=by omega
theorem Lr {i:Int}{n:Nat}(h0:0<=i) (h:i.toNat<n):i<n:=by omega
section
variable {P:Program}{o:Oper}{a:Act}{g:Gh}{w:q8}{H:sF}{T:sW}(hT:xU P T) (hH:sK g w H)
include hT hH
theorem a4u {t:TypeId}{x:Operand}{f:Nat}(ho:o.op= .field t x f) {sx:qK}(j:rS g w sx (a.eval x)) {e:qY}(hr:ef f (rY T t) sx=some e):rN P o a g w H e:=by
 generalize O:rY T t=ot at hr;replace j:=j.1;unfold ef at hr;split at hr
 .rename_i ty el by' ls_ u y _;split at hr
  .rename_i M;subst M;have F:=t7 hT O;generalize hp:u.proj y f=q at hr;cases q with
   |none=>cases hr
   |some q=>
    obtain⟨u,z⟩:=q;cases hr;have h:=a4r hp;obtain⟨cs,K,Q⟩:=MI h j;obtain⟨oo,c1,c2,c3,V,U,rfl,rfl,R⟩:=ge Q hp;obtain⟨fs,G,I⟩:=Lp F h rfl;obtain⟨fd,k1,k2,k3,k4⟩:=gg I V U;obtain⟨v,E,D⟩:=RR k3 k4 (P:=P) (c1:=c1) (c3:=c3) R;refine rN.pure hH (v:=v) ?_ D;have k1':fs[f]? =some fd:=by simpa using k1
    simp only[execOp,ho,K,Instr.field,aFM,aFX G,aFH,k1',asAgg,aF0,k2,aF6,E]
  cases hr
 cases hr
theorem gj {t:TypeId}{ti:TI}(h:tM P t ti) (F:ti.arr=false) {f oo:Nat}{u:Ty}(G:ti.ty.offs f=some oo) (K:ti.ty.fld f=some u) (I:0<u.cells) (b off:Nat):
  (Instr.fieldAt t (.pointer (some ⟨b,off,none⟩)) f).run P w= .ok (.pointer (some ⟨b,off+oo,none⟩)) w:=by
 obtain⟨fs,D,E⟩:=Lp h (a4s G) F;obtain⟨fd,k1,k2,k3,k4⟩:=gg E G K;obtain⟨i,hi,j⟩:=aFQ.1 k3;have k1':fs[f]? =some fd:=by simpa using k1
 have z: ¬(u.cells=0):=by omega
 simp only[Instr.fieldAt,aFM,aFX D,aFH,k1',Instr.sureAddr,aF0,fieldPlace,sizeOf,typeInfo,aGx,hi,j,aFA z,k2,aF6,aGP]
theorem a4v {t:TypeId}{x:Operand}{f:Nat}(ho:o.op= .fieldAddr t x f) {sx:qK}(E:rS g w sx (a.eval x)) {e:qY}(hr:ee f (rY T t) sx=some e):rN P o a g w H e:=by
 generalize K:rY T t=ot at hr;replace E:=E.1;unfold ee at hr;split at hr
 .rename_i ty el by' ls_ k n c i o' _;have D:=t7 hT K;generalize I:ty.offs f=o1 at hr;generalize G:ty.fld f=o2 at hr;unfold Kl at hr;split at hr
  .split at hr
   .rename_i oo u h;cases hr;obtain⟨b,cap,Z,U,R,F⟩:=E;refine rN.pure hH (v:= .pointer (some ⟨b,i.toNat*c+o'+oo,none⟩)) ?_ ⟨b,cap,Z,U,R,by rw[aGj]⟩;simp only[execOp,ho,F,aFM,gj hT hH D rfl I G h,aFH,aF0]
   cases hr
  cases hr
 .rename_i ty el by' ls_ u y _;split at hr
  .rename_i Y;subst Y;have D:=t7 hT K;generalize hp:u.proj y f=q at hr;cases q with
   |none=>cases hr
   |some q=>
    obtain⟨u,z⟩:=q;simp only[VV] at hr;split at hr
    .rename_i h;cases hr;obtain⟨b,off,cs,F,O,hS,V⟩:=E;obtain⟨oo,c1,c2,c3,I,G,rfl,rfl,X⟩:=ge V hp;refine rN.pure hH (v:= .pointer (some ⟨b,off+c1.length,none⟩)) ?_ ⟨b,off+c1.length,c2,rfl,fun j v M=>?_,fun j M=>?_,X⟩
     .simp only[execOp,ho,F,aFM,gj hT hH D rfl I G h,aFH,aF0]
     .have:=O (c1.length+j) v (by
       have Q:=(aFP.1 M).1;rw[aFO,aFJ pP,aGo,aFU Q];exact M)
      rw[aGj];exact this
     have:=hS (c1.length+j) (by
      have:=sZ V;have h6:=sZ X;simp only[aFD] at this;omega)
     rw[aGj];exact this
    cases hr
  cases hr
 .rename_i ty el by' ls_ i off _;have D:=t7 hT K;generalize I:ty.offs f=o1 at hr;generalize G:ty.fld f=o2 at hr;unfold VW at hr;split at hr
  .split at hr
   .rename_i oo u h;cases hr;obtain⟨p,hp,F⟩:=xW E;refine rN.pure hH (v:= .pointer (some ⟨p.1,p.2+off+oo,none⟩)) ?_ (.inr ⟨rfl,p,hp,by rw[aGj]⟩);simp only[execOp,ho,F,aFM,gj hT hH D rfl I G h,aFH,aF0]
   cases hr
  cases hr
 cases hr
theorem a4w {x:Operand}{i:Nat}(ho:o.op= .extract x i) {sx:qK}(D:rS g w sx (a.eval x)) {e:qY}(hr:ek i sx=some e) (E: ∀p∈e.side,p):rN P o a g w H e:=by
 replace D:=D.1;unfold ek at hr;split at hr
 rotate_left
 .rename_i b p c _;have run: ∀(v:q9) (vs:Array q9),a.eval x= .tuple vs->vs[i]? =some v->(execOp a.eval o).run P w= .ok (.value v) w:=by
   intro v vs z j;simp [execOp,ho,z,Instr.extract,j]
  obtain⟨z,j⟩:=D;unfold Km at hr;split at hr
  .cases hr;cases b with
   |true=>exact rN.pure hH (run (.bool true) _ (z rfl) rfl) (vU _ _ _)
   |false=>exact rN.pure hH (run (.bool false) _ (j rfl) rfl) (vU _ _ _)
  .cases hr;have hb:=E (b=true) pR;exact rN.pure hH (run (.int .i64 p) _ (z hb) rfl) (wI _ _ _ _)
  .cases hr;have hb:=E (b=true) pR;exact rN.pure hH (run (.int .i32 c) _ (z hb) rfl) (wI _ _ _ _)
  cases hr
 rotate_left
 .rename_i l _;obtain⟨vs,F,hl⟩:=D;have key: ∀(l:List ((Σ t:Ty,t.den)×pY)) (vs:pW) (i:Nat),JT g w l vs->VX l i=some e->∃v,vs[i]? =some v/\rS g w e.slot v/\e.upd=[]/\e.rds=[]:=by
   intro l
   induction l with
   |nil=>intro vs i _ h;cases i<;>cases h
   |cons q l ih=>
    obtain⟨⟨t,x⟩,k⟩:=q;rintro vs i ⟨v,vs',rfl,r1,r2,r3⟩ h;cases i with
    |zero=>
     simp only[VX,aFy] at h;subst h;refine⟨v,rfl,?_,rfl,rfl⟩;have gen:rS g w (.val t x,k) v:=⟨r1,by
      cases k with
      |none=>trivial
      |some k=>exact r2⟩
     cases t with
     |rl e u=>
      cases x with
      |none=>exact⟨r1,trivial⟩
      |some q=>
       obtain⟨k',n⟩:=q;obtain⟨v',z,j,h3⟩:=xV rfl r1;simp only[aGm,and_true] at j;subst j;exact⟨⟨z,h3⟩,trivial⟩
     |_=>exact gen
    |succ i=>
     obtain⟨v',z,j,h3,h4⟩:=ih vs' i r3 h;exact⟨v',by simpa using z,j,h3,h4⟩
  obtain⟨v,z,j,h3,h4⟩:=key l vs i hl hr;obtain⟨side,slot,upd,rds⟩:=e;simp only at j h3 h4;subst h3;refine rN.value (v:=v) (g':=g) (w':=w) ?_ (.pure hH j);have:vs.toArray[i]? =some v:=by simpa using z
  simp [execOp,ho,F,Instr.extract,this]
 cases hr
theorem a4x {x:Operand}(ho:o.op= .nilCheck x) {sx:qK}(z:rS g w sx (a.eval x)) {e:qY}(hr:ec sx=some e):rN P o a g w H e:=by
 replace z:=z.1;unfold ec at hr;split at hr
 .rename_i p _;obtain⟨i,off⟩:=p;cases hr;obtain⟨p,hp,j⟩:=xW z;refine rN.pure hH (v:=a.eval x) ?_ z;simp [execOp,ho,j]
 .cases hr;obtain⟨b,off,cs,j,h⟩:=z;refine rN.pure hH (v:=a.eval x) ?_ ⟨b,off,cs,j,h⟩;simp [execOp,ho,j]
 .cases hr;obtain⟨b,cap,E,D,h3,j⟩:=z;refine rN.pure hH (v:=a.eval x) ?_ ⟨b,cap,E,D,h3,j⟩;simp [execOp,ho,j]
 cases hr
theorem a4y {t:TypeId}{x ix:Operand}(ho:o.op= .index t x ix) {sx si:qK}(D:rS g w sx (a.eval x)) (hi:rS g w si (a.eval ix)) {e:qY}(hr:ej (rY T t) sx si=some e) (I: ∀p∈e.side,p):rN P o a g w H e:=by
 generalize hst:rY T t=ot at hr;replace D:=D.1;replace hi:=hi.1;unfold ej at hr;split at hr
 .rename_i _ _ _ _ l _ k i _;cases hr;have hb:=I _ (aFR.2 rfl);have F:=(t7 hT hst).2;simp only[xT] at F;have G:=wX D;have E:=wD hi;have j:(Int.toNat i)<List.length l:=xX hb.1 hb.2;refine rN.pure hH (v:= .int .u8 (sE l i)) ?_ (wI _ _ _ _);have z:(if (0:Int)<=i then(⟨List.toArray l⟩:ByteArray)[Int.toNat i]? else none)=some (l[Int.toNat i]):=by
   rw[aFz hb.1];exact a4t l _ j
  have h:sE l i=((l[Int.toNat i]).toNat:Int):=by
   unfold sE;rw[aFV,aFG j];rfl
  simp only[execOp,ho,G,E,Instr.index,asIntOf,aFM,aF0,aFH,aFX F,z,h]
 cases hr
theorem a4z {t:TypeId}{x ix:Operand}(ho:o.op= .indexAddr t x ix) {sx si:qK}(Q:rS g w sx (a.eval x)) (hi:rS g w si (a.eval ix)) {e:qY}(hr:eh (rY T t) sx si=some e) (V: ∀p∈e.side,p):rN P o a g w H e:=by
 generalize hst:rY T t=ot at hr;replace Q:=Q.1;replace hi:=hi.1;unfold eh at hr;split at hr
 .rename_i t' el by' ar ls_ k n _ k' i _;split at hr
  .rename_i I;cases hr;have hb:=V _ (aFR.2 rfl);obtain⟨K,h3,_⟩:=(t7 hT hst).2;obtain⟨ei,D,G⟩:=aFQ.1 h3;simp only[aF3] at G;have h:=wD hi;obtain⟨hc,F⟩:=Q;rcases F with⟨_,rfl⟩ |⟨b,cap,F,ht⟩
   .exact absurd (Int.lt_of_le_of_lt hb.1 hb.2) (Int.lt_irrefl 0)
   refine rN.pure hH (v:= .pointer (some ⟨b,0+Int.toNat i*t'.cells,none⟩)) ?_ ⟨b,cap,by rw[<-F];exact hc,hb.1,hb.2,by rw[aF6,aGK]⟩;simp only[execOp,ho,F,h,Instr.indexAt,asIntOf,aFM,aF0,aFH,aFX K,sizeOf,typeInfo,aGx,D,G.1,aFz hb,aGP]
  cases hr
 .rename_i t' el by' ar ls_ t1 l _ k i _;split at hr
  .rename_i hd;subst hd;cases hr;have hb:=V _ (aFR.2 rfl);obtain⟨K,h3,_⟩:=(t7 hT hst).2;obtain⟨ei,D,G⟩:=aFQ.1 h3;simp only[aF3] at G;have h:=wD hi;obtain⟨ad,cap,F,hy,hl⟩:=ER Q;have R:(Int.toNat i)<List.length l:=xX hb.1 hb.2;rcases hl with rfl|⟨b,off,rfl,hL⟩
   .simp at R
   have U:l[Int.toNat i]? =some (qR t1 l i):=by
    unfold qR;rw[aFV,aFG R];rfl
   obtain⟨cs,hA,hn,hk,hh⟩:=MJ hL U;refine rN.pure hH (v:= .pointer (some ⟨b,off+Int.toNat i*t1.cells,none⟩)) ?_ ⟨b,_,cs,rfl,hn,hk,hh⟩;simp only[execOp,ho,F,h,Instr.indexAt,asIntOf,aFM,aF0,aFH,aFX K,sizeOf,typeInfo,aGx,D,G.1,aFz hb,aGP]
  cases hr
 .rename_i s u el by' ls_ i off _ k n _;have M:=t7 hT hst;generalize Z:(Ty.pair s u).offs (Int.toNat n)=o1 at hr;generalize K:(Ty.pair s u).fld (Int.toNat n)=o2 at hr;unfold VW at hr;split at hr
  .split at hr
   .rename_i oo v I;cases hr;have E:=V _ (aFR.2 rfl);obtain⟨p,hp,F⟩:=xW Q;have h:=wD hi;obtain⟨len,el',X,O,_⟩:=Lq M rfl rfl;obtain⟨k1,k2,k3,k4⟩:=gh O Z K;obtain⟨ei,D,G⟩:=aFQ.1 k2;have hb:(0:Int)<=n/\(n:Int)<(len:Int):=⟨E,Lr E k1⟩;refine rN.pure hH (v:= .pointer (some ⟨p.1,p.2+off+oo,none⟩)) ?_ (.inr ⟨rfl,p,hp,by rw[aGj]⟩);simp only[execOp,ho,F,h,Instr.indexAt,Instr.sureAddr,asIntOf,aFM,aF0,aFH,aFX X,sizeOf,typeInfo,aGx,D,G,aFz hb,aGP,k4]
   cases hr
  cases hr
 .rename_i s u el by' ls_ u' y _ k n _;split at hr
  .rename_i ha;subst ha;have M:=t7 hT hst;generalize hp:(Ty.pair s u).proj y (Int.toNat n)=q at hr;cases q with
   |none=>cases hr
   |some q=>
    obtain⟨v,z⟩:=q;simp only[VV] at hr;split at hr
    .rename_i I;cases hr;have E:=V _ (aFR.2 rfl);obtain⟨b,off,cs,F,he,hS,hR⟩:=Q;have h:=wD hi;obtain⟨oo,c1,c2,c3,Z,K,rfl,rfl,h5⟩:=ge hR hp;obtain⟨len,el',X,O,_⟩:=Lq M rfl rfl;obtain⟨k1,k2,k3,k4⟩:=gh O Z K;obtain⟨ei,D,G⟩:=aFQ.1 k2;have hb:(0:Int)<=n/\(n:Int)<(len:Int):=⟨E,Lr E k1⟩;refine rN.pure hH (v:= .pointer (some ⟨b,off+c1.length,none⟩)) ?_ ⟨b,off+c1.length,c2,rfl,fun j v Y=>?_,fun j Y=>?_,h5⟩
     .simp only[execOp,ho,F,h,Instr.indexAt,Instr.sureAddr,asIntOf,aFM,aF0,aFH,aFX X,sizeOf,typeInfo,aGx,D,G,aFz hb,aGP,<-k4]
     .have:=he (c1.length+j) v (by
       have hg:=(aFP.1 Y).1;rw[aFO,aFJ pP,aGo,aFU hg];exact Y)
      rw[aGj];exact this
     have:=hS (c1.length+j) (by
      have:=sZ hR;have h6:=sZ h5;simp only[aFD] at this;omega)
     rw[aGj];exact this
    cases hr
  cases hr
 cases hr
end
theorem Ls (off:Nat): ∀(vl:pW) (k:Nat) (cs:Array q9) (c1 c2 c3:pW),cs.toList=c1++c2++c3->c1.length=off+k->c2.length=vl.length->
  ((vl.zipIdx k).foldl (fun(cs:Array q9) (p:q9×Nat)=>cs.setIfInBounds (off+p.2) p.1) cs).toList=c1++vl++c3
 |[],_,cs,c1,c2,c3,h,_,j=>by
  have:c2=[]:=aF4 (by simpa using j);subst this;simpa using h
 |v::vl,k,cs,c1,c2,c3,h,z,j=>by
  cases c2 with
  |nil=>simp at j
  |cons u c2=>
   simp only[List.zipIdx_cons,List.foldl_cons];have:=Ls off vl (k+1) (cs.setIfInBounds (off+k) v) (c1++[v]) c2 c3 (by
    rw[Array.toList_setIfInBounds,h,<-z];simp) pS (by simpa using j)
   rw[this];simp
theorem a4A (off:Nat) (vs cs:Array q9) (c1 c2 c3:pW) (h:cs.toList=c1++c2++c3) (D:c1.length=off) (z:c2.length=vs.size):
  (vs.zipIdx.foldl (fun(cs:Array q9) (x:q9×Nat)=>match x with|(c,j)=>cs.setIfInBounds (off+j) c) cs).toList=c1++vs.toList++c3:=by
 rw[<-aHE,Array.toList_zipIdx];exact Ls off vs.toList 0 cs c1 c2 c3 h pP (by simpa using z)
theorem Lt {place:Nat->pX}{cells:Array q9}{i:Nat}{v:q9}{rest:List (Nat×q9)}{off size:Nat}{c1 c2 c3:pW}(hp:place i=some (off,size)) (j:v.cells.size=size)
  (h:cells.toList=c1++c2++c3) (z:c1.length=off) (E:c2.length=size):
  Instr.fill place cells ((i,v)::rest)=Instr.fill place (c1++v.cells.toList++c3).toArray rest:=by
 have D:cells.size=c1.length+c2.length+c3.length:=by rw[<-aGv,h];simp;omega
 simp only[Instr.fill,hp];rw[aFA (by simp [j];omega)];congr 1;apply aGL.1;rw[a4A off v.cells cells c1 c2 c3 h z pP]
theorem gl {k:Nat}: ∀{t:Ty}{o:Nat}{cs:pW},LU t=false->cs.length=t.cells->yH k t o cs
 | .bool,_,_,_,_=>trivial
 | .int _,_,_,_,_=>trivial
 | .str,_,_,_,_=>trivial
 | .unit,_,_,_,_=>trivial
 | .ref,_,_,_,_=>trivial
 | .clo,_,_,_,_=>trivial
 | .mp,_,_,_,_=>trivial
 | .rl _ _,_,_,_,_=>trivial
 | .fn,_,_,_,_=>trivial
 | .mref,_,_,_,_=>trivial
 | .ap,_,_,_,_=>trivial
 | .list _,_,_,h,_=>by simp [LU] at h
 | .pair a b,_,cs,h,hl=>by
  simp only[LU,aGV] at h;simp only[Ty.cells] at hl;exact⟨cs.take a.cells,cs.drop a.cells,by simp,by rw[aGh];omega,gl h.1 (by rw[aGh];omega),gl h.2 (by rw[aGa];omega)⟩
theorem gm: ∀t:Ty,(uI t).length=t.cells
 | .bool=>rfl
 | .int _=>rfl
 | .str=>rfl
 | .unit=>rfl
 | .ref=>rfl
 | .clo=>rfl
 | .mp=>rfl
 | .rl _ _=>rfl
 | .fn=>rfl
 | .mref=>rfl
 | .ap=>rfl
 | .list _=>rfl
 | .pair a b=>by simp only[uI,aFD,gm a,gm b,Ty.cells]
theorem WU {k:Nat}: ∀(t:Ty) (o:Nat),yH k t o (uI t)
 | .bool,_=>trivial
 | .int _,_=>trivial
 | .str,_=>trivial
 | .unit,_=>trivial
 | .ref,_=>trivial
 | .clo,_=>trivial
 | .mp,_=>trivial
 | .rl _ _,_=>trivial
 | .fn,_=>trivial
 | .mref,_=>trivial
 | .ap,_=>trivial
 | .list _,_=> .inr rfl
 | .pair a b,_=>⟨uI a,uI b,rfl,gm a,WU a _,WU b _⟩
theorem Lu {g:Gh}{w:q8}{k:Nat}: ∀{t:Ty}{x:t.den}{cs:pW}{off o:Nat},yH k t off cs->Rd g w t x cs->G1 t o=true->off+o+1≠k->∃(u:Ty),rE (.list u) t x o=some []/\cs[o]? =some (.slice none 0 0):=by
 intro t
 induction t with
 |pair a b iha ihb=>
  intro x cs off o z hr hl D;obtain⟨c1,c2,e,E,G,h3⟩:=z;obtain⟨d1,d2,e',r1,r2⟩:=hr;have F:c1=d1/\c2=d2:=aHh (e.symm.trans e') (by rw[E,sZ r1]);obtain⟨rfl,rfl⟩:=F;have key: ∀(u:Ty) q,rE (.list u) (.pair a b) x q=if q<a.cells then rE (.list u) a x.1 q else rE (.list u) b x.2 (q-a.cells):=by
   intro u q;cases q with
   |zero=>
    conv=>lhs;unfold rE
    rw[aG3 (by intro e;cases e),Nat.zero_sub]
   |succ q=>simp [rE]
  have h:(if o<a.cells then G1 a o else G1 b (o-a.cells))=true:=by
   cases o<;>simpa[G1] using hl
  by_cases ho:o<a.cells
  .rw[aFz ho] at h;obtain⟨u,k1,k2⟩:=iha G r1 h D;exact⟨u,by rw[key,aFz ho];exact k1,by rw[e,aFU pP];exact k2⟩
  .rw[aFA ho] at h;obtain⟨u,k1,k2⟩:=ihb h3 r2 h pP;exact⟨u,by rw[key,aFA ho];exact k1,by rw[e,aFJ pP,E];exact k2⟩
 |list u=>
  intro x cs off o z hr hl D;cases o with
  |succ o=>simp [G1] at hl
  |zero=>
   obtain⟨a,cap,e,_,_⟩:=hr;have j:cs=[.slice none 0 0]:=z.resolve_left (by simpa using D);rw[j] at e;simp only[aGm,aHg,and_true] at e;have:(x:List u.den)=[]:=aF4 e.2.1.symm;subst this;exact⟨u,by unfold rE;simp [uG],by rw[j];rfl⟩
 |_=>intro x cs off o z hr hl;cases o<;>simp [G1] at hl
theorem a4B {g:Gh}{w:q8}{u:Ty}{y:u.den}{cy:pW}(D:Rd g w u y cy): ∀{t:Ty}{x z:t.den}{cs:pW}{f:Nat},Rd g w t x cs->Ty.setPart u y t x f=some z->
  ∃o c1 c2 c3,t.offs f=some o/\t.fld f=some u/\cs=c1++c2++c3/\c1.length=o/\c2.length=u.cells/\Rd g w t z (c1++cy++c3)/\(∀k off,yH k t off cs->yH k u (off+o) cy->yH k t off (c1++cy++c3)):=by
 intro t
 induction t with
 |pair a b _ ihb=>
  intro x z cs f r h;obtain⟨c1,c2,e,r1,r2⟩:=r;cases f with
  |zero=>
   simp only[Ty.setPart] at h;split at h
   .rename_i E;subst E;simp only[uG,aFy] at h;subst h;refine⟨0,[],c1,c2,rfl,rfl,by simpa using e,rfl,sZ r1,⟨cy,c2,by simp,D,r2⟩,fun k off ⟨d1,d2,e',k1,_,k3⟩ j=>?_⟩;obtain⟨rfl,rfl⟩:=aHh (e'.symm.trans e) (by rw[k1,sZ r1]);exact⟨cy,d2,by simp,sZ D,j,k3⟩
   .cases h
  |succ f=>
   simp only[Ty.setPart,aFQ] at h;obtain⟨q,hq,rfl⟩:=h;obtain⟨o,d1,d2,d3,M,K,h3,h4,I,G,F⟩:=ihb r2 hq;refine⟨a.cells+o,c1++d1,d2,d3,by simp [Ty.offs,M],by simpa[Ty.fld] using K,by rw[e,h3];simp,?_,I,⟨c1,d1++cy++d3,by simp,r1,G⟩,fun k off ⟨k1,k2,e',k3,k4,k5⟩ j=>by
    obtain⟨rfl,rfl⟩:=aHh (e'.symm.trans e) (by rw[k3,sZ r1]);exact⟨k1,d1++cy++d3,by simp,k3,k4,F k _ k5 (by rw[aGj];exact j)⟩⟩
   rw[aFD,h4,sZ r1]
 |_=>intro x z cs f r h;cases f<;>simp [Ty.setPart] at h
theorem gn {g:Gh}{w:q8}{t:Ty}{ev:Operand->q9}{ρ:Operand->qK}{place:Nat->pX}(hp: ∀f o u,t.offs f=some o->t.fld f=some u->place f=some (o,u.cells)):
  ∀(ps:List (Nat×Operand)) (x z:t.den) (cs:pW),Rd g w t x cs->(∀q∈ps,rS g w (ρ q.2) (ev q.2))->B7 t (some x) (uM ρ ps)=some z->
  ∃cs',Instr.fill place cs.toArray (ps.map fun q=>(q.1,ev q.2))=some cs'.toArray/\Rd g w t z cs'/\(∀m k,B8 t (uM ρ ps)=some m->m=0\/m=k->yH k t 0 cs->yH k t 0 cs')
 |[],x,z,cs,r,_,h=>by
  simp only[uM,B7,aFy] at h;subst h;exact⟨cs,rfl,r,fun _ _ _ _ h=>h⟩
 |(i,q)::ps,x,z,cs,r,hq,h=>by
  have h0:=hq (i,q) pR;have step: ∀{u:Ty}{y:u.den}{z1:t.den},tD g w u y (ev q)->Ty.setPart u y t x i=some z1->B7 t (some z1) (uM ρ ps)=some z->(∀m k,B8 t (uM ρ ((i,q)::ps))=some m->m=0\/m=k->(∀o,t.offs i=some o->yH k u o (ev q).cells.toList)/\∃m',B8 t (uM ρ ps)=some m'/\(m'=0\/m'=k))->
    ∃cs',Instr.fill place cs.toArray (((i,q)::ps).map fun q=>(q.1,ev q.2))=some cs'.toArray/\Rd g w t z cs'/\(∀m k,B8 t (uM ρ ((i,q)::ps))=some m->m=0\/m=k->yH k t 0 cs->yH k t 0 cs'):=by
   intro u y z1 V D h F;obtain⟨o,c1,c2,c3,X,h2,rfl,h4,h5,h6,Z⟩:=a4B (G9 V) r D;obtain⟨cs',hf,hr,Y⟩:=gn hp ps z1 z _ h6 (fun q O=>hq q (by simp [O])) h;refine⟨cs',?_,hr,fun m k j hm U=>?_⟩
   rotate_left
   .obtain⟨q1,m',q2,q3⟩:=F m k j hm;exact Y m' k q2 q3 (Z k 0 U (by rw[aF6];exact q1 o X))
   simp only[aGB];rw[Lt (hp i o u X h2) (by have:=sZ (G9 V);simpa using this) (c1:=c1) (c2:=c2) (c3:=c3) pR h4 h5];exact hf
  generalize M:ρ q=s at h0;simp only[uM,M] at h;obtain⟨d,k⟩:=s;cases d with
  |val u y=>
   simp only[B7] at h;generalize D:Ty.setPart u y t x i=o1 at h;cases o1 with
   |none=>cases ps with
    |nil=>simp [uM,B7] at h
    |cons p ps=>simp [uM,B7] at h
   |some z1=>
    have F: ∀m k,B8 t (uM ρ ((i,q)::ps))=some m->m=0\/m=k->(∀o,t.offs i=some o->yH k u o (ev q).cells.toList)/\∃m',B8 t (uM ρ ps)=some m'/\(m'=0\/m'=k):=by
     intro m k j hm;simp only[uM,M,B8] at j;cases K:LU u with
     |false=>
      rw[K] at j;simp only[VD] at j;exact⟨fun o _=>gl K (sZ (G9 h0.1)),m,j,hm⟩
     |true=>
      rw[K] at j;cases E:db u with
      |false=>rw[E] at j;simp [VD] at j
      |true=>
       rw[E] at j;simp only[VD] at j;cases ho:t.offs i with
       |none=>rw[ho] at j;simp [VC] at j
       |some o=>
        rw[ho] at j;cases G:B8 t (uM ρ ps) with
        |none=>rw[G] at j;simp [VC] at j
        |some m'=>
         rw[G] at j;simp only[VC] at j;split at j
         .rename_i R;subst R;simp only[aFy] at j;refine⟨fun o' Q=>?_,0,rfl,.inl rfl⟩;obtain rfl:=aFE Q;cases u with
          |list u=>exact .inl pP
          |_=>simp [db] at E
         cases j
    obtain⟨cs',k1,k2,k3⟩:=step h0.1 D h F;exact⟨cs',k1,k2,k3⟩
  |nilS=>
   simp only[B7] at h;generalize ha:t.fld i=fl at h;cases fl with
   |none=>cases ps<;>simp [UY,uM,B7] at h
   |some u=>
    cases u with
    |list u=>
     simp only[UY] at h;generalize D:Ty.setPart (.list u) [] t x i=o1 at h;cases o1 with
     |none=>cases ps<;>simp [uM,B7] at h
     |some z1=>
      have I:ev q= .slice none 0 0:=h0.1;refine step (u:= .list u) (y:=[]) ?_ D h (fun m k j hm=>?_)
      .rw[I];exact .inr ⟨rfl,none,0,rfl,aFW _,.inl rfl⟩
      .simp only[uM,M,B8] at j;exact⟨fun o _=>by rw[I];exact .inr rfl,m,j,hm⟩
    |_=>cases ps<;>simp [UY,uM,B7] at h
  |_=>simp [B7] at h
section
variable {P:Program}{o:Oper}{a:Act}{g:Gh}{w:q8}{H:sF}{T:sW}(hT:xU P T) (hH:sK g w H)
include hT hH
theorem Lv {P:Program}(w:q8): ∀(fs:List Field),(∀f∈fs,∃n,(P.info? f.type).map (·.size)=some n)->
  (fs.mapM (fun f=>do pure (f.offset,<-sizeOf f.type):Field->Sem (Nat×Nat))).run P w= .ok (fs.map fun f=>(f.offset,((P.info? f.type).map (·.size)).getD 0)) w
 |[],_=>rfl
 |f::fs,h=>by
  obtain⟨n,j⟩:=h f pR;obtain⟨i,hi,z⟩:=aFQ.1 j;rw[List.mapM_cons];simp only[aFM,sizeOf,typeInfo,aGx,hi,aFH,aF0];have:=Lv w fs (fun f hf=>h f (by simp [hf]));simp only[sizeOf,typeInfo,aFM,aGx] at this;rw[this];simp [hi]
theorem a4C {P:Program}: ∀{ty:Ty}{off:Nat}{fs:List Field},P2 P ty off fs->∀f∈fs,∃n,(P.info? f.type).map (·.size)=some n:=by
 intro ty
 induction ty with
 |pair a b _ ihb=>
  intro off fs h f hf;cases fs with
  |nil=>cases hf
  |cons fd fs=>
   obtain⟨_,j,_,h4⟩:=h;rcases aFN.1 hf with rfl|hf
   .exact⟨_,j⟩
   .exact ihb h4 f hf
 |unit=>intro off fs h f hf;cases fs with|nil=>cases hf|cons=>exact h.elim
 |_=>intro off fs h f hf;cases fs<;>exact h.elim
omit hT hH in
theorem Lw {t:Ty}{x:t.den}{cs:pW}{ps:List (Nat×qK)}(h: ∀m k,B8 t ps=some m->m=0\/m=k->yH k t 0 (uI t)->yH k t 0 cs):match ((DV.val t x,dc t (B8 t ps)):qK) with
  |(_,none)=>True
  |(.val t x,some k)=>DW g t x (.agg cs.toArray) (some k)
  |(_,some _)=>False:=by
 cases hp:B8 t ps with
 |none=>cases t<;>trivial
 |some m=>
  cases t with
  |pair a b=>
   have:=h m m hp (.inr rfl) (WU _ _);simpa[dc,DW,Value.cells] using this
  |_=>trivial
omit hT in
theorem rN.pureS {s:qK}{v:q9}(hr:(execOp a.eval o).run P w= .ok (.value v) w) (h:rS g w s v):rN P o a g w H ⟨[],s,[],[]⟩:=
 rN.value hr (.pure hH h)
theorem a4D {t:TypeId}{ps:Array (Nat×Operand)}(ho:o.op= .build t ps) {ρ:Operand->qK}(hρ: ∀q∈ps.toList,rS g w (ρ q.2) (a.eval q.2)) {e:qY}(hr:de (uM ρ ps.toList) (rY T t)=some e):rN P o a g w H e:=by
 generalize hs:rY T t=ot at hr;cases ot with
 |none=>cases hr
 |some ti=>
  have F:=t7 hT hs;simp only[de] at hr;by_cases h:ti.ty.isRow=true
  case neg=>rw[aFA h] at hr;cases hr
  rw[aFz h] at hr;generalize hb:B7 ti.ty (some ti.ty.zero) (uM ρ ps.toList)=ox at hr;cases ox with
  |none=>cases hr
  |some x=>
   cases hr;obtain⟨i,hi,ha,hz⟩:=ES F;have R:yI ti.ty= .agg (uI ti.ty).toArray:=by unfold yI;rw[aFz h]
   have E: ∀w,(zeroValue t).run P w= .ok (.agg (uI ti.ty).toArray) w:=by
    intro w;simp [zeroValue,typeInfo,hi,hz,R]
   have z:(ps.map fun(q:Nat×Operand)=>(q.1,a.eval q.2)).toList=ps.toList.map fun q=>(q.1,a.eval q.2):=by simp
   rcases gi F h with⟨Z,fs,X,G⟩ |⟨Z,n,el,hu,Y,D⟩
   .have U:=Lv (P:=P) hT hH w fs.toList (a4C hT hH G);obtain⟨cs',hf,K,M⟩:=gn (g:=g) (w:=w) (ev:=a.eval) (ρ:=ρ) (t:=ti.ty) (place:=fun j=>((fs.map fun f=>(f.offset,((P.info? f.type).map (·.size)).getD 0))[j]?)) (fun f oo u Q O=>by
     obtain⟨fd,k1,k2,k3,_⟩:=gg G Q O;have k1':fs[f]? =some fd:=by simpa using k1
     simp [k1',k2,k3]) ps.toList ti.ty.zero x (uI ti.ty) (EQ g w ti.ty) hρ hb
    refine rN.pureS hH (v:= .agg cs'.toArray) ?_ ⟨.inl ⟨h,cs',rfl,K⟩,Lw M⟩;have V:(fs.mapM (fun f=>do pure (f.offset,<-sizeOf f.type):Field->Sem (Nat×Nat))).run P w= .ok (fs.map fun f=>(f.offset,((P.info? f.type).map (·.size)).getD 0)) w:=by
     rw[Array.mapM_eq_mapM_toList,Sem.run_map,U];simp only[aFH];congr 1;apply aGL.1;simp
    simp only[execOp,ho,Instr.build,aFM,E,aFH,aFX X,V,Value.cells];rw[z,hf];rfl
   obtain⟨cs',hf,K,M⟩:=gn (g:=g) (w:=w) (ev:=a.eval) (ρ:=ρ) (t:=ti.ty) (place:=fun j=>some (j*((P.info? el).map (·.size)).getD 0,((P.info? el).map (·.size)).getD 0)) (fun f oo u Q O=>by
    obtain⟨k1,k2,k3,k4⟩:=gh Y Q O;simp [k2,k4]) ps.toList ti.ty.zero x (uI ti.ty) (EQ g w ti.ty) hρ hb
   refine rN.pureS hH (v:= .agg cs'.toArray) ?_ ⟨.inl ⟨h,cs',rfl,K⟩,Lw M⟩;obtain⟨ei,I⟩:=aFB.1 D;simp only[I,Option.map_some,aHF] at hf;simp only[execOp,ho,Instr.build,aFM,E,aFH,aFX hu,sizeOf,typeInfo,aGx,I,aF0,Value.cells];rw[z,hf];rfl
theorem gp {ρ:Operand->qK}{ev:Operand->q9}: ∀{xs:List Operand}{ss:List qK},(∀x∈xs,rS g w (ρ x) (ev x))->vY ρ xs=ss->∃vs,xs.map ev=vs/\vs.length=ss.length/\∀(i:Nat) (s:qK) (v:q9),ss[i]? =some s->vs[i]? =some v->rS g w s v
 |[],_,_,h=>⟨[],rfl,by rw[<-h];rfl,fun i s v _ j=>by simp at j⟩
 |x::xs,ss,D,h=>by
  subst h;obtain⟨vs,G,F,h3⟩:=gp (fun y E=>D y (by simp [E])) rfl (xs:=xs);refine⟨ev x::vs,by simp [G],by simp [vY,F],fun i s v z j=>?_⟩;cases i with
  |zero=>
   simp only[vY,aF8,aFy] at z j;subst z;subst j;exact D x pR
  |succ i=>
   simp only[vY,aGk] at z j;exact h3 i s v z j
theorem WV {ρ:Operand->qK}{ev:Operand->q9}{args:Array Operand}{s:qK}(hρ: ∀x∈args.toList,rS g w (ρ x) (ev x)) (h:vY ρ args.toList=[s]): ∃v,args.map ev= #[v]/\rS g w s v:=by
 obtain⟨vs,z,j,h3⟩:=gp hT hH hρ h;obtain⟨v,rfl⟩:=aGS.1 j;exact⟨v,by apply aGL.1;simpa using z,h3 0 s v rfl rfl⟩
theorem WW {ρ:Operand->qK}{ev:Operand->q9}{args:Array Operand}{s t:qK}(hρ: ∀x∈args.toList,rS g w (ρ x) (ev x)) (h:vY ρ args.toList=[s,t]): ∃v u,args.map ev= #[v,u]/\rS g w s v/\rS g w t u:=by
 obtain⟨vs,z,j,h3⟩:=gp hT hH hρ h
 match vs,j with
 |[v,u],_=>exact⟨v,u,by apply aGL.1;simpa using z,h3 0 s v rfl rfl,h3 1 t u rfl rfl⟩
theorem HU {b:Builtin}{args:Array Operand}{tys:Array TypeId}(ho:o.op= .call ⟨.builtin b,args,tys⟩):
  ∃cs,execOp a.eval o=builtin b tys o.type cs (args.map a.eval):=by
 refine⟨args.map fun| .const _=>true|_=>false,?_⟩
 unfold execOp;rw[ho];rfl
theorem a4E (x y:Int):(if y<x then y else x)=min x y:=by rw[Int.min_def];split<;>split<;>omega
theorem a4F (x y:Int):(if y>x then y else x)=max x y:=by rw[Int.max_def];split<;>split<;>omega
theorem a4G {args:Array Operand}{tys:Array TypeId}(ho:o.op= .call ⟨.builtin .len,args,tys⟩) {ρ:Operand->qK}(hρ: ∀x∈args.toList,rS g w (ρ x) (a.eval x)) {e:qY}
  (hr:W7 T H (vY ρ args.toList) tys.toList=some e):rN P o a g w H e:=by
 obtain⟨t0,tr,K⟩: ∃t0 tr,tys.toList=t0::tr:=by cases h:tys.toList with|nil=>(rw[h] at hr;cases hr) |cons t r=>exact⟨t,r,rfl⟩
 have D:tys[0]? =some t0:=by rw[<-aGF,K];rfl
 rw[K] at hr;simp only[W7] at hr;generalize hst:rY T t0=ot at hr;generalize E:vY ρ args.toList=ss at hr;unfold eo at hr;split at hr
 .rename_i el fl ar ls_ i k;generalize hb:qO H i=ob at hr;unfold VY at hr;split at hr
  .rename_i kt vt l;cases hr;obtain⟨v,G,I⟩:=WV hT hH hρ E;have z:=(t7 hT hst).2;simp only[xT] at z;obtain⟨p,es,cl,hp,ha,V,X,hS⟩:=hH.blk i _ hb;obtain⟨p',M,R⟩: ∃p,g.J i=some p/\v= .map (some p.1):=by
    rcases I.1 with⟨Z,_⟩ |⟨_,p,h3,h4⟩
    .cases Z
    simp only[aGm,and_true] at h4;exact⟨p,h3,h4⟩
   rw[hp] at M;obtain rfl:=aFE M;have Q: ∀{l:List (kt.den×vt.den)}{es:List MapEntry},EP g w kt vt l es->es.length=l.length:=by
    intro l
    induction l with
    |nil=>intro es h;rw[show es=[] from h];rfl
    |cons q l ih=>intro es h;obtain⟨e,es',rfl,_,_,Y⟩:=h;simp [ih Y]
   refine rN.pure hH (v:= .int .i64 (List.length l:Int)) ?_ (wI _ _ _ _);obtain⟨cs,F⟩:=HU (a:=a) hT hH ho;rw[F,G,R];have j:(#[Value.map (some p.1)]:Array q9)[0]? =some (.map (some p.1)):=rfl;have O:(getObj p.1).run P w= .ok (.map es cl) w:=by simp [getObj,Sem.run,V]
   simp only[builtin,Builtin.len_,D,j,aFM,aFX z,aFH,aF0,goInt,O];rw[<-Q X,aGv]
  cases hr
 .rename_i el by' ar ls_ l k;cases hr;obtain⟨v,G,I⟩:=WV hT hH hρ E;have z:=(t7 hT hst).2;simp only[xT] at z;have U:=wX I.1;refine rN.pure hH (v:= .int .i64 (List.length l:Int)) ?_ (wI _ _ _ _);subst U;obtain⟨cs,F⟩:=HU (a:=a) hT hH ho;rw[F,G];have j:(#[Value.string ⟨List.toArray l⟩]:Array q9)[0]? =some (.string ⟨List.toArray l⟩):=rfl;simp only[builtin,Builtin.len_,D,j,aFM,aFX z,aFH,aF0,goInt];rfl
 .rename_i u el by' ar ls_ t l k;cases hr;obtain⟨v,G,I⟩:=WV hT hH hρ E;have z:=(t7 hT hst).2.1;obtain⟨ad,cap,rfl,_⟩:=ER I.1;refine rN.pure hH (v:= .int .i64 (List.length l:Int)) ?_ (wI _ _ _ _);obtain⟨cs,F⟩:=HU (a:=a) hT hH ho;rw[F,G];have j:(#[Value.slice ad (List.length l) cap]:Array q9)[0]? =some (.slice ad (List.length l) cap):=rfl;simp only[builtin,Builtin.len_,D,j,aFM,aFX z,aFH,aF0,goInt]
 .rename_i u el by' ar ls_ ko n k;cases hr;obtain⟨v,G,I⟩:=WV hT hH hρ E;have z:=(t7 hT hst).2.1;obtain⟨ad,cap,rfl⟩: ∃ad cap,v= .slice ad n cap:=by
   rcases I.1.2 with⟨h,rfl⟩ |⟨b,cap,h,_⟩
   .exact⟨_,_,h⟩
   exact⟨_,_,h⟩
  refine rN.pure hH (v:= .int .i64 (n:Int)) ?_ (wI _ _ _ _);obtain⟨cs,F⟩:=HU (a:=a) hT hH ho;rw[F,G];have j:(#[Value.slice ad n cap]:Array q9)[0]? =some (.slice ad n cap):=rfl;simp only[builtin,Builtin.len_,D,j,aFM,aFX z,aFH,aF0,goInt]
 cases hr
theorem Lx {args:Array Operand}{tys:Array TypeId}{mx:Bool}(ho:o.op= .call ⟨.builtin (if mx then .max else .min),args,tys⟩) {ρ:Operand->qK}(hρ: ∀x∈args.toList,rS g w (ρ x) (a.eval x)) {e:qY}
  (hr:B6 (W5 mx (vY ρ args.toList))=some e):rN P o a g w H e:=by
 obtain⟨q,hq,rfl⟩:=JV hr;generalize j:vY ρ args.toList=ss at hq;unfold W5 at hq;split at hq
 .rename_i k x k1 k' y k2;split at hq
  .rename_i F;subst F;cases hq;obtain⟨v,u,E,D,z⟩:=WW hT hH hρ j;have e1:=wD D.1;have e2:=wD z.1;subst e1;subst e2;cases mx
   .refine rN.pure hH (v:= .int k (min (x:Int) y)) ?_ (wI _ _ _ _);obtain⟨cs,h⟩:=HU (a:=a) hT hH ho;rw[h,E];have:=a4E hT hH x y;simp [builtin,Builtin.min_,Builtin.min2,this]
   refine rN.pure hH (v:= .int k (max (x:Int) y)) ?_ (wI _ _ _ _);obtain⟨cs,h⟩:=HU (a:=a) hT hH ho;rw[h,E];have:=a4F hT hH x y;simp [builtin,Builtin.max_,Builtin.max2,this]
  cases hq
 cases hq
theorem a4H {f:FuncId}{caps:Array Operand}(ho:o.op= .makeFunc (.func f) #[] caps) {ρ:Operand->qK}(hρ: ∀x∈caps.toList,rS g w (ρ x) (a.eval x)) {e:qY}
  (hr:Kk f (LN (vY ρ caps.toList))=some e):rN P o a g w H e:=by
 generalize G:LN (vY ρ caps.toList)=oc at hr;cases oc with
 |none=>cases hr
 |some l=>
  cases hr;have key: ∀(xs:List Operand) (l:pU),(∀x∈xs,rS g w (ρ x) (a.eval x))->LN (vY ρ xs)=some l->yZ g l (xs.map a.eval):=by
   intro xs
   induction xs with
   |nil=>intro l _ h;simp only[vY,LN,aFy] at h;subst h;rfl
   |cons x xs ih=>
    intro l z h;have h0:=z x pR;generalize F:ρ x=s at h0;simp only[vY,F] at h;obtain⟨d,k⟩:=s;unfold LN at h;split at h
    .cases ‹_=[]›
    .rename_i p k r heq;simp only[aGm,aF3] at heq;obtain⟨⟨rfl,rfl⟩,rfl⟩:=heq;obtain⟨l',j,rfl⟩:=aFQ.1 h;obtain⟨i,off⟩:=p;obtain⟨p,hp,E⟩:=xW h0.1;exact⟨p,_,hp,by rw[aGB,E],ih l' (fun y D=>z y (by simp [D])) j⟩
    cases h
  refine rN.pure hH (v:= .func (.func f) #[] (caps.map a.eval)) ?_ (.inr ⟨rfl,caps.toList.map a.eval,key _ _ hρ G,by congr 2;apply aGL.1;simp⟩);simp [execOp,ho,Instr.makeFunc]
end
theorem gq {α:Type}{l:List α}{m n:Int}(h0:0≤m) (j:m≤n) (h:n≤(l.length:Int)):(sL l m n).length=n.toNat-m.toNat:=by
  unfold sL;rw[aGh,aGa];omega
theorem WX {α:Type}{R:α→pW→Prop}{c:Nat}: ∀{l:List α}{cs:pW}{i:Nat}{x:α},uD R c l cs→l[i]? =some x→∃c1 c2 c3,cs=c1++c2++c3∧c1.length=i*c∧c2.length=c∧R x c2
  | y::l,_,0,x,⟨c1,c2,e,j,z,h3⟩,h=>by
    simp only[aF8,aFy] at h;subst h;exact⟨[],c1,c2,by simpa using e,by simp,j,z⟩
  | y::l,_,i+1,x,⟨c1,c2,e,j,z,h3⟩,h=>by
    simp only[aGk] at h;obtain⟨d1,d2,d3,e1,e2,e3,e4⟩:=WX h3 h;exact⟨c1++d1,d2,d3,by rw[e,e1];simp,by rw[aFD,j,e2,aGO];omega,e3,e4⟩
theorem Ly {t:Ty}{l:List t.den}{i:Int}(h0:0≤i) (h:i.toNat<l.length):l[i.toNat]? =some (qR t l i):=by
  unfold qR;rw[aFV,aFG h];rfl
theorem JW {α:Type}{R:α→pW→Prop}{w:q8}{S:Nat→Nat→Prop}{c b:Nat}: ∀{l:List α}{o:Nat}{cs:pW},uD R c l cs→w.rangeAt b o cs→(∀j,j<l.length*c→S b (o+j))→yY R w S c b o l
  |[],_,_,_,_,_=>trivial
  | x::l,o,cs,⟨c1,c2,e,D,F,h3⟩,hr,z=>by
    subst e;refine⟨⟨c1,D,fun j v h=>hr j v (by rw[aFU (aFP.1 h).1];exact h),fun j E=>z j (by rw[aFF,aGO];omega),F⟩,JW h3 (fun j v h=>?_) (fun j E=>?_)⟩
    · have:=hr (c+j) v (by rw[aFJ pP,D,aGo];exact h)
      rwa [←aGj] at this
    have:=z (c+j) (by rw[aFF,aGO];omega)
    rwa [←aGj] at this
theorem gr {u0:Ty}{l:List u0.den}: ∀{t:Ty}{x:t.den}{q: Σ t:Ty,t.den},AE u0 l t x=some q→q.1.cells=t.cells:=by
  intro t
  induction t with
  | rl e u=>
    intro x q h;cases x with
    |none=>cases h
    | some p=>
      simp only[AE,di] at h;split at h
      .cases h;rfl
      .cases h
  | pair a b iha ihb=>
    intro x q h;simp only[AE] at h;cases hf:C6 a x.1 with
    | some p=>
      rw[hf] at h;cases hq:AE u0 l a x.1 with
      |none=>rw[hq] at h;cases h
      | some r=>
        obtain⟨a',x'⟩:=r;rw[hq] at h;simp only[LV,aFy] at h;subst h;have:=iha hq;simp only[Ty.cells] at this|-;omega
    | none=>
      rw[hf] at h;cases hq:AE u0 l b x.2 with
      |none=>rw[hq] at h;simp [LV] at h
      | some r=>
        obtain⟨b',y'⟩:=r;rw[hq] at h;simp only[LV,aFy] at h;subst h;have:=ihb hq;simp only[Ty.cells] at this|-;omega
  |_=>intro x q h;simp [AE] at h
theorem a4I {g:Gh}{w:q8}{k n:Nat}{u0:Ty}{l:List u0.den}(D: ∀cs,C9 g (some (k,n)) cs→Rd g w (.list u0) l cs): ∀{t:Ty}{x:t.den}{cs:pW}{q: Σ t:Ty,t.den},C6 t x=some (k,n)→AE u0 l t x=some q→Rd g w t x cs→Rd g w q.1 q.2 cs:=by
  intro t
  induction t with
  | rl e u=>
    intro x cs q hf h r;simp only[C6] at hf;subst hf;simp only[AE,di] at h;split at h
    · cases h
      exact D _ r
    .cases h
  | pair a b iha ihb=>
    intro x cs q hf h r;obtain⟨c1,c2,e,r1,r2⟩:=r;simp only[C6] at hf;simp only[AE] at h;cases j:C6 a x.1 with
    | some p=>
      rw[j] at h hf;simp only[dh,aFy] at hf;subst hf;cases hq:AE u0 l a x.1 with
      |none=>rw[hq] at h;cases h
      | some z=>
        obtain⟨a',x'⟩:=z;rw[hq] at h;simp only[LV,aFy] at h;subst h;exact⟨c1,c2,e,iha j hq r1,r2⟩
    | none=>
      rw[j] at h hf;simp only[dh] at hf;cases hq:AE u0 l b x.2 with
      |none=>rw[hq] at h;simp [LV] at h
      | some z=>
        obtain⟨b',y'⟩:=z;rw[hq] at h;simp only[LV,aFy] at h;subst h;exact⟨c1,c2,e,r1,ihb hf hq r2⟩
  |_=>intro x cs q hf;simp [C6] at hf
theorem a4J {g:Gh}{w:q8}{H:sF}(hH:sK g w H) {k i:Nat}{e:TypeId}{t:Ty}{l:List t.den}{n:Nat}(V:qO H k=some (.row e t l n)) {u:Ty}{x:u.den}{toks:pU}(hi:qO H i=some (.cells u x toks)) (hz:C6 u x=some (k,n)) {q: Σ t:Ty,t.den}(hq:AE t l u x=some q):
    ∃ g',sK g' w (r7 [(i,qJ.cells q.1 q.2 []),(k,qJ.grow e t.cells (List.length l))] H)∧g'.J=g.J∧
      ∀side s rds v,JG rds=true→rS g' w s v→AH g w H ⟨side,s,[(i,qJ.cells q.1 q.2 []),(k,qJ.grow e t.cells (List.length l))],rds⟩ g' w v:=by
  obtain⟨hl,v,xs,hv,F,hF,Q,O⟩:=hH.blk k _ V
  let g':Gh:={g with S:=fun b o=>g.S b o∨(v.ownBlock=some b∧o<n*t.cells)}
  have le:Le g w g' w:=⟨fun _ _ h=> .inl h,fun _ _ _=>rfl,fun _ _ h=>h,fun _ _ _ h=>h⟩;have E: ∀b,v.ownBlock=some b→∀o,sH g k (.row e t l n) b o:=fun b hb o=>⟨v,hv,hb⟩
  have R: ∀u,g.cur k n=some u→((u= .slice none 0 0∧n=0)∨∃b cap,u= .slice (some ⟨b,0,none⟩) n cap∧n≤cap)→tD g' w (.list t) l u:=by
    intro u U I;rw[hv] at U;obtain rfl:=aFE U;rcases I with⟨rfl,h0⟩ |⟨b,cap,rfl,hd⟩
    · have:l=[]:=aF4 (by rw[hl,h0])
      subst this;exact .inr ⟨rfl,none,0,rfl,aFW _,.inl rfl⟩
    refine .inr ⟨rfl,some ⟨b,0,none⟩,cap,by rw[hl],by rw[hl];exact hd,.inr ⟨b,0,rfl,JW (CX (fun _ _ h=>wT le h) hF) (fun j u U=>?_) (fun j hj=>?_)⟩⟩
    · have:=F.cells (g:=b) rfl j u U
      rwa [aGP] at this
    right
    exact⟨rfl,by rw[hl] at hj;omega⟩
  have hx:i≠k:=fun e1=>by rw[e1,V] at hi;cases hi
  obtain⟨p0,cs0,Z,hA,ha,K,hc,_⟩:=hH.blk i _ hi
  let b':qJ:= .cells q.1 q.2 []
  let H':sF:=(i,b')::(k,qJ.grow e t.cells (List.length l))::H
  have M: ∀i' b,qO H' i'=some b→(i'=i∧b=b')∨(i'=k∧b= .grow e t.cells (List.length l))∨(i'≠k∧i'≠i∧qO H i'=some b):=by
    intro i' b hb;simp only[H',qO] at hb;split at hb
    .rename_i e1;exact .inl ⟨e1.symm,(aFE hb).symm⟩
    rename_i e1
    split at hb
    .rename_i e2;exact .inr (.inl ⟨e2.symm,(aFE hb).symm⟩)
    rename_i e2;exact .inr (.inr ⟨Ne.symm e2,Ne.symm e1,hb⟩)
  have D: ∀i' b bb o,qO H' i'=some b→sH g' i' b bb o→∃b0,qO H i'=some b0∧sH g i' b0 bb o:=by
    intro i' b bb o hb ho;rcases M i' b hb with⟨rfl,rfl⟩ |⟨rfl,rfl⟩ |⟨_,_,X⟩
    · obtain⟨p,hp,e1,e2,e3⟩:=ho
      rw[gr hq] at e3;exact⟨_,hi,p,hp,e1,e2,e3⟩
    · obtain⟨u,U,he⟩:=ho
      have Y:g.cur i' (List.length l)=some u:=U;rw[hl] at Y;exact⟨_,V,u,Y,he⟩
    exact⟨b,X,(xS (g':=g') (g:=g) rfl rfl).1 ho⟩
  have G:sK g' w H':=by
    refine⟨fun i' b hb=>?_,fun i' j bi bj b o hy X h2 o1 o2=>?_,fun b o z=>?_,hH.tab.1,fun i' b bb oo hb ho=>by
      obtain⟨c1,k1,k2⟩:=D i' b bb oo hb ho;exact hH.tab.2 i' c1 bb oo k1 k2⟩
    · rcases M i' b hb with⟨rfl,rfl⟩ |⟨rfl,rfl⟩ |⟨hn,_,X⟩
      · have ht: ∀cs,C9 g' (some (k,n)) cs→Rd g' w (.list t) l cs:=by
          rintro cs ⟨v1,z1,z2,z3⟩;rw[z2];exact xV rfl (R v1 z1 z3)
        refine⟨p0,cs0,Z,a4I (n:=n) ht hz hq (wT le hA),ha,?_,?_,fun _ _ hm=>by cases hm⟩
        .rw[gr hq];exact⟨K.1,K.2⟩
        rw[gr hq]
        intro j hj z;rcases z with z|z
        .exact hc j hj z
        exact hH.dis i' k _ _ p0.1 (p0.2+j) hx hi V ⟨p0,Z,rfl,pP,pP⟩ (E _ z.1 _)
      · refine⟨v,xs,by rw[hl];exact hv,by rw[hl];exact F,fun m hm=>Q m (by rw[hl] at hm;exact hm),fun b hb o z=>?_⟩
        rw[hl];rcases z with z|z
        .exact absurd z (O b hb o)
        exact z.2
      exact JU (hH.blk i' b X) le rfl rfl (fun _ _ _=>⟨rfl,rfl⟩) (fun _ _=>rfl) (fun bb o ho z=>by
         rcases z with z|z
         .exact z
         exact absurd (E bb z.1 o) (fun h5=>hH.dis i' k b _ bb o hn X V ho h5)) (fun _ _ _ _ h=>h)
    · obtain⟨c1,k1,k2⟩:=D i' bi b o X o1
      obtain⟨c2,k3,k4⟩:=D j bj b o h2 o2;exact hH.dis i' j c1 c2 b o hy k1 k3 k2 k4
    rcases z with z|z
    .exact hH.sl b o z
    exact ME F z.1
  refine⟨g',G,rfl,fun side s rds vv hh hs=>⟨le,hs,G,⟨rfl,rfl,rfl,aFW _,fun _ _ _=>rfl,fun _ _ _ _=>⟨rfl,rfl⟩,fun b o z=>?_,fun _ _ h=> .inl h⟩,fun i' blk b o hm hg ho=>?_,fun _ _=>⟨rfl,rfl⟩,fun h=>by rw[hh] at h;cases h⟩⟩
  · rcases z with z|z
    .exact .inl z
    exact .inr (.inr ⟨k,_,by simp [qQ],V,E b z.1 o⟩)
  obtain⟨b0,k1,k2⟩:=D i' blk b o hg ho
  exact .inr ⟨i',b0,hm,k1,k2⟩
theorem a4K {g:Gh}{w:q8}{H:sF}(hH:sK g w H) {k:Nat}{e:TypeId}{t:Ty}{l:List t.den}{n:Nat}(Y:qO H k=some (.row e t l n)):
    ∃g',g'.J=g.J∧g'.cur=g.cur∧rR g w H ⟨[],(.any,none),[(k,qJ.grow e t.cells (List.length l))],[]⟩ g' w undef∧∀cs,C9 g' (some (k,n)) cs→Rd g' w (.list t) l cs:=by
  obtain⟨hl,v,xs,Z,E,hF,O,M⟩:=hH.blk k _ Y
  let g':Gh:={g with S:=fun b o=>g.S b o∨(v.ownBlock=some b∧o<n*t.cells)}
  have le:Le g w g' w:=⟨fun _ _ h=> .inl h,fun _ _ _=>rfl,fun _ _ h=>h,fun _ _ _ h=>h⟩;have G: ∀b,v.ownBlock=some b→∀o,sH g k (.row e t l n) b o:=fun b hb o=>⟨v,Z,hb⟩
  have Q: ∀u,g.cur k n=some u→((u= .slice none 0 0∧n=0)∨∃b cap,u= .slice (some ⟨b,0,none⟩) n cap∧n≤cap)→tD g' w (.list t) l u:=by
    intro u U K;rw[Z] at U;obtain rfl:=aFE U;rcases K with⟨rfl,h0⟩ |⟨b,cap,rfl,X⟩
    · have:l=[]:=aF4 (by rw[hl,h0])
      subst this;exact .inr ⟨rfl,none,0,rfl,aFW _,.inl rfl⟩
    refine .inr ⟨rfl,some ⟨b,0,none⟩,cap,by rw[hl],by rw[hl];exact X,.inr ⟨b,0,rfl,JW (CX (fun _ _ h=>wT le h) hF) (fun j u U=>?_) (fun j hj=>?_)⟩⟩
    · have:=E.cells (g:=b) rfl j u U
      rwa [aGP] at this
    right
    exact⟨rfl,by rw[hl] at hj;omega⟩
  have F: ∀i' b,qO ((k,qJ.grow e t.cells (List.length l))::H) i'=some b→(i'=k∧b= .grow e t.cells (List.length l))∨(i'≠k∧qO H i'=some b):=by
    intro i' b hb;simp only[qO] at hb;split at hb
    .rename_i e1;exact .inl ⟨e1.symm,(aFE hb).symm⟩
    rename_i e1;exact .inr ⟨Ne.symm e1,hb⟩
  have D: ∀i' b bb o,qO ((k,qJ.grow e t.cells (List.length l))::H) i'=some b→sH g' i' b bb o→∃b0,qO H i'=some b0∧sH g i' b0 bb o:=by
    intro i' b bb o hb ho;rcases F i' b hb with⟨rfl,rfl⟩ |⟨_,I⟩
    · obtain⟨u,U,ha⟩:=ho
      have V:g.cur i' (List.length l)=some u:=U;rw[hl] at V;exact⟨_,Y,u,V,ha⟩
    exact⟨b,I,(xS (g':=g') (g:=g) rfl rfl).1 ho⟩
  have R:sK g' w ((k,qJ.grow e t.cells (List.length l))::H):=by
    refine⟨fun i' b hb=>?_,fun i' j bi bj b o hd I h2 o1 o2=>?_,fun b o z=>?_,hH.tab.1,fun i' b bb oo hb ho=>by
      obtain⟨c1,k1,k2⟩:=D i' b bb oo hb ho;exact hH.tab.2 i' c1 bb oo k1 k2⟩
    · rcases F i' b hb with⟨rfl,rfl⟩ |⟨hc,I⟩
      · refine⟨v,xs,by rw[hl];exact Z,by rw[hl];exact E,fun m hm=>O m (by rw[hl] at hm;exact hm),fun b hb o z=>?_⟩
        rw[hl];rcases z with z|z
        .exact absurd z (M b hb o)
        exact z.2
      exact JU (hH.blk i' b I) le rfl rfl (fun _ _ _=>⟨rfl,rfl⟩) (fun _ _=>rfl) (fun bb o ho z=>by
         rcases z with z|z
         .exact z
         exact absurd (G bb z.1 o) (fun h5=>hH.dis i' k b _ bb o hc I Y ho h5)) (fun _ _ _ _ h=>h)
    · obtain⟨c1,k1,k2⟩:=D i' bi b o I o1
      obtain⟨c2,k3,k4⟩:=D j bj b o h2 o2;exact hH.dis i' j c1 c2 b o hd k1 k3 k2 k4
    rcases z with z|z
    .exact hH.sl b o z
    exact ME E z.1
  refine⟨g',rfl,rfl,⟨le,⟨trivial,trivial⟩,R,⟨rfl,rfl,rfl,aFW _,fun _ _ _=>rfl,fun _ _ _ _=>⟨rfl,rfl⟩,fun b o z=>?_,fun _ _ h=> .inl h⟩,fun i' blk b o hm hg ho=>?_,fun _ _=>⟨rfl,rfl⟩,fun i' u y us hg=>?_⟩,?_⟩
  · rcases z with z|z
    .exact .inl z
    exact .inr (.inr ⟨k,_,by simp [qQ],Y,G b z.1 o⟩)
  · obtain⟨b0,k1,k2⟩:=D i' blk b o hg ho
    exact .inr ⟨i',b0,hm,k1,k2⟩
  · rcases F i' _ hg with⟨_,I⟩ |⟨_,I⟩
    .cases I
    exact .inl ⟨y,us,I⟩
  rintro cs ⟨v1,z1,z2,z3⟩
  rw[z2];exact xV rfl (Q v1 z1 z3)
theorem Lz {g:Gh}{w:q8}{H:sF}(hH:sK g w H) {k:Nat}{e:TypeId}{t:Ty}{l:List t.den}{n:Nat}(h:qO H k=some (.row e t l n)):
    ∃g',g'.J=g.J∧g'.cur=g.cur∧rR g w H ⟨[],(.any,none),[(k,qJ.grow e t.cells n)],[]⟩ g' w undef∧∀cs,C9 g' (some (k,n)) cs→Rd g' w (.list t) l cs:=by
  have hl:l.length=n:=(hH.blk k _ h).1;obtain⟨g',z,j,h3,h4⟩:=a4K hH h;rw[hl] at h3;exact⟨g',z,j,h3,h4⟩
theorem Ma {k:Nat}: ∀{r:pU},R8 k r=false→∀p∈r,p.1≠k
  |[],_,p,hp=>by cases hp
  | (j,m)::r,h,p,hp=>by
    simp only[R8] at h;split at h
    .cases h
    rename_i z
    rcases aFN.1 hp with rfl|hp
    .exact z
    exact Ma h p hp
theorem Mb {w:q8}{H:sF}: ∀{ks:pU}{ps:List Prop}{bs:List (Nat×qJ)}{g:Gh},sK g w H→C7 H ks=some (ps,bs)→(∀p∈ps,p)→
    ∃g',g'.J=g.J∧g'.cur=g.cur∧rR g w H ⟨[],(.any,none),bs,[]⟩ g' w undef∧(∀i,i∈qQ bs→∃p∈ks,p.1=i)∧∀p∈ks,∀e t l m,qO H p.1=some (.row e t l m)→∀cs,C9 g' (some p) cs→Rd g' w (.list t) l cs
  | [],ps,bs,g,hH,h,_=>by
    simp only[C7,aFy,aF3] at h;obtain⟨rfl,rfl⟩:=h;exact⟨g,rfl,rfl,.pure hH ⟨trivial,trivial⟩,fun i hi=>(by cases hi),fun p hp=>(by cases hp)⟩
  | (k,n)::r,ps,bs,g,hH,h,M=>by
    simp only[C7] at h;split at h
    .cases h
    rename_i E
    have E:R8 k r=false:=by simpa using E
    cases D:VI k n (qO H k) with
    |none=>rw[D] at h;simp [LW] at h
    | some q=>
      obtain⟨pp,b⟩:=q;cases F:C7 H r with
      |none=>rw[D,F] at h;simp [LW] at h
      | some q2=>
        obtain⟨ps2,bs2⟩:=q2;rw[D,F] at h;simp only[LW,aFy,aF3] at h;obtain⟨rfl,rfl⟩:=h;obtain⟨g1,k1,k2,k3,k4,k5⟩:=Mb hH F (fun p hp=>M p (aFK _ hp));unfold VI at D;split at D
        · rename_i e t l m O
          cases D;have G:n=m:=M _ aFT;subst G
          have I:k∉qQ bs2:=fun hi=>by
            obtain⟨p,hp,e1⟩:=k4 k hi;exact Ma E p hp e1
          have K:qO (r7 bs2 H) k=some (.row e t l n):=(AU I).trans O;obtain⟨g2,m1,m2,m3,m4⟩:=Lz k3.heap K;refine⟨g2,m1.trans k1,m2.trans k2,k3.trans m3,fun i hi=>?_,fun p hp e' t' l' m' z cs hr=>?_⟩
          · simp only[r7,qQ,aFN] at hi
            rcases hi with rfl|hi
            .exact⟨_,aFT,rfl⟩
            obtain⟨p,hp,e1⟩:=k4 i hi
            exact⟨p,aFK _ hp,e1⟩
          rcases aFN.1 hp with rfl|hp
          · simp only at z
            rw[O] at z;simp only[aFy,qJ.row.injEq] at z;obtain⟨rfl,rfl,rfl,rfl⟩:=z;exact m4 cs hr
          obtain⟨j,q⟩:=p
          refine wT m3.le (k5 _ hp e' t' l' m' z cs ?_);obtain⟨v,v1,v2⟩:=hr;exact⟨v,by rw[←m2];exact v1,v2⟩
        cases D
theorem a4L {g:Gh}{w:q8}{H:sF}: ∀{t:Ty}{x:t.den}{y:(HJ t).den}{cs:pW},B9 H t x=some y→Rd g w t x cs→(∀p∈BA t x,∀e t' l m,qO H p.1=some (.row e t' l m)→∀cs,C9 g (some p) cs→Rd g w (.list t') l cs)→Rd g w (HJ t) y cs:=by
  intro t
  induction t with
  | rl e u=>
    intro x y cs h r j;cases x with
    | none=>
      obtain rfl:[]=y:=aFE h;exact⟨none,0,r,aFW _,.inl rfl⟩
    | some p=>
      obtain⟨k,n⟩:=p;simp only[B9,dl] at h;unfold Kd at h;split at h
      · rename_i e' t' l m F
        split at h
        · rename_i E
          subst E;cases h;exact j (k,n) (by simp [BA,dm]) _ _ _ _ F cs r
        cases h
      .cases h
  | pair a b iha ihb=>
    intro x y cs h r j;simp only[B9] at h;obtain⟨c1,c2,e,r1,r2⟩:=r;cases z:B9 H a x.1 with
    |none=>rw[z] at h;simp [G0] at h
    | some y1=>
      cases D:B9 H b x.2 with
      |none=>rw[z,D] at h;simp [G0] at h
      | some y2=>
        rw[z,D] at h;cases h;exact⟨c1,c2,e,iha z r1 (fun p hp=>j p (by simp only[BA];exact HT.2 (.inl hp))),ihb D r2 (fun p hp=>j p (by simp only[BA];exact HT.2 (.inr hp)))⟩
  |_=>intro x y cs h r _;cases h;exact r
section
variable {P:Program}{o:Oper}{a:Act}{g:Gh}{w:q8}{H:sF}{T:sW}(hT:xU P T) (hH:sK g w H)
include hT hH
theorem P3 {t:TypeId}{ti:TI}(z:tM P t ti) {x:ti.ty.den}{b off:Nat}{cs:pW}(D:w.rangeAt b off cs) (F:Rd g w ti.ty x cs):
    ∃v,(Instr.loadAt t (.pointer (some ⟨b,off,none⟩))).run P w= .ok v w∧tD g w ti.ty x v∧v.cells.toList=cs:=by
  obtain⟨d,K,h⟩:=WT z;obtain⟨i,hi,I,_⟩:=ES z;have hl:=sZ F;by_cases hr:ti.ty.isRow=true
  .refine⟨.agg cs.toArray,run_loadAt_mid w b off t cs d D K (by rw[h,hr]) (by rw[hi,Option.map_some,I,hl]),.inl ⟨hr,cs,rfl,F⟩,by simp [Value.cells]⟩
  have j:ti.ty.isRow=false:=by simpa using hr
  have O:ti.ty.cells=1:=by
    obtain⟨ty,el,by',ar,ls⟩:=ti;cases ty<;>first|rfl|(simp [Ty.isRow] at j)
  obtain⟨v,rfl⟩: ∃v,cs=[v]:=by rw[O] at hl;exact aGS.1 hl
  have G:=AS F v pR;refine⟨v,?_,.inr ⟨j,F⟩,by cases v<;>first|rfl|(simp [Value.oneCell'] at G)⟩
  have M:w.cell? ⟨b,off,none⟩=some v:=by simpa using D 0 v rfl
  have E:(isAgg t).run P w= .ok false w:=by
    unfold isAgg;rw[aFM,aFX K w];rw[j] at h;cases d<;>simp_all [TypeDesc.isRow]
  simp [Instr.loadAt,Instr.sureAddr,loadVar,aFM,E,M]
theorem MK {b off:Nat}{c1 c2 c3:pW}(h:w.rangeAt b off (c1++c2++c3)):w.rangeAt b (off+c1.length) c2:=fun j v D=>by
  have:=h (c1.length+j) v (by
    have z:=(aFP.1 D).1;rw[aFO,aFJ pP,aGo,aFU z];exact D)
  rw[aGj];exact this
theorem Mc {k n c:Nat}{i:Int}{o':Nat}{v:q9}(K:zJ g w (.elt k n c i o') v) {e:TypeId}{t:Ty}{l:List t.den}{m:Nat}(O:qO H k=some (.row e t l m)) (z:n=m) (Q:c=t.cells):
    ∃ b cap xs c1 c2 c3,v= .pointer (some ⟨b,i.toNat*c+o',none⟩)∧g.cur k m=some (.slice (some ⟨b,0,none⟩) m cap)∧w.ownsRow 0 e t.cells (.slice (some ⟨b,0,none⟩) m cap) m xs∧uD (Rd g w t) t.cells l xs∧l.length=m∧i.toNat<l.length∧0≤i∧
      xs=c1++c2++c3∧c1.length=i.toNat*c∧c2.length=c∧Rd g w t (qR t l i) c2:=by
  subst z;subst Q;obtain⟨b,cap,I,G,h3,M⟩:=K;obtain⟨hl,v0,xs,h,j,F,E,D⟩:=hH.blk k _ O;rw[I] at h;obtain rfl:=aFE h;have hi:i.toNat<l.length:=by rw[hl];omega
  obtain⟨c1,c2,c3,e1,e2,e3,e4⟩:=WX F (Ly G hi);exact⟨b,cap,xs,c1,c2,c3,M,I,j,F,hl,hi,G,e1,e2,e3,e4⟩
theorem a4M {e:TypeId}{c n:Nat}{q cap:Nat}{xs:pW}(h:w.ownsRow 0 e c (.slice (some ⟨q,0,none⟩) n cap) n xs):w.rangeAt q 0 xs:=fun j u z=>by
  have:=h.cells (g:=q) rfl j u z;rwa [aGP] at this
theorem a4N {t:TypeId}{ti:TI}(hst:rY T t=some ti) {k n c:Nat}{i:Int}{o':Nat}{vx:q9}(I:zJ g w (.elt k n c i o') vx) {e:qY}(hr:R7 ti.ty k n c i o' (qO H k)=some e) (M: ∀p∈e.side,p):
    ∃v,(Instr.loadAt t vx).run P w= .ok v w∧rS g w e.slot v∧e.upd=[]:=by
  generalize O:qO H k=ob at hr;unfold R7 at hr;split at hr
  · rename_i e' t' l m
    split at hr
    · rename_i Q
      generalize F:rE ti.ty t' (qR t' l i) o'=oy at hr;cases oy with
      |none=>cases hr
      | some y=>
        cases hr;have E:=M _ (aFR.2 rfl);obtain⟨b,cap,xs,c1,c2,c3,K,G,D,V,hl,hi,h0,e1,e2,e3,e4⟩:=Mc hT hH I O E Q;obtain⟨d1,d2,d3,f1,f2,f3⟩:=CA e4 F;have z:=a4M hT hH D;rw[e1] at z;have j:=MK hT hH z;rw[f1] at j;have h:=MK hT hH j;rw[aF6,e2,f2] at h;obtain⟨v,U,R,_⟩:=P3 hT hH (t7 hT hst) h f3;exact⟨v,by rw[K];exact U,⟨R,trivial⟩,rfl⟩
    cases hr
  cases hr
theorem gt: ∀{toks:pU}{q k:Nat},xQ toks q=some k→(q,k)∈toks
  |[],_,_,h=>by simp [xQ] at h
  | (q',k')::r,q,k,h=>by
    simp only[xQ] at h;split at h
    · rename_i e
      subst e;simp only[aFy] at h;subst h;simp
    exact aFK _ (gt h)
theorem Md {u v:Ty}: ∀{t:Ty}{x:t.den}{q:Nat}{l:List u.den}{y:v.den},rE (.list u) t x q=some l→rE v t x q=some y→v.isRow=false→∃h:v= .list u,uG h y=l:=by
  intro t
  induction t with
  | pair s t ihs iht=>
    intro x q l y j z D
    have key: ∀q,(if q<s.cells then rE (.list u) s x.1 q else rE (.list u) t x.2 (q-s.cells))=some l→(if q<s.cells then rE v s x.1 q else rE v t x.2 (q-s.cells))=some y→∃h:v= .list u,uG h y=l:=by
      intro q j z;by_cases hq:q<s.cells
      .rw[aFz hq] at j z;exact ihs j z D
      rw[aFA hq] at j z;exact iht j z D
    cases q with
    | zero=>
      have e1:Ty.pair s t≠.list u:=by intro h;cases h
      have e2:Ty.pair s t≠v:=by intro h;subst h;simp [Ty.isRow] at D
      unfold rE at j z;rw[aG3 e1] at j;rw[aG3 e2] at z;exact key 0 (by simpa using j) (by simpa using z)
    |succ q=>exact key (q+1) (by simpa[rE] using j) (by simpa[rE] using z)
  | _=>
    intro x q l y j z D;cases q with
    | zero=>
      unfold rE at j z;split at j
      · rename_i e1
        split at z
        · rename_i e2
          first
          |(cases e1;done)
          | (subst e2
             injection e1 with e1'
             subst e1';simp only[uG,aFy] at j z;subst j;subst z;exact⟨rfl,rfl⟩)
        simp at z
      .simp at j
    |succ q=>simp [rE] at j
theorem a4O {t:TypeId}{ti:TI}(z:tM P t ti) (hr:ti.ty.isRow=false) {b off:Nat}{v:q9}(E:w.cell? ⟨b,off,none⟩=some v):
    (Instr.loadAt t (.pointer (some ⟨b,off,none⟩))).run P w= .ok v w:=by
  obtain⟨d,D,h⟩:=WT z
  have j:(isAgg t).run P w= .ok false w:=by
    unfold isAgg;rw[aFM,aFX D w];rw[hr] at h;cases d<;>simp_all [TypeDesc.isRow]
  simp [Instr.loadAt,Instr.sureAddr,loadVar,aFM,j,E]
omit hT hH in
theorem Me {a b:Option qY}{e:qY}(h:Jd a b=some e):a=some e∨b=some e:=by
  cases a with
  |some r=>exact .inl h
  |none=>exact .inr h
omit hT hH in
theorem Mf {H:List (Nat×qJ)}{t:Ty}{i off:Nat}{b:Option qJ}{x:Option qY}{e:qY}(h:Ke H t i off b x=some e):x=some e∨(x=none∧JK H t i off b=some e):=by
  cases x with
  |some r=>exact .inl h
  |none=>exact .inr ⟨rfl,h⟩
theorem a4P {t:TypeId}{ti:TI}{x:Operand}(ho:o.op= .load t x) (M:rY T t=some ti) {i off:Nat}(I:tD g w .ref (some (i,off)) (a.eval x)) {e:qY}(hr:VF i off ti (qO H i)=some e):rN P o a g w H e:=by
  have z:=t7 hT M;generalize hb:qO H i=ob at hr;unfold VF at hr;split at hr
  · rename_i u el _ _ _ v x' toks
    generalize F:rE (.rl el u) v x' off=oy at hr;unfold dg at hr;split at hr
    · rename_i k n
      cases hr;obtain⟨p,hp,K⟩:=xW I;obtain⟨p',cs,h,Q,E,_⟩:=hH.blk i _ hb;rw[hp] at h;obtain rfl:=aFE h;obtain⟨c1,c2,c3,rfl,rfl,G⟩:=CA Q F;obtain⟨v0,j,rfl,D⟩:=G;have O:w.cell? ⟨p.1,p.2+c1.length,none⟩=some v0:=by simpa using MK hT hH E 0 _ rfl
      have R:=a4O (P:=P) hT hH z rfl O;exact rN.value (v:=v0) (g':=g) (w':=w) (by simp only[execOp,ho,K,aFM,R,aFH,aF0]) (.pure hH ⟨⟨j,D⟩,trivial⟩)
    cases hr
  cases hr
theorem a4Q {t:TypeId}{ti:TI}{x:Operand}(ho:o.op= .load t x) (U:rY T t=some ti) {i off:Nat}(Q:tD g w .ref (some (i,off)) (a.eval x)) {e:qY}(hr:JK H ti.ty i off (qO H i)=some e) (j: ∀p∈e.side,p):rN P o a g w H e:=by
  have F:=t7 hT U;generalize hb:qO H i=ob at hr;unfold JK at hr;split at hr
  case h_2=>cases hr
  rename_i v z toks;generalize hf:C6 v z=of at hr;cases of with
  |none=>cases hr
  | some kn=>
    obtain⟨k,n0⟩:=kn;simp only[VH] at hr;generalize V:qO H k=ok at hr;unfold VG at hr;split at hr
    case h_2=>cases hr
    rename_i el u0 l m;generalize O:AE u0 l v z=oq at hr;cases oq with
    |none=>cases hr
    |some q=>
    obtain⟨v',x'⟩:=q;simp only[dk] at hr;generalize K:rE ti.ty v' x' off=oy at hr;cases oy with
    |none=>cases hr
    | some y=>
      simp only[dj,aFy] at hr;subst hr;have I:n0=m:=j _ (aFR.2 rfl);subst I;obtain⟨g',h,Y,E⟩:=a4J hH V hb hf O;obtain⟨p,hp,R⟩:=xW Q;obtain⟨p',cs,D,X,G,_,_,_⟩:=h.blk i (.cells v' x' []) (by simp [r7,qO]);rw[Y,hp] at D;obtain rfl:=aFE D;obtain⟨c1,c2,c3,rfl,rfl,M⟩:=CA X K;obtain⟨v0,h1,Z,_⟩:=P3 hT h F (MK hT h G) M;exact rN.valueW (v:=v0) (g':=g') (w':=w) (by simp only[execOp,ho,R,aFM,h1,aFH,aF0]) (E _ _ _ _ rfl ⟨Z,trivial⟩)
theorem a4R {t:TypeId}{ti:TI}{x:Operand}(ho:o.op= .load t x) (R:rY T t=some ti) {i off:Nat}(M:tD g w .ref (some (i,off)) (a.eval x)) {e:qY}(hr:LX H ti.ty i off (qO H i)=some e) (h: ∀p∈e.side,p):rN P o a g w H e:=by
  have D:=t7 hT R;generalize hb:qO H i=ob at hr;unfold LX at hr;split at hr
  case h_2=>cases hr
  rename_i v z toks;generalize Q:B9 H v z=ou at hr;cases ou with
  |none=>cases hr
  | some z2=>
    simp only[VK] at hr;generalize E:C7 H (BA v z)=osa at hr;generalize G:rE ti.ty (HJ v) z2 off=oy at hr;cases osa with
    |none=>cases hr
    | some q=>
      obtain⟨ps,bs⟩:=q;cases oy with
      |none=>cases hr
      | some y=>
        simp only[VJ,aFy] at hr;subst hr;obtain⟨g',k1,k2,k3,_,k5⟩:=Mb hH E h;obtain⟨p,hp,O⟩:=xW M;obtain⟨p',cs,j,U,F,_,_,_⟩:=hH.blk i _ hb;rw[hp] at j;obtain rfl:=aFE j;have I:=a4L Q (wT k3.le U) k5;obtain⟨c1,c2,c3,rfl,rfl,K⟩:=CA I G;obtain⟨v0,X,V,_⟩:=P3 hT k3.heap D (MK hT hH F) K;exact rN.value (v:=v0) (g':=g') (w':=w) (by simp only[execOp,ho,O,aFM,X,aFH,aF0]) (k3.slot' ⟨V,trivial⟩)
theorem a4S {t:TypeId}{x:Operand}(ho:o.op= .load t x) {sx:qK}(j:rS g w sx (a.eval x)) {e:qY}(hr:VL H (rY T t) sx=some e) (h: ∀p∈e.side,p):rN P o a g w H e:=by
  generalize G:rY T t=ot at hr;replace j:=j.1;unfold VL at hr;split at hr
  · rename_i ti k n c i o' _
    obtain⟨v,I,D,h3⟩:=a4N hT hH G j hr h;obtain⟨side,slot,upd,rds⟩:=e;simp only at D h3;subst h3;exact rN.value (v:=v) (g':=g) (w':=w) (by simp only[execOp,ho,aFM,I,aFH,aF0]) (.pure hH D)
  · rename_i ti u y k
    split at hr
    · rename_i hu
      subst hu;cases hr;have E:=t7 hT G;obtain⟨b,off,cs,V,F,hS,X⟩:=j;obtain⟨v,I,D,_⟩:=P3 hT hH E F X;exact rN.pure hH (v:=v) (by simp only[execOp,ho,V,aFM,I,aFH,aF0]) D
    cases hr
  · rename_i ti i off k
    split at hr
    .exact a4R hT hH ho G j hr h
    rcases Mf hr with hr|⟨_,hr⟩
    case inr=>exact a4Q hT hH ho G j hr h
    rcases Me hr with hr|hr
    case inr=>exact a4P hT hH ho G j hr
    have E:=t7 hT G;generalize hb:qO H i=ob at hr;unfold R6 at hr;split at hr
    · rename_i u z toks
      generalize M:rE ti.ty u z off=oy at hr;cases oy with
      |none=>cases hr
      | some y=>
        cases hr;obtain⟨p,hp,V⟩:=xW j;obtain⟨p',cs,K,X,F,_,_,Z⟩:=hH.blk i _ hb;rw[hp] at K;obtain rfl:=aFE K;obtain⟨c1,c2,c3,rfl,rfl,O⟩:=CA X M;obtain⟨v,I,D,h3⟩:=P3 hT hH E (MK hT hH F) O;refine rN.value (v:=v) (g':=g) (w':=w) (by simp only[execOp,ho,V,aFM,I,aFH,aF0]) (.pure hH ⟨D,?_⟩);obtain⟨ty,el,by',ar,ls⟩:=ti;cases ty with
        | list u'=>
          simp only[FY];generalize Y:xQ toks c1.length=ok;cases ok with
          |none=>trivial
          | some k=>
            obtain⟨u2,l,v',g1,g2,g3⟩:=Z _ _ (gt hT hH Y);obtain⟨heq,hl⟩:=Md hT hH g1 M rfl;injection heq with U
            subst U;have R:=sZ O;obtain⟨v2,rfl⟩:=aGS.1 R
            have e2:v'=v2:=by
              have e:(c1++[v2]++c3)[c1.length]? =some v2:=by simp
              rw[e] at g2;exact(aFE g2).symm
            have e3:v=v2:=by
              have h4:=xV rfl D;have Q:=AS h4 v pR;have:v.cells= #[v]:=by cases v<;>first|rfl|(simp [Value.oneCell'] at Q)
              rw[this] at h3;simpa using h3
            subst e2;subst e3;have e4:(y:List u'.den)=l:=hl;subst e4;exact g3
        |_=>trivial
    cases hr
  cases hr
theorem WY {ρ:Operand→qK}{x:Option Operand}{n m:Int}(hρ: ∀y∈x.toList,rS g w (ρ y) (a.eval y)) (h:EL (AF ρ x) n=some m):(x=none∧m=n)∨∃y k,x=some y∧a.eval y= .int k m:=by
  cases x with
  |none=>simp only[AF,EL,aFy] at h;exact .inl ⟨rfl,h.symm⟩
  | some y=>
    have h0:=hρ y pR;simp only[AF] at h;unfold EL at h;split at h
    .cases ‹some _=none›
    · rename_i k q kk heq
      simp only[aFy] at heq h;rw[heq] at h0;subst h;exact .inr ⟨y,k,rfl,wD h0.1⟩
    cases h
theorem Mg {isSlice:Bool}{len cap:Nat}{lo hi:Option Operand}{m n:Int}(h:(lo=none∧m=0)∨∃y k,lo=some y∧a.eval y= .int k m) (j:(hi=none∧n=(len:Int))∨∃y k,hi=some y∧a.eval y= .int k n)
    (h0:0≤m) (F:m≤n) (G:n≤(len:Int)) (h3:len≤cap):(Instr.sliceBounds isSlice len cap (lo.map a.eval) (hi.map a.eval) none).run P w= .ok (m.toNat,n.toNat,cap) w:=by
  have e1:(n.toNat:Int)=n:=Int.toNat_of_nonneg pP;rcases h with⟨rfl,rfl⟩ |⟨y,k,rfl,E⟩<;>rcases j with⟨rfl,rfl⟩ |⟨z,k',rfl,D⟩
  .simp [Instr.sliceBounds]
  .simp [Instr.sliceBounds,D,run_sliceBound,(by omega:0≤n),(by omega:n≤(cap:Int))]
  .simp [Instr.sliceBounds,E,run_sliceBound,h0,F]
  simp [Instr.sliceBounds,E,D,run_sliceBound,(by omega:0≤n),(by omega:n≤(cap:Int)),e1,h0,F]
theorem a4T {t:TypeId}{x:Operand}{lo hi:Option Operand}(ho:o.op= .slice t x lo hi none) {ρ:Operand→qK}(D:rS g w (ρ x) (a.eval x)) (E: ∀y∈lo.toList,rS g w (ρ y) (a.eval y)) (F: ∀y∈hi.toList,rS g w (ρ y) (a.eval y)) {e:qY}
    (hr:B6 (ch (rY T t) (ρ x) (AF ρ lo) (AF ρ hi))=some e) (V: ∀p∈e.side,p):rN P o a g w H e:=by
  obtain⟨q,hq,rfl⟩:=JV hr;replace D:=D.1;generalize hst:rY T t=ot at hq;generalize Z:ρ x=sx at hq D;unfold ch at hq;split at hq
  · rename_i el by' ar ls_ l k
    generalize z:EL (AF ρ lo) 0=o1 at hq;generalize j:EL (AF ρ hi) (List.length l)=o2 at hq;unfold UX at hq;split at hq
    · rename_i m n
      cases hq;obtain⟨k1,k2,k3⟩:=V _ (aFR.2 rfl);have I:=(t7 hT hst).2;simp only[xT] at I;have K:=wX D;have h:=Mg (P:=P) (isSlice:=false) (cap:=List.length l) hT hH (WY hT hH E z) (WY hT hH F j) k1 k2 k3 (aFW _);refine rN.pure hH (v:= .string ⟨(sL l m n).toArray⟩) ?_ (CZ _ _ _);have O:(⟨List.toArray l⟩:ByteArray).size=List.length l:=by simp [ByteArray.size]
      have G:(⟨List.toArray l⟩:ByteArray).extract m.toNat n.toNat=⟨(sL l m n).toArray⟩:=by
        apply ByteArray.ext;apply aGL.1;simp [sL]
      simp only[execOp,ho,K,Option.map_none,Instr.sliceAt,Instr.slice,aFM,aFX I,aFH,Option.isSome_none,aG2,aHG,O,h,G,aF0]
    cases hq
  · rename_i u el by' ar ls_ t1 l k
    split at hq
    · rename_i M
      subst M;generalize z:EL (AF ρ lo) 0=o1 at hq;generalize j:EL (AF ρ hi) (List.length l)=o2 at hq;unfold UX at hq;split at hq
      · rename_i m n
        cases hq;obtain⟨k1,k2,k3⟩:=V _ (aFR.2 rfl);obtain⟨I,h3,_⟩:=(t7 hT hst).2;obtain⟨ei,R,U⟩:=aFQ.1 h3;simp only[aF3] at U;obtain⟨ad,cap,K,Q,hl⟩:=ER D;have h:=Mg (P:=P) (isSlice:=true) (cap:=cap) hT hH (WY hT hH E z) (WY hT hH F j) k1 k2 k3 Q;refine rN.pure hH (v:= .slice (if cap=m.toNat then ad else ad.map (·.add (m.toNat*t1.cells))) (n.toNat-m.toNat) (cap-m.toNat)) ?_ (.inr ⟨rfl,(if cap=m.toNat then ad else ad.map (·.add (m.toNat*t1.cells))),cap-m.toNat,?_,?_,?_⟩)
        .simp only[execOp,ho,K,Option.map_none,Instr.sliceAt,Instr.slice,aFM,aFX I,aFH,h,sizeOf,typeInfo,aGx,R,U.1,aF0]
        .rw[gq k1 k2 k3]
        .rw[gq k1 k2 k3];omega
        rcases hl with rfl|⟨b,off,rfl,Y⟩
        .exact .inl (by simp [sL])
        by_cases X:cap=m.toNat
        · left
          apply aF4;rw[gq k1 k2 k3];omega
        right
        rw[aFA X];refine⟨b,off+m.toNat*t1.cells,by simp [aGP],?_⟩;exact Lo _ (Ln _ Y pP)
      cases hq
    cases hq
  cases hq
end
theorem gu {α:Type}{R:α->pW->Prop}{c:Nat}(j: ∀x cs,R x cs->∀v∈cs,v.oneCell'=true): ∀{l:List α}{cs:pW},uD R c l cs->∀v∈cs,v.oneCell'=true
 |[],_,h=>by rw[h];simp
 |_::_,_,⟨c1,c2,e,_,D,h3⟩=>by
  subst e;intro v z;rcases aGl.1 z with h|h
  .exact j _ _ D v h
  exact gu j h3 v h
theorem WZ {α:Type}{R:α->pW->Prop}{c:Nat}: ∀{l:List α}{cs cy:pW}{i:Nat}{y:α},uD R c l cs->R y cy->cy.length=c->i<l.length->
  ∃c1 c2 c3,cs=c1++c2++c3/\c1.length=i*c/\c2.length=c/\uD R c (l.set i y) (c1++cy++c3)
 |[],_,_,_,_,_,_,_,h=>by simp at h
 |_::l,_,cy,0,y,⟨c1,c2,e,j,_,h3⟩,z,D,_=>⟨[],c1,c2,by simpa using e,by simp,j,⟨cy,c2,by simp,D,z,h3⟩⟩
 |x::l,_,cy,i+1,y,⟨c1,c2,e,j,E,h3⟩,z,D,hi=>by
  obtain⟨d1,d2,d3,e1,e2,e3,e4⟩:=WZ h3 z D (by simpa using hi);refine⟨c1++d1,d2,d3,by rw[e,e1];simp,by rw[aFD,j,e2,aGO];omega,e3,⟨c1,d1++cy++d3,by simp,j,E,e4⟩⟩
theorem RS {α:Type}{R:α->pW->Prop}{w:q8}{S:Nat->Nat->Prop}{c b:Nat}: ∀{l:List α}{o:Nat},yY R w S c b o l->∃cs,uD R c l cs/\w.rangeAt b o cs/\∀j,j<l.length*c->S b (o+j)
 |[],o,_=>⟨[],rfl,fun j v h=>by simp at h,fun j h=>by simp at h⟩
 |x::l,o,⟨⟨c1,F,I,h3,h4⟩,G⟩=>by
  obtain⟨c2,k1,k2,k3⟩:=RS G;refine⟨c1++c2,⟨c1,c2,rfl,F,h4,k1⟩,fun j v z=>?_,fun j E=>?_⟩
  .by_cases E:j<c
   .exact I j v (by rwa [aFU pP] at z)
   have:=k2 (j-c) v (by rw[aFJ pP,F] at z;exact z);rwa [show o+c+(j-c)=o+j from by omega] at this
  by_cases D:j<c
  .exact h3 j D
  have:=k3 (j-c) (by rw[aFF,aGO] at E;omega);rwa [show o+c+(j-c)=o+j from by omega] at this
theorem Mh {g:Gh}{w:q8}{t:Ty}: ∀n,uD (Rd g w t) t.cells (DT t n) (List.flatten (List.replicate n (uI t)))
 |0=>rfl
 |n+1=>⟨uI t,_,rfl,sZ (EQ g w t),EQ g w t,Mh n⟩
theorem Mi (t:Ty): ∀n,(DT t n).length=n
 |0=>rfl
 |n+1=>by simp [DT,Mi t n]
def Gh.tok (g:Gh) (k n:Nat) (v:q9):Gh:={g with cur:=fun k' n'=>if k'=k/\n'=n then some v else g.cur k' n'}
def Gh.var (g:Gh) (i b:Nat) (k:Option (TypeId×Nat)):Gh:={g with J:=fun i'=>if i'=i then some ⟨b,0,k⟩ else g.J i'}
def Gh.shut (g:Gh) (b m:Nat):Gh:={g with S:=fun b' o=>g.S b' o\/(b'=b/\o<m)}
section
variable {g:Gh}{w:q8}{H:sF}(hH:sK g w H)
include hH
theorem rR.nilTok {side:List Prop}{d:DV}{rds:pZ}{base e c:Nat}{u:Ty}(K:d= .val (.list u) []) (hf: ∀n,g.cur base n=none):
  rR g w H ⟨side,(d,some base),[(base,.grow e c 0)],rds⟩ (g.tok base 0 (.slice none 0 0)) w (.slice none 0 0):=by
 have le:Le g w (g.tok base 0 (.slice none 0 0)) w:=⟨fun _ _ h=>h,fun _ _ _=>rfl,fun _ _ h=>h,fun k n v h=>by
  show (if k=base/\n=0 then _ else _)=_;rw[aFA (fun⟨e1,_⟩=>by rw[e1,hf] at h;cases h)];exact h⟩
 have fr:Fr (sY g H (qQ [(base,qJ.grow e c 0)])) w w g.S (g.tok base 0 (.slice none 0 0)).S:= .refl _ _ _;have gho: ∀i,i∉qQ [(base,qJ.grow e c 0)]->(g.tok base 0 (.slice none 0 0)).J i=g.J i/\(g.tok base 0 (.slice none 0 0)).cur i=g.cur i:=fun i hi=>⟨rfl,by
  funext n;show (if i=base/\n=0 then _ else _)=_;rw[aFA (fun⟨e1,_⟩=>hi (by simp [qQ,e1]))]⟩
 have cur0:(g.tok base 0 (.slice none 0 0)).cur base 0=some (.slice none 0 0):=by simp [Gh.tok]
 have own: ∀i blk b o,i∈qQ [(base,qJ.grow e c 0)]->qO (r7 [(base,qJ.grow e c 0)] H) i=some blk->¬sH (g.tok base 0 (.slice none 0 0)) i blk b o:=by
  intro i blk b o hi z ho;simp only[qQ,aFR] at hi;subst hi;simp only[r7,qO,aHb,aFy] at z;subst z;obtain⟨v,I,hb⟩:=ho;rw[cur0] at I;obtain rfl:=aFE I;cases hb
 subst K;refine⟨le,⟨.inr ⟨rfl,none,0,rfl,aFW _,.inl rfl⟩,cur0⟩,hH.upd le fr (fun i blk b o E D h3=>absurd h3 (own i blk b o E D)) gho (fun i blk hi z=>?_) (fun i j bi bj b o hi R O G Q F M=>own i bi b o hi G F) hH.sl,fr,fun i blk b o E D h3=>absurd h3 (own i blk b o E D),gho,fun i u' y us h=>by
  simp only[r7,qO] at h;split at h
  .cases h
  exact .inl ⟨y,us,h⟩⟩
 simp only[qQ,aFR] at hi;subst hi;simp only[r7,qO,aHb,aFy] at z;subst z;refine⟨.slice none 0 0,[],cur0,World.ownsRow_nil w 0 e c,fun m hm=>?_,fun b hb=>by cases hb⟩;show (if i=i/\m=0 then _ else _)=_;rw[aFA pP];exact hf m
theorem rR.row {side:List Prop}{rds:pZ}{s:qK}{val:q9}{k:Nat}{e:TypeId}{t:Ty}{l:List t.den}{n:Nat}{v:q9}{xs:pW}{w':q8}
  (hl:l.length=n) (X:w'.ownsRow 0 e t.cells v n xs) (hF:uD (Rd g w t) t.cells l xs) (Q: ∀m,n<m->g.cur k m=none) (Y: ∀u,g.cur k n=some u->u=v)
  (z:w.grownBy w' (v.ownBlock)\/∃q,w.grownBy w' q/\∀b,q=some b->∀o,sY g H [k] b o)
  (R: ∀b o,g.S b o->w'.cell? ⟨b,o,none⟩=w.cell? ⟨b,o,none⟩)
  (O: ∀b,v.ownBlock=some b->∀o,¬g.S b o)
  (D: ∀b,v.ownBlock=some b->w.heap.size<=b\/∀o,sY g H [k] b o)
  (M:rS (g.tok k n v) w' s val):rR g w H ⟨side,s,[(k,.row e t l n)],rds⟩ (g.tok k n v) w' val:=by
 have le:Le g w (g.tok k n v) w':=⟨fun _ _ h=>h,fun b o h=>R b o h,fun _ _ h=>h,fun k' n' v' h=>by
  show (if k'=k/\n'=n then _ else _)=_;by_cases hk:k'=k/\n'=n
  .obtain⟨rfl,rfl⟩:=hk;rw[aFz ⟨rfl,rfl⟩,Y _ h]
  rw[aFA hk];exact h⟩
 have cur1:(g.tok k n v).cur k n=some v:=by simp [Gh.tok]
 have Z: ∀b,b<w.heap.size->(∀o,¬sY g H (qQ [(k,qJ.row e t l n)]) b o)->w'.heap[b]? =w.heap[b]? :=by
  intro b hb E;rcases z with z|⟨q,z,hq⟩
  .refine z.block b hb (fun e1=>?_);rcases D b e1.symm with h|h
   .omega
   exact E 0 (h 0)
  exact z.block b hb (fun e1=>E 0 (hq b e1.symm 0))
 have F:w'.os=w.os/\w'.tape=w.tape/\w'.output=w.output/\w.heap.size<=w'.heap.size:=by
  rcases z with z|⟨q,z,_⟩
  .exact⟨z.os,z.tape,z.output,z.size⟩
  exact⟨z.os,z.tape,z.output,z.size⟩
 have he: ∀b o,sY g H (qQ [(k,qJ.row e t l n)]) b o->True:=fun _ _ _=>trivial;have I: ∀b o,b<w.heap.size->¬sY g H (qQ [(k,qJ.row e t l n)]) b o->(w'.cell? ⟨b,o,none⟩=w.cell? ⟨b,o,none⟩/\w'.frozen? ⟨b,o,none⟩=w.frozen? ⟨b,o,none⟩):=by
  intro b o hb E;have:w'.heap[b]? =w.heap[b]? :=by
   rcases z with z|⟨q,z,hq⟩
   .refine z.block b hb (fun e1=>?_);rcases D b e1.symm with h|h
    .omega
    exact E (h o)
   exact z.block b hb (fun e1=>E (hq b e1.symm o))
  exact⟨aFY (a:=⟨b,o,none⟩) this,aGn (a:=⟨b,o,none⟩) this⟩
 have G: ∀b s,w.shape? b=some s->w'.shape? b=some s\/∀o,sY g H (qQ [(k,qJ.row e t l n)]) b o:=by
  intro b s U;rcases z with z|⟨q,z,hq⟩
  .by_cases e1:v.ownBlock=some b
   .rcases D b e1 with h|h
    .have:=CB U;omega
    exact .inr h
   exact .inl ((CC (z.block b (CB U) (fun h=>e1 h.symm))).trans U)
  by_cases e1:q=some b
  .exact .inr (hq b e1)
  exact .inl ((CC (z.block b (CB U) (fun h=>e1 h.symm))).trans U)
 have fr:Fr (sY g H (qQ [(k,qJ.row e t l n)])) w w' g.S (g.tok k n v).S:=⟨F.1,F.2.1,F.2.2.1,F.2.2.2,Z,I,fun b o h=> .inl h,G⟩;have gho: ∀i,i∉qQ [(k,qJ.row e t l n)]->(g.tok k n v).J i=g.J i/\(g.tok k n v).cur i=g.cur i:=fun i hi=>⟨rfl,by
  funext n';show (if i=k/\n'=n then _ else _)=_;rw[aFA (fun⟨e1,_⟩=>hi (by simp [qQ,e1]))]⟩
 have get: ∀i blk,i∈qQ [(k,qJ.row e t l n)]->qO (r7 [(k,qJ.row e t l n)] H) i=some blk->i=k/\blk= .row e t l n:=by
  intro i blk hi z;simp only[qQ,aFR] at hi;subst hi;simp only[r7,qO,aHb,aFy] at z;exact⟨rfl,z.symm⟩
 have perm: ∀i blk b o,i∈qQ [(k,qJ.row e t l n)]->qO (r7 [(k,qJ.row e t l n)] H) i=some blk->sH (g.tok k n v) i blk b o->w.heap.size<=b\/sY g H (qQ [(k,qJ.row e t l n)]) b o:=by
  intro i blk b o hi K ho;obtain⟨rfl,rfl⟩:=get i blk hi K;obtain⟨v',V,hb⟩:=ho;rw[cur1] at V;obtain rfl:=aFE V;exact(D b hb).imp id (fun h=>h o)
 refine⟨le,M,hH.upd le fr perm gho (fun i blk hi K=>?_) (fun i j bi bj b o hi hj ha hd hc _ _=>ha ((get i bi hi hd).1.trans (get j bj hj hc).1.symm)) (fun b o h=>aF9 (hH.sl b o h) F.2.2.2),fr,perm,gho,fun i u' y us h=>by
  simp only[r7,qO] at h;split at h
  .cases h
  exact .inl ⟨y,us,h⟩⟩
 obtain⟨rfl,rfl⟩:=get i blk hi K;refine⟨hl,v,xs,cur1,X,CX (fun _ _ h=>wT le h) hF,fun m hm=>?_,O⟩;show (if i=i/\m=n then _ else _)=_;rw[aFA pP];exact Q m hm
theorem rR.newVarJ {side:List Prop}{rds:pZ}{base:Nat}{t:Ty}{x:t.den}{toks:pU}{cs:pW}{e:TypeId}(O:Rd (g.var base w.heap.size (some (e,cs.length))) w t x cs) (F:HS g t x cs toks) (hf:g.J base=none) (R:g.cur base=fun _=>none):
  rR g w H ⟨side,(.val .ref (some (base,0)),none),[(base,.cells t x toks)],rds⟩ (g.var base w.heap.size (some (e,cs.length))) (w.alloc (.cells cs.toArray e)) (.pointer (some ⟨w.heap.size,0,none⟩)):=by
 have E:(g.var base w.heap.size (some (e,cs.length))).J base=some ⟨w.heap.size,0,some (e,cs.length)⟩:=by simp [Gh.var]
 have le:Le g w (g.var base w.heap.size (some (e,cs.length))) (w.alloc (.cells cs.toArray e)):=⟨fun _ _ h=>h,fun b o h=>aFY (a:=⟨b,o,none⟩) (aF5 _ _ _ (hH.sl b o h)),fun i p h=>by
  show (if i=base then _ else _)=_;rw[aFA (fun e1=>by rw[e1,hf] at h;cases h)];exact h,fun _ _ _ h=>h⟩
 have le2:Le (g.var base w.heap.size (some (e,cs.length))) w (g.var base w.heap.size (some (e,cs.length))) (w.alloc (.cells cs.toArray e)):=⟨fun _ _ h=>h,fun b o h=>aFY (a:=⟨b,o,none⟩) (aF5 _ _ _ (hH.sl b o h)),fun _ _ h=>h,fun _ _ _ h=>h⟩;have fr:Fr (sY g H (qQ [(base,qJ.cells t x toks)])) w (w.alloc (.cells cs.toArray e)) g.S (g.var base w.heap.size (some (e,cs.length))).S:=
  ⟨rfl,rfl,rfl,by simp,fun b hb _=>aF5 _ _ _ hb,fun b o hb _=>⟨aFY (a:=⟨b,o,none⟩) (aF5 _ _ _ hb),aGn (a:=⟨b,o,none⟩) (aF5 _ _ _ hb)⟩,fun b o h=> .inl h,fun b s h=> .inl ((CC (aF5 _ _ _ (CB h))).trans h)⟩
 have gho: ∀i,i∉qQ [(base,qJ.cells t x toks)]->(g.var base w.heap.size (some (e,cs.length))).J i=g.J i/\(g.var base w.heap.size (some (e,cs.length))).cur i=g.cur i:=fun i hi=>⟨by
  show (if i=base then _ else _)=_;rw[aFA (fun e1=>hi (by simp [qQ,e1]))],rfl⟩
 have get: ∀i blk,i∈qQ [(base,qJ.cells t x toks)]->qO (r7 [(base,qJ.cells t x toks)] H) i=some blk->i=base/\blk= .cells t x toks:=by
  intro i blk hi z;simp only[qQ,aFR] at hi;subst hi;simp only[r7,qO,aHb,aFy] at z;exact⟨rfl,z.symm⟩
 have perm: ∀i blk b o,i∈qQ [(base,qJ.cells t x toks)]->qO (r7 [(base,qJ.cells t x toks)] H) i=some blk->sH (g.var base w.heap.size (some (e,cs.length))) i blk b o->w.heap.size<=b\/sY g H (qQ [(base,qJ.cells t x toks)]) b o:=by
  intro i blk b o hi z ho;obtain⟨rfl,rfl⟩:=get i blk hi z;obtain⟨p,hp,U,_⟩:=ho;rw[E] at hp;obtain rfl:=aFE hp;exact .inl (aG9 U.symm)
 have hl:=sZ O;refine⟨le,⟨.inr ⟨rfl,_,E,rfl⟩,trivial⟩,hH.upd le fr perm gho (fun i blk hi z=>?_) (fun i j bi bj b o hi M G K I _ _=>G ((get i bi hi K).1.trans (get j bj M I).1.symm)) (fun b o h=>aF9 (hH.sl b o h) pR),fr,perm,gho,fun i u' y us h=>by
  simp only[r7,qO] at h;split at h
  .rename_i e1;subst e1;exact .inr ⟨hf,fun n=>by rw[R]⟩
  exact .inl ⟨y,us,h⟩⟩
 obtain⟨rfl,rfl⟩:=get i blk hi z;refine⟨_,cs,E,wT le2 O,fun j v Q=>?_,⟨fun j M=>?_,fun _ s D=>?_⟩,fun j _ D=>aHk _ (hH.sl _ _ D),Ll le.cur F⟩
 .simp only[aF6];rw[aGY];simpa using Q
 .simp only[aF6];rw[aGY,World.frozen?_alloc_new];exact⟨by simp;omega,rfl⟩
 cases D;show (match (w.heap.push (.cells cs.toArray e))[w.heap.size]? with|some (.cells c elem _)=>some (elem,c.size) |_=>none)=_
 rw[aHA];simp only[aGy]
theorem rR.newVar {side:List Prop}{rds:pZ}{base:Nat}{t:Ty}{x:t.den}{toks:pU}{cs:pW}{e:TypeId}(D:Rd g w t x cs) (j:HS g t x cs toks) (hf:g.J base=none) (z:g.cur base=fun _=>none):
  rR g w H ⟨side,(.val .ref (some (base,0)),none),[(base,.cells t x toks)],rds⟩ (g.var base w.heap.size (some (e,cs.length))) (w.alloc (.cells cs.toArray e)) (.pointer (some ⟨w.heap.size,0,none⟩)):=
 rR.newVarJ hH (wT (g:=g) (g':=g.var base w.heap.size (some (e,cs.length))) (w:=w) (w':=w) ⟨fun _ _ h=>h,fun _ _ _=>rfl,fun i p h=>by
  show (if i=base then _ else _)=_;rw[aFA (fun e1=>by rw[e1,hf] at h;cases h)];exact h,fun _ _ _ h=>h⟩ D) j hf z
end
theorem Mj {P:Program}(w:q8) (t ty e:TypeId) (i:TypeInfo) (z:q9) (size bytes:Nat) (Z:P.underlying t=some (.slice e)) (hi:P.info? e=some i) (hz:i.zero=some z)
  (O:i.size=size) (hh:i.bytes=bytes) (ha:z.cells.size=size)
  (v:q9) (n:Nat) (xs:pW) (D:w.ownsRow 0 e size v n xs)
  (a:Addr) (m c:Nat) (news:pW) (hl:news.length=m*size) (F: ∀j u,news[j]? =some u->w.cell? (a.add j)=some u) (h1: ∀u∈news,u.oneCell'=true) (hm:0<m)
  (U:n+m<=maxLen) (I:(n+m)*bytes<=140737488355328):
  ∃q cap w',(Builtin.append_ #[t,t] ty #[v,.slice (some a) m c]).run P w= .ok (.slice (some ⟨q,0,none⟩) (n+m) cap) w'/\w'.ownsRow 0 e size (.slice (some ⟨q,0,none⟩) (n+m) cap) (n+m) (xs++news)/\
   (q=w.heap.size\/v.ownBlock=some q)/\w.grownBy w' v.ownBlock/\n+m<=cap/\
   ∀b o,b<w.heap.size->(v.ownBlock=some b->o<n*size)->w'.cell? ⟨b,o,none⟩=w.cell? ⟨b,o,none⟩:=by
 subst O;subst hh;have Y:n+m<=9223372036854775807:=by simp only[maxLen] at U;omega
 have G:(xs++news).length=(n+m)*i.size:=by rw[aFD,D.1,hl,Nat.add_mul]
 have grown: ∀(old:Nat),old<n+m->∀(row:pY),
   (w.drew.alloc (.cells (xs.toArray++news.toArray++Builtin.zeroCells z.cells (grownCap w (n+m) old e- (n+m))) e)).ownsRow 0 e i.size
    (.slice (some ⟨w.heap.size,0,none⟩) (n+m) (grownCap w (n+m) old e)) (n+m) (xs++news)/\
   w.grownBy (w.drew.alloc (.cells (xs.toArray++news.toArray++Builtin.zeroCells z.cells (grownCap w (n+m) old e- (n+m))) e)) row/\n+m<=grownCap w (n+m) old e/\
   ∀b o,b<w.heap.size->(w.drew.alloc (.cells (xs.toArray++news.toArray++Builtin.zeroCells z.cells (grownCap w (n+m) old e- (n+m))) e)).cell? ⟨b,o,none⟩=w.cell? ⟨b,o,none⟩:=by
  intro old ho row;have R:=grownCap_ge w (n+m) old e;have hcm:grownCap w (n+m) old e<=maxLen:=grownCap_le_maxLen w (n+m) old e U;refine⟨⟨G,.inr ⟨w.heap.size,_,_,rfl,aGu _,aHH w.drew _,R,hcm,?_,?_⟩⟩,⟨rfl,rfl,rfl,by simp,fun k hk _=>aF5 w.drew _ k hk⟩,R,fun b o hb=>aFY (w:=w) (a:=⟨b,o,none⟩) (aF5 w.drew _ b hb)⟩
  .simp only[aHJ,aGy,size_zeroCells,ha,D.1,hl,<-Nat.add_mul];congr 1;omega
  simp only[Array.toList_append,aFO];rw[<-aFO,<-G];exact aHa
 rcases D.2 with⟨rfl,rfl⟩ |⟨g,cap,cur,rfl,hj,X,hn,hcm,he,M⟩
 .have hx:xs=[]:=aF4 (by simpa using D.1);subst hx;have hr:=run_append_nil (P:=P) w t ty e i z Z hi hz a m c news hl F pP pP (by have hb:=I;simp only[aF6] at hb;omega);have h:=grown 0 pP (Value.ownBlock (.slice none 0 0));simp only[aF6,List.nil_append,Array.empty_append] at h|-;exact⟨_,_,_,hr,h.1,.inl rfl,h.2.1,h.2.2.1,fun b o hb _=>h.2.2.2 b o hb⟩
 by_cases E:n+m<=cap
 .have V:n*i.size+news.length<=cur.size:=by rw[hl,he,<-Nat.add_mul];exact aGM _ E
  have hr:=run_append_room (P:=P) w t ty e i Z hi g n cap cur X a m c news hl F h1 E V;refine⟨_,_,_,hr,⟨G,.inr ⟨g,cap,_,rfl,hj,aHK w g cur _ e _ X,E,hcm,?_,?_⟩⟩,.inr rfl,⟨rfl,rfl,rfl,by simp,fun k _ hk=>aHr w g k _ (fun e=>hk (by simp [Value.ownBlock,e]))⟩,E,fun b o hb hc=>?_⟩
  .simp only[aGy,aFD,aGh,aGa,aGv];omega
  .rw[M,<-G];exact aHa
  by_cases K:b=g
  .subst K;have ho:=hc rfl;rw[cell_setRow_same w b o cur _ e _ X,cell_of_row w b o cur e (0,0) X];have hd:o<(cur.toList.take (n*i.size)).length:=by rw[aGh,aGv];omega
   rw[aFO,List.getElem?_toArray,aFU hd,List.getElem?_take,aFz ho,aGF]
  exact aFY (w:=w) (a:=⟨b,o,none⟩) (aHr w g b _ K)
 have Q: ∀j u,xs[j]? =some u->w.cell? ((⟨g,0,none⟩:Addr).add j)=some u:=D.cells (g:=g) rfl;have hr:=run_append_grow (P:=P) w t ty e i z Z hi hz ⟨g,0,none⟩ n cap xs D.1 Q a m c news hl F pP pP (growslice_fits pP I);have h:=grown cap pP (Value.ownBlock (.slice (some ⟨g,0,none⟩) n cap));exact⟨_,_,_,hr,h.1,.inl rfl,h.2.1,h.2.2.1,fun b o hb _=>h.2.2.2 b o hb⟩
theorem gv {w:q8}{e:TypeId}{c n:Nat}{q cap:Nat}{xs:pW}(h:w.ownsRow 0 e c (.slice (some ⟨q,0,none⟩) n cap) n xs):w.rangeAt q 0 xs:=fun j u z=>by
 have:=h.cells (g:=q) rfl j u z;rwa [aGP] at this
theorem a4U (w:q8) (a:Addr) (v:q9) (b:Nat):(w.setCell a v).shape? b=w.shape? b:=by
 unfold World.shape? World.setCell;simp only[aGG];by_cases h:a.block=b
 .rw[aFz h];cases hb:w.heap[b]? with
  |none=>rfl
  |some x=>
   cases x with
   |cells c e f=>
    simp only[Option.map_some];split<;>simp
   |_=>rfl
 rw[aFA h]
theorem RT (b:Nat): ∀(l:pW) (o:Nat) (w:q8) (b':Nat),(w.setCells b o l).shape? b'=w.shape? b'
 |[],_,_,_=>rfl
 |v::l,o,w,b'=>by rw[World.setCells,RT b l,a4U]
section
variable {g:Gh}{w:q8}{H:sF}(hH:sK g w H)
include hH
theorem rR.append {side:List Prop}{rds:pZ}{k e c n:Nat}{u:Ty}{l r:List u.den}{w':q8}{q cap:Nat}{v:q9}{xs news:pW}(hk:qO H k=some (.grow e c n)) (hc:c=u.cells)
  (Z:l.length=n) (hv:g.cur k n=some v) (hh:w.ownsRow 0 e c v n xs) (F: ∀m,n<m->g.cur k m=none) (E: ∀b,v.ownBlock=some b->∀o,g.S b o->o<n*c) (hl:uD (Rd g w u) c l xs) (hr:uD (Rd g w u) c r news) (hm:0<r.length)
  (ho:w'.ownsRow 0 e c (.slice (some ⟨q,0,none⟩) (n+r.length) cap) (n+r.length) (xs++news)) (hq:q=w.heap.size\/v.ownBlock=some q) (G:w.grownBy w' v.ownBlock) (U:n+r.length<=cap)
  (O: ∀b o,b<w.heap.size->(v.ownBlock=some b->o<n*c)->w'.cell? ⟨b,o,none⟩=w.cell? ⟨b,o,none⟩):
  rR g w H ⟨side,(.val (.list u) (l++r),some k),[(k,.grow e c (n+r.length))],rds⟩ ((g.tok k (n+r.length) (.slice (some ⟨q,0,none⟩) (n+r.length) cap)).shut q ((n+r.length)*c)) w' (.slice (some ⟨q,0,none⟩) (n+r.length) cap):=by
 have Y:=F (n+r.length) pP;have z: ∀o b,v.ownBlock=some b->sY g H (qQ [(k,qJ.grow e c (n+r.length))]) b o:=fun o b hb=>⟨k,_,by simp [qQ],hk,v,hv,hb⟩;have R:q<w'.heap.size:=(ho.lt q rfl).2;have le:Le g w ((g.tok k (n+r.length) (.slice (some ⟨q,0,none⟩) (n+r.length) cap)).shut q ((n+r.length)*c)) w':=⟨fun _ _ h=> .inl h,fun b o h=>O b o (hH.sl b o h) (fun hb=>E b hb o h),fun _ _ h=>h,fun k' n' v' h=>by
  show (if k'=k/\n'=n+r.length then _ else _)=_;rw[aFA (fun⟨e1,e2⟩=>by rw[e1,e2,Y] at h;cases h)];exact h⟩
 have fr:Fr (sY g H (qQ [(k,qJ.grow e c (n+r.length))])) w w' g.S ((g.tok k (n+r.length) (.slice (some ⟨q,0,none⟩) (n+r.length) cap)).shut q ((n+r.length)*c)).S:=by
  have M: ∀b,b<w.heap.size->∀o,¬sY g H (qQ [(k,qJ.grow e c (n+r.length))]) b o->w'.heap[b]? =w.heap[b]? :=fun b hb o D=>G.block b hb (fun e1=>D (z o b e1.symm));refine⟨G.os,G.tape,G.output,G.size,fun b hb D=>M b hb 0 (D 0),fun b o hb D=>⟨aFY (a:=⟨b,o,none⟩) (M b hb o D),aGn (a:=⟨b,o,none⟩) (M b hb o D)⟩,fun b o h=>?_,fun b s hs=>?_⟩
  rotate_left
  .by_cases e1:v.ownBlock=some b
   .exact .inr fun o=>z o b e1
   exact .inl ((CC (G.block b (CB hs) (fun h=>e1 h.symm))).trans hs)
  rcases h with h|⟨rfl,_⟩
  .exact .inl h
  rcases hq with h|h
  .exact .inr (.inl (aG9 h.symm))
  exact .inr (.inr (z o b h))
 have gho: ∀i,i∉qQ [(k,qJ.grow e c (n+r.length))]->((g.tok k (n+r.length) (.slice (some ⟨q,0,none⟩) (n+r.length) cap)).shut q ((n+r.length)*c)).J i=g.J i/\((g.tok k (n+r.length) (.slice (some ⟨q,0,none⟩) (n+r.length) cap)).shut q ((n+r.length)*c)).cur i=g.cur i:=fun i hi=>⟨rfl,by
  funext n';show (if i=k/\n'=n+r.length then _ else _)=_;rw[aFA (fun⟨e1,_⟩=>hi (by simp [qQ,e1]))]⟩
 have cur1:((g.tok k (n+r.length) (.slice (some ⟨q,0,none⟩) (n+r.length) cap)).shut q ((n+r.length)*c)).cur k (n+r.length)=some (.slice (some ⟨q,0,none⟩) (n+r.length) cap):=by
  show (if k=k/\n+r.length=n+r.length then _ else _)=_;simp
 have get: ∀i blk,i∈qQ [(k,qJ.grow e c (n+r.length))]->qO (r7 [(k,qJ.grow e c (n+r.length))] H) i=some blk->i=k/\blk= .grow e c (n+r.length):=by
  intro i blk hi G;simp only[qQ,aFR] at hi;subst hi;simp only[r7,qO,aHb,aFy] at G;exact⟨rfl,G.symm⟩
 have perm: ∀i blk b o,i∈qQ [(k,qJ.grow e c (n+r.length))]->qO (r7 [(k,qJ.grow e c (n+r.length))] H) i=some blk->sH ((g.tok k (n+r.length) (.slice (some ⟨q,0,none⟩) (n+r.length) cap)).shut q ((n+r.length)*c)) i blk b o->w.heap.size<=b\/sY g H (qQ [(k,qJ.grow e c (n+r.length))]) b o:=by
  intro i blk b o hi K X;obtain⟨rfl,rfl⟩:=get i blk hi K;obtain⟨v',Q,hb⟩:=X;rw[cur1] at Q;obtain rfl:=aFE Q;cases hb;rcases hq with h|h
  .exact .inl (aG9 h.symm)
  exact .inr (z o _ h)
 have hF:uD (Rd ((g.tok k (n+r.length) (.slice (some ⟨q,0,none⟩) (n+r.length) cap)).shut q ((n+r.length)*c)) w' u) u.cells (l++r) (xs++news):=hc▸CX (fun _ _ h=>wT le h) (gc hl hr);have I:(l++r).length=n+r.length:=by rw[aFD,Z]
 refine⟨le,⟨.inr ⟨rfl,some ⟨q,0,none⟩,cap,by rw[I],by rw[I];exact U,.inr ⟨q,0,rfl,JW hF (gv ho) (fun j V=>?_)⟩⟩,?_⟩,hH.upd le fr perm gho (fun i blk hi K=>?_) (fun i j bi bj b o hi V ha he hd _ _=>ha ((get i bi hi he).1.trans (get j bj V hd).1.symm)) (fun b o h=>?_),fr,perm,gho,fun i u' y us h=>by
  simp only[r7,qO] at h;split at h
  .cases h
  exact .inl ⟨y,us,h⟩⟩
 .right;rw[I] at V;exact⟨rfl,by rw[hc];omega⟩
 .show _=_;rw[I];exact cur1
 .obtain⟨rfl,rfl⟩:=get i blk hi K;refine⟨_,_,cur1,ho,fun m hn=>?_,fun b hb o h=>?_⟩
  .show (if i=i/\m=n+r.length then _ else _)=_;rw[aFA pP];exact F m pP
  cases hb;rcases h with h|⟨_,h⟩
  .rcases hq with h2|h2
   .have:q<w.heap.size:=hH.sl _ _ h;omega
   have:=E _ h2 o h;rw[Nat.add_mul];omega
  exact h
 rcases h with h|⟨rfl,_⟩
 .exact aF9 (hH.sl b o h) G.size
 exact R
theorem rR.lit {side:List Prop}{rds:pZ}{base e c n:Nat}{u:Ty}{l:List u.den}{cs:pW}(U:c=u.cells) (z:l.length=n) (hl:uD (Rd g w u) c l cs) (X:n<=maxLen) (hf: ∀m,g.cur base m=none):
  rR g w H ⟨side,(.val (.list u) l,some base),[(base,.grow e c n)],rds⟩ ((g.tok base n (.slice (some ⟨w.heap.size,0,none⟩) n n)).shut w.heap.size (n*c)) (w.alloc (.cells cs.toArray e)) (.slice (some ⟨w.heap.size,0,none⟩) n n):=by
 have D:=MD hl;have le:Le g w ((g.tok base n (.slice (some ⟨w.heap.size,0,none⟩) n n)).shut w.heap.size (n*c)) (w.alloc (.cells cs.toArray e)):=⟨fun _ _ h=> .inl h,fun b o h=>aFY (a:=⟨b,o,none⟩) (aF5 _ _ _ (hH.sl b o h)),fun _ _ h=>h,fun k' n' v' h=>by
  show (if k'=base/\n'=n then _ else _)=_;rw[aFA (fun⟨e1,e2⟩=>by rw[e1,hf] at h;cases h)];exact h⟩
 have fr:Fr (sY g H (qQ [(base,qJ.grow e c n)])) w (w.alloc (.cells cs.toArray e)) g.S ((g.tok base n (.slice (some ⟨w.heap.size,0,none⟩) n n)).shut w.heap.size (n*c)).S:=
  ⟨rfl,rfl,rfl,by simp,fun b hb _=>aF5 _ _ _ hb,fun b o hb _=>⟨aFY (a:=⟨b,o,none⟩) (aF5 _ _ _ hb),aGn (a:=⟨b,o,none⟩) (aF5 _ _ _ hb)⟩,fun b o h=>h.imp id fun h=> .inl (aG9 h.1.symm),fun b s h=> .inl ((CC (aF5 _ _ _ (CB h))).trans h)⟩
 have gho: ∀i,i∉qQ [(base,qJ.grow e c n)]->((g.tok base n (.slice (some ⟨w.heap.size,0,none⟩) n n)).shut w.heap.size (n*c)).J i=g.J i/\((g.tok base n (.slice (some ⟨w.heap.size,0,none⟩) n n)).shut w.heap.size (n*c)).cur i=g.cur i:=fun i hi=>⟨rfl,by
  funext n';show (if i=base/\n'=n then _ else _)=_;rw[aFA (fun⟨e1,_⟩=>hi (by simp [qQ,e1]))]⟩
 have cur1:((g.tok base n (.slice (some ⟨w.heap.size,0,none⟩) n n)).shut w.heap.size (n*c)).cur base n=some (.slice (some ⟨w.heap.size,0,none⟩) n n):=by
  show (if base=base/\n=n then _ else _)=_;simp
 have get: ∀i blk,i∈qQ [(base,qJ.grow e c n)]->qO (r7 [(base,qJ.grow e c n)] H) i=some blk->i=base/\blk= .grow e c n:=by
  intro i blk hi R;simp only[qQ,aFR] at hi;subst hi;simp only[r7,qO,aHb,aFy] at R;exact⟨rfl,R.symm⟩
 have perm: ∀i blk b o,i∈qQ [(base,qJ.grow e c n)]->qO (r7 [(base,qJ.grow e c n)] H) i=some blk->sH ((g.tok base n (.slice (some ⟨w.heap.size,0,none⟩) n n)).shut w.heap.size (n*c)) i blk b o->w.heap.size<=b\/sY g H (qQ [(base,qJ.grow e c n)]) b o:=by
  intro i blk b o hi E K;obtain⟨rfl,rfl⟩:=get i blk hi E;obtain⟨v',F,hb⟩:=K;rw[cur1] at F;obtain rfl:=aFE F;cases hb;exact .inl (aFW _)
 have Y:uD (Rd ((g.tok base n (.slice (some ⟨w.heap.size,0,none⟩) n n)).shut w.heap.size (n*c)) (w.alloc (.cells cs.toArray e)) u) u.cells l cs:=U▸CX (fun _ _ h=>wT le h) hl;have I:(w.alloc (.cells cs.toArray e)).rangeAt w.heap.size 0 cs:=fun j v V=>by
  rw[aF6,aGY];simpa using V
 refine⟨le,⟨.inr ⟨rfl,some ⟨w.heap.size,0,none⟩,n,by rw[z],by rw[z];exact aFW _,.inr ⟨w.heap.size,0,rfl,JW Y I (fun j G=>?_)⟩⟩,?_⟩,hH.upd le fr perm gho (fun i blk hi E=>?_) (fun i j bi bj b o hi G M Q O _ _=>M ((get i bi hi Q).1.trans (get j bj G O).1.symm)) (fun b o h=>?_),fr,perm,gho,fun i u' y us h=>by
  simp only[r7,qO] at h;split at h
  .cases h
  exact .inl ⟨y,us,h⟩⟩
 .right;rw[z] at G;exact⟨rfl,by rw[U];omega⟩
 .show _=_;rw[z];exact cur1
 .obtain⟨rfl,rfl⟩:=get i blk hi E;refine⟨_,cs,cur1,⟨by rw[D,z],.inr ⟨w.heap.size,n,cs.toArray,rfl,aGu _,aHH w _,aFW _,X,by simp [D,z],by simp [<-z,<-D]⟩⟩,fun m Z=>?_,fun b hb o h=>?_⟩
  .show (if i=i/\m=n then _ else _)=_;rw[aFA pP];exact hf m
  cases hb;rcases h with h|⟨_,h⟩
  .exact absurd (hH.sl _ _ h) (aHk _)
  exact h
 rcases h with h|⟨rfl,_⟩
 .exact aF9 (hH.sl b o h) pR
 simp
theorem gw: ∀{toks:pU}{off n q k:Nat},(q,k)∈tK toks off n->(q,k)∈toks/\¬(off<=q/\q<off+n)
 |[],_,_,_,_,h=>by simp [tK] at h
 |(q',k')::r,off,n,q,k,h=>by
  simp only[tK] at h;split at h
  .obtain⟨z,j⟩:=gw h;exact⟨aFK _ z,j⟩
  rename_i D;rcases aFN.1 h with h|h
  .cases h;exact⟨by simp,D⟩
  obtain⟨z,j⟩:=gw h;exact⟨aFK _ z,j⟩
theorem a4V {u:Ty}{y:u.den}: ∀{t:Ty}{x z:t.den}{o:Nat},u.isRow=false->sQ u y t x o=some z->rE u t z o=some y:=by
 intro t
 induction t with
 |pair a b iha ihb=>
  intro x z o j h;have D:u≠.pair a b:=by intro e;rw[e] at j;cases j
  have key: ∀o,(if o<a.cells then(sQ u y a x.1 o).map (fun q=>(q,x.2)) else(sQ u y b x.2 (o-a.cells)).map (fun q=>(x.1,q)))=some z->
    (if o<a.cells then rE u a z.1 o else rE u b z.2 (o-a.cells))=some y:=by
   intro o h;by_cases ho:o<a.cells
   .rw[aFz ho] at h|-;obtain⟨q,hq,rfl⟩:=aFQ.1 h;exact iha j hq
   rw[aFA ho] at h|-;obtain⟨q,hq,rfl⟩:=aFQ.1 h;exact ihb j hq
  cases o with
  |zero=>
   unfold sQ at h;unfold rE;rw[aG3 D] at h;rw[aG3 (Ne.symm D)];have:=key 0 (by simpa using h);simpa using this
  |succ o=>
   have:=key (o+1) (by simpa[sQ] using h);simpa[rE] using this
 |_=>
  intro x z o j h;cases o with
  |zero=>
   unfold sQ at h;split at h
   .rename_i e;subst e;simp only[uG,aFy] at h
    try subst h
    unfold rE;simp [uG]
   .simp at h
  |succ o=>simp [sQ] at h
theorem X0 {u v:Ty}{y:u.den}: ∀{t:Ty}{x z:t.den}{o q:Nat}{l:(Ty.list v).den},sQ u y t x o=some z->rE (.list v) t x q=some l->¬(o<=q/\q<o+u.cells)->rE (.list v) t z q=some l:=by
 intro t
 induction t with
 |pair a b iha ihb=>
  intro x z o q l h g hq;by_cases E:o=0/\u= .pair a b
  .obtain⟨rfl,rfl⟩:=E;exfalso;apply hq;have: ∀(t:Ty) (x:t.den) (q:Nat) (l:(Ty.list v).den),rE (.list v) t x q=some l->q<t.cells:=by
    intro t
    induction t with
    |pair s t ihs iht=>
     intro x q l g;have key: ∀q,(if q<s.cells then rE (.list v) s x.1 q else rE (.list v) t x.2 (q-s.cells))=some l->q<s.cells+t.cells:=by
      intro q g;by_cases h:q<s.cells
      .omega
      rw[aFA h] at g;have:=iht _ _ _ g;omega
     cases q with
     |zero=>
      unfold rE at g;rw[aG3 (by intro e;cases e)] at g;exact key 0 (by simpa using g)
     |succ q=>exact key (q+1) (by simpa[rE] using g)
    |_=>
     intro x q l g;cases q with
     |zero=>first|(simp [Ty.cells];done) |(unfold rE at g;simp at g)
     |succ q=>simp [rE] at g
   exact⟨aGu _,by simpa using this _ _ _ _ g⟩
  .have keyh:(if o<a.cells then(sQ u y a x.1 o).map (fun q=>(q,x.2)) else(sQ u y b x.2 (o-a.cells)).map (fun q=>(x.1,q)))=some z:=by
    cases o with
    |zero=>
     unfold sQ at h;rw[aG3 (fun e=>E ⟨rfl,e⟩)] at h;simpa using h
    |succ o=>simpa[sQ] using h
   have keyg: ∀x:(Ty.pair a b).den,rE (.list v) (.pair a b) x q=(if q<a.cells then rE (.list v) a x.1 q else rE (.list v) b x.2 (q-a.cells)):=by
    intro x;cases q with
    |zero=>
     conv=>lhs;unfold rE
     rw[aG3 (by intro e;cases e),Nat.zero_sub]
    |succ q=>simp [rE]
   rw[keyg] at g|-;by_cases ho:o<a.cells
   .rw[aFz ho] at keyh;obtain⟨z',D,rfl⟩:=aFQ.1 keyh;by_cases j:q<a.cells
    .rw[aFz j] at g|-;exact iha D g hq
    rw[aFA j] at g|-;exact g
   .rw[aFA ho] at keyh;obtain⟨z',D,rfl⟩:=aFQ.1 keyh;by_cases j:q<a.cells
    .rw[aFz j] at g|-;exact g
    .rw[aFA j] at g|-;exact ihb D g pP
 |unit=>
  intro x z o q l h g hq;cases q with
  |zero=>
   unfold rE at g;rw[aG3 (by intro e;cases e)] at g;cases g
  |succ q=>simp [rE] at g
 |_=>
  intro x z o q l h g hq;cases o with
  |zero=>
   unfold sQ at h;split at h
   .rename_i e;subst e;cases q with
    |zero=>exact absurd ⟨aFW _,Nat.zero_lt_one⟩ hq
    |succ q=>simp [rE] at g
   .simp at h
  |succ o=>simp [sQ] at h
theorem rR.store {side:List Prop}{rds:pZ}{i:Nat}{u t:Ty}{x z:u.den}{y:t.den}{off:Nat}{toks:pU}{k:pY}{p:Pl}{cy:pW}{v:q9}(hb:qO H i=some (.cells u x toks)) (hp:g.J i=some p)
  (I:sQ t y u x off=some z) (hy:Rd g w t y cy) (hk:DW g t y v k) (hx: ∀a b,t= .pair a b->k=none) (hv:t.isRow=false->cy=[v]):
  rR g w H ⟨side,(.any,none),[(i,.cells u z (r7 (yA k off) (tK toks off t.cells)))],rds⟩ g (w.setCells p.1 (p.2+off) cy) undef/\w.there p.1 (p.2+off) cy.length:=by
 obtain⟨p',cs,hc,hR,ha,O,hd,ht⟩:=hH.blk i _ hb;rw[hp] at hc;obtain rfl:=aFE hc;obtain⟨c1,c2,c3,hF,hu,he,hz⟩:=RN hy hR I;subst hF;subst hu;have hG:=sZ hR;have Y:=sZ hy;simp only[aFD] at hG;have D:w.there p.1 (p.2+c1.length) cy.length:=fun j U=>by
  have:=O.1 (c1.length+j) pP;rwa [<-aGj] at this
 have E: ∀b o,(b=p.1->o<p.2+c1.length\/p.2+c1.length+cy.length<=o)->(w.setCells p.1 (p.2+c1.length) cy).cell? ⟨b,o,none⟩=w.cell? ⟨b,o,none⟩:=fun b o h=>World.cell?_setCells_out p.1 cy _ w ⟨b,o,none⟩ (fun e _=>h e);have hn: ∀b o,b=p.1->p.2+c1.length<=o->o<p.2+c1.length+cy.length->sH g i (.cells u x toks) b o:=fun b o e F G=>⟨p,hp,e,pP,pP⟩;have Z:(w.setCells p.1 (p.2+c1.length) cy).heap.size=w.heap.size:=by
  have: ∀(l:pW) (o:Nat) (w:q8),(w.setCells p.1 o l).heap.size=w.heap.size:=by
   intro l
   induction l with
   |nil=>intro o w;rfl
   |cons v l ih=>intro o w;rw[World.setCells,ih];simp [World.setCell]
  exact this _ _ _
 have hI: ∀b,b≠p.1->(w.setCells p.1 (p.2+c1.length) cy).heap[b]? =w.heap[b]? :=by
  intro b hb;have: ∀(l:pW) (o:Nat) (w:q8),(w.setCells p.1 o l).heap[b]? =w.heap[b]? :=by
   intro l
   induction l with
   |nil=>intro o w;rfl
   |cons v l ih=>intro o w;rw[World.setCells,ih];exact Below.heap_setCell _ _ _ _ hb
  exact this _ _ _
 have Q:(w.setCells p.1 (p.2+c1.length) cy).os=w.os/\(w.setCells p.1 (p.2+c1.length) cy).tape=w.tape/\(w.setCells p.1 (p.2+c1.length) cy).output=w.output:=by
  have: ∀(l:pW) (o:Nat) (w:q8),(w.setCells p.1 o l).os=w.os/\(w.setCells p.1 o l).tape=w.tape/\(w.setCells p.1 o l).output=w.output:=by
   intro l
   induction l with
   |nil=>intro o w;exact⟨rfl,rfl,rfl⟩
   |cons v l ih=>intro o w;rw[World.setCells];exact ih _ _
  exact this _ _ _
 have hB: ∀b o,g.S b o->¬(b=p.1/\p.2<=o/\o<p.2+u.cells):=fun b o X ⟨e,F,G⟩=>hd (o-p.2) pP (by rw[show p.2+(o-p.2)=o from by omega,<-e];exact X);have le:Le g w g (w.setCells p.1 (p.2+c1.length) cy):=⟨fun _ _ h=>h,fun b o h=>E b o (fun e=>by
  have:=hB b o h;rcases aGN o (p.2+c1.length) with F|F
  .exact .inl F
  rcases aGN o (p.2+c1.length+cy.length) with G|G
  .exact absurd ⟨e,pP,pP⟩ this
  exact .inr G),fun _ _ h=>h,fun _ _ _ h=>h⟩
 have K: ∀b o,sH g i (.cells u x toks) b o->sY g H (qQ [(i,qJ.cells u z (r7 (yA k c1.length) (tK toks c1.length t.cells)))]) b o:=fun b o h=>⟨i,_,by simp [qQ],hb,h⟩;have fr:Fr (sY g H (qQ [(i,qJ.cells u z (r7 (yA k c1.length) (tK toks c1.length t.cells)))])) w (w.setCells p.1 (p.2+c1.length) cy) g.S g.S:=by
  refine⟨Q.1,Q.2.1,Q.2.2,aG9 Z.symm,fun b hJ R=>?_,fun b o hJ R=>⟨E b o (fun e=>?_),World.frozen?_setCells _ _ _ _ _⟩,fun b o h=> .inl h,fun b s X=> .inl ((RT _ _ _ _ _).trans X)⟩
  .by_cases e:b=p.1
   .cases hE:cy with
    |nil=>rfl
    |cons q l=>exact absurd (K b (p.2+c1.length) (hn b _ e (aFW _) (by rw[hE];simp))) (R _)
   exact hI b e
  rcases aGN o (p.2+c1.length) with F|F
  .exact .inl F
  rcases aGN o (p.2+c1.length+cy.length) with G|G
  .exact absurd (K b o (hn b o e F G)) R
  exact .inr G
 have gho: ∀j,j∉qQ [(i,qJ.cells u z (r7 (yA k c1.length) (tK toks c1.length t.cells)))]->g.J j=g.J j/\g.cur j=g.cur j:=fun _ _=>⟨rfl,rfl⟩;have get: ∀j blk,j∈qQ [(i,qJ.cells u z (r7 (yA k c1.length) (tK toks c1.length t.cells)))]->qO (r7 [(i,qJ.cells u z (r7 (yA k c1.length) (tK toks c1.length t.cells)))] H) j=some blk->j=i/\blk= .cells u z (r7 (yA k c1.length) (tK toks c1.length t.cells)):=by
  intro j blk hi V;simp only[qQ,aFR] at hi;subst hi;simp only[r7,qO,aHb,aFy] at V;exact⟨rfl,V.symm⟩
 have perm: ∀j blk b o,j∈qQ [(i,qJ.cells u z (r7 (yA k c1.length) (tK toks c1.length t.cells)))]->qO (r7 [(i,qJ.cells u z (r7 (yA k c1.length) (tK toks c1.length t.cells)))] H) j=some blk->sH g j blk b o->w.heap.size<=b\/sY g H (qQ [(i,qJ.cells u z (r7 (yA k c1.length) (tK toks c1.length t.cells)))]) b o:=by
  intro j blk b o hi V ho;obtain⟨rfl,rfl⟩:=get j blk hi V;exact .inr (K b o ho)
 refine⟨⟨le,⟨trivial,trivial⟩,hH.upd le fr perm gho (fun j blk hi V=>?_) (fun i j bi bj b o hi U hA hD hC _ _=>hA ((get i bi hi hD).1.trans (get j bj U hC).1.symm)) (fun b o h=>by rw[Z];exact hH.sl b o h),fr,perm,gho,fun j u' y' us h=>by
  simp only[r7,qO] at h;split at h
  .rename_i e1;subst e1;simp only[aFy,qJ.cells.injEq] at h;obtain⟨rfl,_⟩:=h;exact .inl ⟨x,toks,hb⟩
  exact .inl ⟨y',us,h⟩⟩,D⟩
 obtain⟨rfl,rfl⟩:=get j blk hi V;refine⟨p,_,hp,wT le hz,fun q v hq=>?_,⟨fun q hq=>?_,fun h0 s X=>(RT _ _ _ _ _).trans (O.2 h0 s X)⟩,hd,?_⟩
 .by_cases F:q<c1.length
  .rw[E _ _ (fun _=> .inl pP)];refine ha q v ?_;rw[aFO,aFU F] at hq|-;exact hq
  by_cases G:q<c1.length+cy.length
  .have:=aG7 p.1 cy (p.2+c1.length) w (fun j U=>(D j U).1) (q-c1.length) pP;rw[show p.2+c1.length+(q-c1.length)=p.2+q from by omega] at this;rw[this];rw[aFO,aFJ pP,aFU pP] at hq;rw[<-hq,aFG pP]
  rw[E _ _ (fun _=> .inr pP)];refine ha q v ?_;rw[aFO,aFJ pP,aFJ pP] at hq|-;rw[he];rw[Y] at hq;exact hq
 .have hh:=O.1 q hq;refine⟨?_,by rw[World.frozen?_setCells];exact hh.2⟩;by_cases F:q<c1.length\/c1.length+cy.length<=q
  .rw[E _ _ (fun _=>by omega)];exact hh.1
  have:=aG7 p.1 cy (p.2+c1.length) w (fun j U=>(D j U).1) (q-c1.length) pP;rw[show p.2+c1.length+(q-c1.length)=p.2+q from by omega] at this;rw[this];rfl
 intro q kk hm;have M:(q,kk)∈yA k c1.length\/(q,kk)∈tK toks c1.length t.cells:=by
  cases k with
  |none=>exact .inr (by simpa[yA,r7] using hm)
  |some k=>
   simp only[yA,r7,aFN] at hm;rcases hm with hm|hm
   .exact .inl (by simp [yA,hm])
   exact .inr hm
 rcases M with hm|hm
 .cases k with
  |none=>simp [yA] at hm
  |some k=>
   simp only[yA,aFR,aF3] at hm;obtain⟨rfl,rfl⟩:=hm;cases t with
   |list t=>
    obtain rfl:=hv rfl;exact⟨t,y,v,a4V hH rfl I,by simp,hk⟩
   |pair a b=>cases hx a b rfl
   |_=>exact hk.elim
 obtain⟨F,G⟩:=gw hH hm;obtain⟨v',l,v1,g1,g2,g3⟩:=ht q kk F;refine⟨v',l,v1,X0 hH I g1 G,?_,g3⟩;rcases aGN q c1.length with h3|h3
 .rw[aFO,aFU h3] at g2|-;exact g2
 have h4:c1.length+t.cells<=q:=by omega
 rw[aFO,aFJ pP,aFJ pP] at g2|-;rw[Y];rw[he] at g2;exact g2
theorem AH.openS {side:List Prop}{rds:pZ}{i:Nat}{u u0:Ty}{el:Nat}{kn:pX}{x:u.den}{z: Σ t:Ty,t.den}{off:Nat}{toks:pU}{p:Pl}{cy:pW}(hb:qO H i=some (.cells u x toks)) (hp:g.J i=some p)
  (M:yX el u0 kn u x off=some z) (hy:C9 g kn cy) (he:cy.length=1) (hk:JG rds=true):
  AH g w H ⟨side,(.any,none),[(i,.cells z.1 z.2 [])],rds⟩ g (w.setCells p.1 (p.2+off) cy) undef/\w.there p.1 (p.2+off) cy.length:=by
 obtain⟨p',cs,ha,hR,Z,O,hc,hG⟩:=hH.blk i _ hb;rw[hp] at ha;obtain rfl:=aFE ha;obtain⟨c1,c2,c3,hC,ht,hn,hz⟩:=a4j hy hR M;subst hC;subst ht;have hD:=sZ hR;have K:=a4i M;simp only[aFD] at hD;have D:w.there p.1 (p.2+c1.length) cy.length:=fun j U=>by
  have:=O.1 (c1.length+j) pP;rwa [<-aGj] at this
 have E: ∀b o,(b=p.1->o<p.2+c1.length\/p.2+c1.length+cy.length<=o)->(w.setCells p.1 (p.2+c1.length) cy).cell? ⟨b,o,none⟩=w.cell? ⟨b,o,none⟩:=fun b o h=>World.cell?_setCells_out p.1 cy _ w ⟨b,o,none⟩ (fun e _=>h e);have hd: ∀b o,b=p.1->p.2+c1.length<=o->o<p.2+c1.length+cy.length->sH g i (.cells u x toks) b o:=fun b o e F I=>⟨p,hp,e,pP,pP⟩;have Y:(w.setCells p.1 (p.2+c1.length) cy).heap.size=w.heap.size:=by
  have: ∀(l:pW) (o:Nat) (w:q8),(w.setCells p.1 o l).heap.size=w.heap.size:=by
   intro l
   induction l with
   |nil=>intro o w;rfl
   |cons v l ih=>intro o w;rw[World.setCells,ih];simp [World.setCell]
  exact this _ _ _
 have hE: ∀b,b≠p.1->(w.setCells p.1 (p.2+c1.length) cy).heap[b]? =w.heap[b]? :=by
  intro b hb;have: ∀(l:pW) (o:Nat) (w:q8),(w.setCells p.1 o l).heap[b]? =w.heap[b]? :=by
   intro l
   induction l with
   |nil=>intro o w;rfl
   |cons v l ih=>intro o w;rw[World.setCells,ih];exact Below.heap_setCell _ _ _ _ hb
  exact this _ _ _
 have Q:(w.setCells p.1 (p.2+c1.length) cy).os=w.os/\(w.setCells p.1 (p.2+c1.length) cy).tape=w.tape/\(w.setCells p.1 (p.2+c1.length) cy).output=w.output:=by
  have: ∀(l:pW) (o:Nat) (w:q8),(w.setCells p.1 o l).os=w.os/\(w.setCells p.1 o l).tape=w.tape/\(w.setCells p.1 o l).output=w.output:=by
   intro l
   induction l with
   |nil=>intro o w;exact⟨rfl,rfl,rfl⟩
   |cons v l ih=>intro o w;rw[World.setCells];exact ih _ _
  exact this _ _ _
 have hv: ∀b o,g.S b o->¬(b=p.1/\p.2<=o/\o<p.2+u.cells):=fun b o X ⟨e,F,I⟩=>hc (o-p.2) pP (by rw[show p.2+(o-p.2)=o from by omega,<-e];exact X);have le:Le g w g (w.setCells p.1 (p.2+c1.length) cy):=⟨fun _ _ h=>h,fun b o h=>E b o (fun e=>by
  have:=hv b o h;rcases aGN o (p.2+c1.length) with F|F
  .exact .inl F
  rcases aGN o (p.2+c1.length+cy.length) with I|I
  .exact absurd ⟨e,pP,pP⟩ this
  exact .inr I),fun _ _ h=>h,fun _ _ _ h=>h⟩
 have G: ∀b o,sH g i (.cells u x toks) b o->sY g H (qQ [(i,qJ.cells z.1 z.2 [])]) b o:=fun b o h=>⟨i,_,by simp [qQ],hb,h⟩;have fr:Fr (sY g H (qQ [(i,qJ.cells z.1 z.2 [])])) w (w.setCells p.1 (p.2+c1.length) cy) g.S g.S:=by
  refine⟨Q.1,Q.2.1,Q.2.2,aG9 Y.symm,fun b hF R=>?_,fun b o hF R=>⟨E b o (fun e=>?_),World.frozen?_setCells _ _ _ _ _⟩,fun b o h=> .inl h,fun b s X=> .inl ((RT _ _ _ _ _).trans X)⟩
  .by_cases e:b=p.1
   .cases hB:cy with
    |nil=>rfl
    |cons q l=>exact absurd (G b (p.2+c1.length) (hd b _ e (aFW _) (by rw[hB];simp))) (R _)
   exact hE b e
  rcases aGN o (p.2+c1.length) with F|F
  .exact .inl F
  rcases aGN o (p.2+c1.length+cy.length) with I|I
  .exact absurd (G b o (hd b o e F I)) R
  exact .inr I
 have gho: ∀j,j∉qQ [(i,qJ.cells z.1 z.2 [])]->g.J j=g.J j/\g.cur j=g.cur j:=fun _ _=>⟨rfl,rfl⟩;have get: ∀j blk,j∈qQ [(i,qJ.cells z.1 z.2 [])]->qO (r7 [(i,qJ.cells z.1 z.2 [])] H) j=some blk->j=i/\blk= .cells z.1 z.2 []:=by
  intro j blk hi V;simp only[qQ,aFR] at hi;subst hi;simp only[r7,qO,aHb,aFy] at V;exact⟨rfl,V.symm⟩
 have perm: ∀j blk b o,j∈qQ [(i,qJ.cells z.1 z.2 [])]->qO (r7 [(i,qJ.cells z.1 z.2 [])] H) j=some blk->sH g j blk b o->w.heap.size<=b\/sY g H (qQ [(i,qJ.cells z.1 z.2 [])]) b o:=by
  intro j blk b o hi V ho;obtain⟨rfl,rfl⟩:=get j blk hi V;obtain⟨q,hq,e1,e2,e3⟩:=ho;rw[K] at e3;exact .inr (G b o ⟨q,hq,e1,e2,e3⟩)
 refine⟨⟨le,⟨trivial,trivial⟩,hH.upd le fr perm gho (fun j blk hi V=>?_) (fun i j bi bj b o hi U hu hA hx _ _=>hu ((get i bi hi hA).1.trans (get j bj U hx).1.symm)) (fun b o h=>by rw[Y];exact hH.sl b o h),fr,perm,gho,fun h=>by rw[hk] at h;cases h⟩,D⟩;obtain⟨rfl,rfl⟩:=get j blk hi V;refine⟨p,_,hp,wT le hz,fun q v hq=>?_,⟨fun q hq=>?_,fun h0 s X=>(RT _ _ _ _ _).trans (O.2 (by rw[<-K];exact h0) s X)⟩,fun q hq=>hc q (by rw[<-K];exact hq),fun _ _ hm=>by cases hm⟩
 .by_cases F:q<c1.length
  .rw[E _ _ (fun _=> .inl pP)];refine Z q v ?_;rw[aFO,aFU F] at hq|-;exact hq
  by_cases I:q<c1.length+cy.length
  .have:=aG7 p.1 cy (p.2+c1.length) w (fun j U=>(D j U).1) (q-c1.length) pP;rw[show p.2+c1.length+(q-c1.length)=p.2+q from by omega] at this;rw[this];rw[aFO,aFJ pP,aFU pP] at hq;rw[<-hq,aFG pP]
  rw[E _ _ (fun _=> .inr pP)];refine Z q v ?_;rw[aFO,aFJ pP,aFJ pP] at hq|-;rw[hn];rw[he] at hq;exact hq
 have hh:=O.1 q (by rw[<-K];exact hq);refine⟨?_,by rw[World.frozen?_setCells];exact hh.2⟩;by_cases F:q<c1.length\/c1.length+cy.length<=q
 .rw[E _ _ (fun _=>by omega)];exact hh.1
 have:=aG7 p.1 cy (p.2+c1.length) w (fun j U=>(D j U).1) (q-c1.length) pP;rw[show p.2+c1.length+(q-c1.length)=p.2+q from by omega] at this;rw[this];rfl
end
end Go.Proofs.YtcpbaddnmpeipaaGreatDoor.Vc
