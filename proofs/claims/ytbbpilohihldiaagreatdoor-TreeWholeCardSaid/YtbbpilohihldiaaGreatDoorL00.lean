/- Packed by a program of mine (wip/tools/pack.py): the same texts with short names and few blanks. -/
import Derived.Below
import Derived.Calls
import Derived.Deep.MidRow
import Derived.Deep.Upon
import Derived.Laws.AppendOwn
import Derived.Laws.BitsLemmas
import Derived.Laws.OwnMore
import Derived.MapKept
import Derived.Shelf.Unicode.DecodeSlow
import Derived.Still
import Derived.WalkKit
set_option linter.unusedVariables false
set_option linter.unusedSimpArgs false
set_option linter.unusedSectionVars false
set_option maxRecDepth 100000
set_option maxHeartbeats 4000000
set_option linter.defProp false
namespace Go.Proofs
def aQi:=@_root_.Option.bind_some
def aQj:=@_root_.if_pos
def aQk:=@_root_.Option.some.injEq
def aQl:=@_root_.if_neg
def aQm:=@_root_.List.length_append
def aQn:=@_root_.Option.isSome_iff_exists
def aQo:=@_root_.Option.some.inj
def aQp:=@_root_.List.length_cons
def aQq:=@_root_.decide_eq_true_eq
def aQr:=@_root_.Bool.and_eq_true
def aQs:=@_root_.List.getElem?_eq_getElem
def aQt:=@_root_.List.append_assoc
def aQu:=@_root_.Go.Result.andThen_ok
def aQv:=@_root_.List.getElem?_append_right
def aQw:=@_root_.List.length_drop
def aQx:=@_root_.List.mem_singleton
def aQy:=@_root_.List.mem_cons_of_mem
def aQz:=@_root_.Option.map_eq_some_iff
def aQA:=@_root_.List.getElem?_eq_some_iff
def aQB:=@_root_.Go.Sem.run_bind
def aQC:=@_root_.List.mem_cons
def aQD:=@_root_.Go.run_underlying
def aQE:=@_root_.List.getElem?_append_left
def aQF:=@_root_.Nat.le_refl
def aQG:=@_root_.List.length_nil
def aQH:=@_root_.List.mem_cons_self
def aQI:=@_root_.List.getD_eq_getElem?_getD
def aQJ:=@_root_.Array.getElem?_eq_some_iff
def aQK:=@_root_.Go.World.cell?_of_block
def aQL:=@_root_.List.drop_eq_getElem_cons
def aQM:=@_root_.List.length_take
def aQN:=@_root_.Go.Sem.run_pure
def aQO:=@_root_.Bool.not_eq_true'
def aQP:=@_root_.Go.RowKit.Below.heap_alloc
def aQQ:=@_root_.Prod.mk.injEq
def aQR:=@_root_.List.getElem?_cons_zero
def aQS:=@_root_.List.eq_nil_of_length_eq_zero
def aQT:=@_root_.Array.length_toList
def aQU:=@_root_.Array.getD_eq_getD_getElem?
def aQV:=@_root_.Nat.zero_add
def aQW:=@_root_.congrArg
def aQX:=@_root_.List.findIdx?_eq_some_iff_getElem
def aQY:=@_root_.decide_eq_false_iff_not
def aQZ:=@_root_.Nat.lt_of_lt_of_le
def aQ0:=@_root_.List.length_singleton
def aQ1:=@_root_.Nat.add_assoc
def aQ2:=@_root_.Int.toNat_natCast
def aQ3:=@_root_.List.drop_length
def aQ4:=@_root_.Nat.add_sub_cancel_left
def aQ5:=@_root_.List.getElem?_cons_succ
def aQ6:=@_root_.List.reverse_cons
def aQ7:=@_root_.List.any_eq_false
def aQ8:=@_root_.Int.le_refl
def aQ9:=@_root_.List.drop_drop
def aRa:=@_root_.of_decide_eq_true
def aRb:=@_root_.List.size_toArray
def aRc:=@_root_.Nat.zero_le
def aRd:=@_root_.List.singleton_append
def aRe:=@_root_.List.mem_append
def aRf:=@_root_.List.cons.injEq
def aRg:=@_root_.Bool.or_eq_true
def aRh:=@_root_.List.all_eq_true
def aRi:=@_root_.Go.World.frozen?_of_block
def aRj:=@_root_.Nat.le_trans
def aRk:=@_root_.Go.IntKind.wrap_i64
def aRl:=@_root_.Bool.not_eq_true
def aRm:=@_root_.List.findIdx?_cons
def aRn:=@_root_.Nat.succ_mul
def aRo:=@_root_.Array.getElem?_toList
def aRp:=@_root_.Go.run_program
def aRq:=@_root_.List.length_map
def aRr:=@_root_.Bool.eq_iff_iff
def aRs:=@_root_.decide_eq_true
def aRt:=@_root_.List.map_cons
def aRu:=@_root_.List.getElem?_eq_none
def aRv:=@_root_.Array.toList_inj
def aRw:=@_root_.List.take_left
def aRx:=@_root_.List.pairwise_iff_getElem
def aRy:=@_root_.List.take_append_drop
def aRz:=@_root_.Go.Addr.add_mid
def aRA:=@_root_.List.drop_zero
def aRB:=@_root_.Go.IntKind.wrap_u8
def aRC:=@_root_.Bool.false_eq_true
def aRD:=@_root_.List.pairwise_append
def aRE:=@_root_.Bool.or_eq_false_iff
def aRF:=@_root_.List.getElem_mem
def aRG:=@_root_.List.length_eq_one_iff
def aRH:=@_root_.List.length_pos_iff
def aRI:=@_root_.List.flatten_cons
def aRJ:=@_root_.List.flatMap_cons
def aRK:=@_root_.Array.getElem?_setIfInBounds_ne
def aRL:=@_root_.List.findIdx?_eq_none_iff
def aRM:=@_root_.Go.World.cell?_alloc_new
def aRN:=@_root_.Bool.and_eq_false_iff
def aRO:=@_root_.Array.getElem?_modify
def aRP:=@_root_.Bool.not_eq_false'
def aRQ:=@_root_.Option.getD_some
def aRR:=@_root_.List.take_append_of_le_length
def aRS:=@_root_.Array.toArray_toList
def aRT:=@_root_.List.length_eq_zero_iff
def aRU:=@_root_.Go.setRow_other
def aRV:=@_root_.Nat.lt_or_ge
def aRW:=@_root_.Nat.add_zero
def aRX:=@_root_.Classical.choose_spec
def aRY:=@_root_.List.drop_left
def aRZ:=@_root_.if_true
def aR0:=@_root_.Nat.le_of_eq
def aR1:=@_root_.List.pairwise_singleton
def aR2:=@_root_.List.getElem_of_mem
def aR3:=@_root_.Go.wpIn_mono
def aR4:=@_root_.List.range'_succ
def aR5:=@_root_.List.mem_range
def aR6:=@_root_.dif_neg
def aR7:=@_root_.List.pairwise_cons
def aR8:=@_root_.List.getElem?_take
def aR9:=@_root_.Array.getElem?_setIfInBounds
def aSa:=@_root_.Nat.le_of_ble_eq_true
def aSb:=@_root_.Go.Addr.add_lit
def aSc:=@_root_.Int.tmod_eq_emod_of_nonneg
def aSd:=@_root_.Nat.mul_le_mul_right
def aSe:=@_root_.Bool.false_and
def aSf:=@_root_.Array.getElem?_eq_getElem
def aSg:=@_root_.decide_eq_decide
def aSh:=@_root_.List.not_mem_nil
def aSi:=@_root_.List.mem_toArray
def aSj:=@_root_.Go.setRow_heap
def aSk:=@_root_.List.drop_succ_cons
def aSl:=@_root_.Nat.sub_self
def aSm:=@_root_.List.getElem?_take_of_lt
def aSn:=@_root_.Array.getElem?_push_size
def aSo:=@_root_.Go.World.cell?_setCells_in
def aSp:=@_root_.Nat.lt_irrefl
def aSq:=@_root_.List.append_inj
def aSr:=@_root_.Array.foldl_toList
def aSs:=@_root_.Go.Value.slice.injEq
def aSt:=@_root_.Nat.mul_one
def aSu:=@_root_.Array.size_append
def aSv:=@_root_.Go.heap_alloc_new
def aSw:=@_root_.dif_pos
def aSx:=@_root_.if_false
def aSy:=@_root_.Bool.false_ne_true
def aSz:=@_root_.beq_iff_eq
end Go.Proofs
namespace Go.Proofs.YtbbpilohihldiaaGreatDoor.Vc
def NG:Nat:=6
def a61:Nat:=106
def a62:List (Nat×Nat×Value):=[(5,15,.int .u8 4)]
def aGd (w:World):Prop:= ∀x∈a62,x.1<NG/\w.cell? ⟨x.1,x.2.1,none⟩=some x.2.2
def HZ (w:World):Prop:=NG<=w.heap.size/\Lib.Utf8Tabs 1 2 w/\(∃m,w.cell? ⟨0,0,none⟩=some (.int .i64 m))/\aGd w
theorem MQ {w w':World}(h:HZ w) (hs:w.heap.size<=w'.heap.size) (hb: ∀b,b<NG->w'.heap[b]? =w.heap[b]?):HZ w':=by
 obtain⟨h0,⟨h1,h2⟩,⟨m,h3⟩,h4⟩:=h;have hc: ∀b o,b<NG->w'.cell? ⟨b,o,none⟩=w.cell? ⟨b,o,none⟩:=fun b o h=>aQK (a:=⟨b,o,none⟩) (hb b h);refine⟨aRj h0 hs,⟨fun c hc'=> ?_,fun i hi=>⟨?_,?_⟩⟩,⟨m,?_⟩,fun x hx=>⟨(h4 x hx).1,(hc _ _ (h4 x hx).1).trans (h4 x hx).2⟩⟩
 ·rw[hc _ _ (by decide)];exact h1 c hc'
 ·rw[hc _ _ (by decide)];exact(h2 i hi).1
 ·rw[hc _ _ (by decide)];exact(h2 i hi).2
 ·rw[hc _ _ (by decide)];exact h3
attribute [go_sem] a61
inductive Ty where
 |bool|int (k:IntKind) |str|list (t:Ty) |unit|pair (a b:Ty) |ref|clo|mp|rl (e:Nat) (t:Ty) |mref|fn
 deriving DecidableEq
abbrev Ty.den:Ty->Type
 | .bool=>Bool
 | .int _=>Int
 | .str=>List UInt8
 | .list t=>List t.den
 | .unit=>Unit
 | .pair a b=>a.den×b.den
 | .ref=>Option (Nat×Nat)
 | .clo=>Option (Nat×List (Nat×Nat))
 | .mp=>Option Nat
 | .rl _ _=>Option (Nat×Nat)
 | .fn=>Option Nat
 | .mref=>Option (Nat×Nat)
@[go_sem] def Ty.cells:Ty->Nat
 | .unit=>0
 | .pair a b=>a.cells+b.cells
 | .bool| .int _| .str| .list _| .ref| .clo| .mp| .rl _ _| .mref| .fn=>1
@[go_sem] def Ty.zero:(t:Ty)->t.den
 | .bool=>false
 | .int _=>(0:Int)
 | .str=>[]
 | .list _=>[]
 | .unit=>()
 | .pair a b=>(a.zero,b.zero)
 | .ref=>none
 | .clo=>none
 | .mp=>none
 | .rl _ _=>none
 | .fn=>none
 | .mref=>none
@[go_sem] def Ty.isRow:Ty->Bool
 | .unit| .pair _ _=>true
 | .bool| .int _| .str| .list _| .ref| .clo| .mp| .rl _ _| .mref| .fn=>false
@[go_sem] def Ty.pure:Ty->Bool
 | .ref| .clo| .mp| .rl _ _| .mref=>false
 | .list t=>t.pure
 | .pair a b=>a.pure&&b.pure
 | .bool| .int _| .str| .unit| .fn=>true
def pZ (t:Ty) (l:List t.den) (i:Int):t.den:=l.getD i.toNat t.zero
def pL (l:List UInt8) (i:Int):Int:=((l.getD i.toNat 0).toNat:Int)
def sU {t u:Ty}(h:t=u) (x:t.den):u.den:=h▸x
@[go_sem] theorem K2 {t:Ty}(x:t.den):sU (rfl:t=t) x=x:=rfl
@[go_sem] def pX (u:Ty):(t:Ty)->t.den->Nat->Option u.den
 |t,x,0=>if h:t=u then some (sU h x) else match t,x with
  | .pair a b,x=>if 0<a.cells then pX u a x.1 0 else pX u b x.2 0
  |_,_=>none
 | .pair a b,x,o+1=>if o+1<a.cells then pX u a x.1 (o+1) else pX u b x.2 (o+1-a.cells)
 |_,_,_=>none
@[go_sem] def rO (u:Ty) (y:u.den):(t:Ty)->t.den->Nat->Option t.den
 |t,x,0=>if h:u=t then some (sU h y) else match t,x with
  | .pair a b,x=>if 0<a.cells then(rO u y a x.1 0).map (fun z=>(z,x.2)) else(rO u y b x.2 0).map (fun z=>(x.1,z))
  |_,_=>none
 | .pair a b,x,o+1=>if o+1<a.cells then(rO u y a x.1 (o+1)).map (fun z=>(z,x.2)) else(rO u y b x.2 (o+1-a.cells)).map (fun z=>(x.1,z))
 |_,_,_=>none
@[go_sem] def Ty.proj:(t:Ty)->t.den->Nat->Option (Σ u:Ty,u.den)
 | .pair a _,x,0=>some ⟨a,x.1⟩
 | .pair _ b,x,i+1=>b.proj x.2 i
 |_,_,_=>none
@[go_sem] def Ty.offs:Ty->Nat->Option Nat
 | .pair _ _,0=>some 0
 | .pair a b,i+1=>(b.offs i).map fun o=>a.cells+o
 |_,_=>none
@[go_sem] def Ty.fld:Ty->Nat->Option Ty
 | .pair a _,0=>some a
 | .pair _ b,i+1=>b.fld i
 |_,_=>none
@[go_sem] def Ty.setPart (u:Ty) (y:u.den):(t:Ty)->t.den->Nat->Option t.den
 | .pair a b,x,0=>if h:u=a then some (sU h y,x.2) else none
 | .pair a b,x,i+1=>(Ty.setPart u y b x.2 i).map fun z=>(x.1,z)
 |_,_,_=>none
inductive DV where
 |any
 |nilS
 |val (t:Ty) (x:t.den)
 |at (t:Ty) (x:t.den)
 |tup (l:List ((Σ t:Ty,t.den)×Option Nat))
 |cond (p:Bool) (d:DV)
 |flag (p q:Prop)
 |own (k n:Nat)
 |elt (k n c:Nat) (i:Int) (o:Nat)
 |nxt (b:Bool) (p c:Int)
abbrev pA:=DV×Option Nat
inductive p9 where
 |cells (t:Ty) (x:t.den) (toks:List (Nat×Nat))
 |grow (e:TypeId) (c:Nat) (n:Nat)
 |row (e:TypeId) (t:Ty) (l:List t.den) (n:Nat)
 |map (k v:Ty) (l:List (k.den×v.den))
 |iter (s:List UInt8) (p:Nat)
 |dead
structure St where
 env:List (Nat×pA)
 H:List (Nat×p9)
 nb:Nat
 N:Nat
 np:Nat:=0
@[go_sem] def lk:List (Nat×pA)->Nat->pA
 |[],_=>(.any,none)
 |(k,s)::r,t=>if k=t then s else lk r t
@[go_sem] def pC:List (Nat×p9)->Nat->Option p9
 |[],_=>none
 |(k,s)::r,t=>if k=t then some s else pC r t
structure TI where
 ty:Ty
 elem:TypeId:=0
 bytes:Nat:=0
 arr:Bool:=false
 ls:List (Nat×TypeId×Nat):=[]
abbrev rQ:=List (Nat×TI)
@[go_sem] def qQ:rQ->TypeId->Option TI
 |[],_=>none
 |(k,s)::r,t=>if k=t then some s else qQ r t
inductive PK where
 |v|own|p (t:Ty) (os:List Nat) |m|r|f (ks:List (Ty×List Nat))
structure pF where
 side:List Prop
 ret:List pA
 H:List p9
structure pY where
 ps:List PK
 C:List pA->List p9->Option pF
 gs:List (Nat×Nat×PK):=[]
 same:List Nat:=[]
 row:Option ((t:Ty)->List t.den->Option (List t.den)):=none
abbrev tG:=Nat->Option pY
structure pJ where
 side:List Prop
 slot:pA
 upd:List (Nat×p9)
 rds:List Nat
@[go_sem] def orE:Option pJ->Option pJ->Option pJ
 |some r,_=>some r
 |none,r=>r
@[go_sem] def AJ:Option (List Prop×DV)->Option pJ
 |some (p,d)=>some ⟨p,(d,none),[],[]⟩
 |none=>none
@[go_sem] def W3:Value->DV
 | .bool b=> .val .bool b
 | .int k n=> .val (.int k) n
 | .string s=> .val .str s.data.toList
 | .slice none 0 0=> .nilS
 | .pointer none=> .val .ref none
 | .nilFunc=> .val .clo none
 | .map none=> .val .mp none
 |_=> .any
@[go_sem] def sN (env:List (Nat×pA)):Operand->pA
 | .tmp t=>lk env t
 | .const v=>(W3 v,none)
 | .func f=>(.val .clo (some (f,[])),none)
 | .global _=>(.any,none)
@[go_sem] def MR:Option TI->pA->pA
 |some ⟨.list t,_,_,_,_⟩,(.nilS,_)=>(.val (.list t) [],none)
 |_,s=>s
@[go_sem] def I0:IntKind->Int->List Prop×DV
 | .i64,n=>([-9223372036854775808<=n/\n<=9223372036854775807],.val (.int .i64) n)
 |k,n=>([],.val (.int k) (k.wrap n))
@[go_sem] def pO {α:Type}:List α->List α->List α
 |[],m=>m
 |x::l,m=>x::pO l m
@[go_sem] def BE:(t:Ty)->t.den->t.den->Option Bool
 | .bool,a,b=>some (a==b)
 | .int _,a,b=>some (decide ((a:Int)=b))
 | .str,a,b=>some (decide ((a:List UInt8)=b))
 | .unit,_,_=>some true
 | .pair s t,a,b=>eqAnd (BE s a.1 b.1) (BE t a.2 b.2)
 |_,_,_=>none
where
 eqAnd:Option Bool->Option Bool->Option Bool
  |some x,some y=>some (x&&y)
  |_,_=>none
attribute [go_sem] BE.eqAnd
@[go_sem] def W4 (k:IntKind) (a b:Int):BinOp->Option (List Prop×DV)
 | .add=>some (I0 k (a+b))
 | .sub=>some (I0 k (a-b))
 | .mul=>some (I0 k (a*b))
 | .eql=>some ([],.val .bool (decide (a=b)))
 | .neq=>some ([],.val .bool (!decide (a=b)))
 | .lss=>some ([],.val .bool (decide (a<b)))
 | .leq=>some ([],.val .bool (decide (a<=b)))
 | .gtr=>some ([],.val .bool (decide (b<a)))
 | .geq=>some ([],.val .bool (decide (b<=a)))
 | .quo=>some ([b≠0],.val (.int k) (k.wrap (Int.tdiv a b)))
 | .rem=>some ([b≠0],.val (.int k) (Int.tmod a b))
 | .and=>some ([],.val (.int k) (bits .and k a b))
 | .or=>some ([],.val (.int k) (bits .or k a b))
 | .xor=>some ([],.val (.int k) (bits .xor k a b))
 | .andNot=>some ([],.val (.int k) (bits .andNot k a b))
 |_=>none
def W5 (k:IntKind) (a b:Int):Int:=k.wrap (a*2^min b.toNat k.bits)
def wJ (k:IntKind) (a b:Int):Int:=a.fdiv (2^min b.toNat k.bits)
@[go_sem] def a64 (k:IntKind) (a:Int) (k':IntKind) (b:Int):BinOp->Option (List Prop×DV)
 | .shl=>some ([0<=b],.val (.int k) (W5 k a b))
 | .shr=>some ([0<=b],.val (.int k) (wJ k a b))
 |op=>if k=k' then W4 k a b op else none
@[go_sem] def W6 (a b:List UInt8):BinOp->Option (List Prop×DV)
 | .add=>some ([((a++b).length:Int)<=9223372036854775807],.val .str (a++b))
 | .eql=>some ([],.val .bool (decide (a=b)))
 | .neq=>some ([],.val .bool (!decide (a=b)))
 | .lss=>some ([],.val .bool (Op.bytesLess a b))
 | .leq=>some ([],.val .bool (Op.bytesLess a b||decide (a=b)))
 | .gtr=>some ([],.val .bool (!(Op.bytesLess a b||decide (a=b))))
 | .geq=>some ([],.val .bool (!Op.bytesLess a b))
 |_=>none
@[go_sem] def a65:BinOp->Option Bool->Option (List Prop×DV)
 | .eql,some r=>some ([],.val .bool r)
 | .neq,some r=>some ([],.val .bool (!r))
 |_,_=>none
@[go_sem] def QH (op:BinOp):pA->pA->Option (List Prop×DV)
 |(.val (.int k) a,_),(.val (.int k') b,_)=>a64 k a k' b op
 |(.val .str a,_),(.val .str b,_)=>W6 a b op
 |_,_=>none
@[go_sem] def a66 (u:Ty) (b:Nat) (op:BinOp) (t t':Ty) (x:t.den) (y:t'.den):Option (List Prop×DV):=
 if h:t'=t then(if t=u/\(t= .bool\/(t.isRow=true/\b=1)) then a65 op (BE t x (sU h y)) else none) else none
@[go_sem] def QI {α:Type}(l:List α):BinOp->Option (List Prop×DV)
 | .eql=>some ([],.flag (l=[]) True)
 | .neq=>some ([],.flag True (l=[]))
 |_=>none
@[go_sem] def W7:Option TI->BinOp->pA->pA->Option (List Prop×DV)
 |some ⟨.list _,_,_,_,_⟩,op,(.val (.list _) l,_),(.nilS,_)=>QI l op
 |some ⟨.list _,_,_,_,_⟩,op,(.nilS,_),(.val (.list _) l,_)=>QI l op
 |some ⟨u,_,b,_,_⟩,op,(.val t x,_),(.val t' y,_)=>a66 u b op t t' x y
 |_,_,_,_=>none
@[go_sem] def a67:Option (List Prop×DV)->Option (List Prop×DV)->Option (List Prop×DV)
 |some r,_=>some r
 |none,r=>r
@[go_sem] def W8:UnOp->pA->Option (List Prop×DV)
 | .not,(.val .bool b,_)=>some ([],.val .bool (!b))
 | .neg,(.val (.int k) n,_)=>some (I0 k (-(n:Int)))
 |_,_=>none
def rW (l:List Int):List UInt8:=l.map fun n=>UInt8.ofNat n.toNat
def sE (s:List UInt8):List Int:=s.map fun b=>(b.toNat:Int)
@[go_sem] def QJ:Option TI->Option TI->pA->Option (List Prop×DV)
 |some _,some ⟨.int k,_,_,_,_⟩,(.val (.int _) n,_)=>some ([],.val (.int k) (k.wrap n))
 |some _,some ⟨.str,_,_,_,_⟩,(.val .str s,_)=>some ([],.val .str s)
 |_,_,_=>none
@[go_sem] def a68 (l:List Int):Option TI->Option (List Prop×DV)
 |some ⟨.int .u8,_,_,_,_⟩=>some ([],.val .str (rW l))
 |_=>none
@[go_sem] def W9 (T:rQ):Option TI->Option TI->pA->Option (List Prop×DV)
 |some ⟨.list (.int .u8),e,_,_,_⟩,some ⟨.str,_,_,_,_⟩,(.val (.list (.int .u8)) l,_)=>a68 l (qQ T e)
 |_,_,_=>none
def pH {α:Type}(l:List α) (lo hi:Int):List α:=(l.drop lo.toNat).take (hi.toNat-lo.toNat)
@[go_sem] def CQ:Option pA->Int->Option Int
 |none,d=>some d
 |some (.val (.int _) n,_),_=>some n
 |_,_=>none
@[go_sem] def QK (t:Ty) (n:Nat) (f:Int->Int->t.den):Option Int->Option Int->Option (List Prop×DV)
 |some a,some b=>some ([0<=a/\a<=b/\b<=(n:Int)],.val t (f a b))
 |_,_=>none
@[go_sem] def WA:Option TI->pA->Option pA->Option pA->Option (List Prop×DV)
 |some ⟨.str,_,_,_,_⟩,(.val .str l,_),lo,hi=>QK .str (List.length l) (pH l) (CQ lo 0) (CQ hi (List.length l))
 |some ⟨.list u,_,_,_,_⟩,(.val (.list t) l,_),lo,hi=>if t=u then QK (.list t) (List.length l) (pH l) (CQ lo 0) (CQ hi (List.length l)) else none
 |_,_,_,_=>none
@[go_sem] def QL (t:Ty) (x:t.den) (i:Nat):Option Ty->Option t.den
 |some (.list u)=>Ty.setPart (.list u) [] t x i
 |_=>none
@[go_sem] def zS (t:Ty):Option t.den->List (Nat×pA)->Option t.den
 |some x,[]=>some x
 |some x,(i,(.val u y,_))::r=>zS t (Ty.setPart u y t x i) r
 |some x,(i,(.nilS,_))::r=>zS t (QL t x i (t.fld i)) r
 |_,_=>none
@[go_sem] def C2 (t:Ty):Nat->List t.den
 |0=>[]
 |n+1=>t.zero::C2 t n
@[go_sem] def a69 (t:Ty) (n:Nat) (l:List t.den) (i:Nat) (u:Ty) (y:u.den):Option (List t.den):=if h:u=t/\i<n then some (l.set i (sU h.1 y)) else none
@[go_sem] def AK (t:Ty) (n:Nat):Option (List t.den)->List (Nat×pA)->Option (List t.den)
 |some l,[]=>some l
 |some l,(i,(.val u y,_))::r=>AK t n (a69 t n l i u y) r
 |_,_=>none
attribute [go_sem] List.set_cons_zero List.set_cons_succ
@[go_sem] def I1:List pA->Option (List (Nat×Nat))
 |[]=>some []
 |(.val .ref (some p),_)::r=>(I1 r).map (p:: ·)
 |_=>none
@[go_sem] def vR:List (Nat×Nat)->Nat->Option Nat
 |[],_=>none
 |(o,k)::r,a=>if o=a then some k else vR r a
@[go_sem] def w5:Option Nat->Nat->List (Nat×Nat)
 |some k,o=>[(o,k)]
 |none,_=>[]
@[go_sem] def tX:List (Nat×Nat)->Nat->Nat->List (Nat×Nat)
 |[],_,_=>[]
 |(q,k)::r,o,n=>if o<=q/\q<o+n then tX r o n else(q,k)::tX r o n
@[go_sem] def ES:Ty->Option Nat->Option Nat
 | .list _,k=>k
 |_,_=>none
@[go_sem] def y9 {α:Type}:List α->List α->List α
 |[],acc=>acc
 |x::l,acc=>y9 l (x::acc)
inductive qB where
 |box (id:Nat) (u:Ty) (x:u.den) (toks:List (Nat×Nat)) (o:Nat)
 |tok (id:Nat)
@[go_sem] def qB.id:qB->Nat
 | .box i _ _ _ _=>i
 | .tok k=>k
@[go_sem] def C3:Nat->List Nat->Bool
 |_,[]=>false
 |i,j::r=>if i=j then true else C3 i r
@[go_sem] def rD:List qB->List Nat
 |[]=>[]
 |w::r=>w.id::rD r
structure rX where
 args:List pA
 H:List p9
 ws:List qB
 n:Nat
@[go_sem] def I2:List Nat->Nat->List (Nat×Nat)
 |[],_=>[]
 |q::qs,n=>(q,n)::I2 qs (n+1)
@[go_sem] def BF (k:Nat):Option p9->Option rX->Option rX
 |some (.grow e c m),some a=>if C3 k (rD a.ws)=true then none else some ⟨a.args,.grow e c m::a.H,.tok k::a.ws,a.n+1⟩
 |_,_=>none
@[go_sem] def yA (H:List (Nat×p9)):Option Nat->Option rX->Option rX
 |some k,a=>BF k (pC H k) a
 |none,_=>none
@[go_sem] def xB (H:List (Nat×p9)) (toks:List (Nat×Nat)) (o:Nat):List Nat->Option rX->Option rX
 |[],a=>a
 |q::qs,a=>xB H toks o qs (yA H (vR toks (o+q)) a)
@[go_sem] def K3 (n:Nat):List Nat->Bool
 |[]=>true
 |q::qs=>decide (q<n)&&K3 n qs
@[go_sem] def DQ (H:List (Nat×p9)) (t:Ty) (os:List Nat) (i o:Nat) (u:Ty) (x:u.den) (toks:List (Nat×Nat)) (a:rX):Option t.den->Option rX
 |some y=>if (K3 t.cells os&& !C3 i (rD a.ws))=true then xB H toks o os (some ⟨(.val .ref (some (a.n,0)),none)::a.args,.cells t y (I2 os (a.n+1))::a.H,.box i u x toks o::a.ws,a.n+1⟩) else none
 |none=>none
@[go_sem] def uE (H:List (Nat×p9)) (t:Ty) (os:List Nat) (i o:Nat) (a:rX):Option p9->Option rX
 |some (.cells u x toks)=>DQ H t os i o u x toks a (pX t u x o)
 |_=>none
@[go_sem] def BG (t:Ty) (x:t.den) (k:Nat) (a:rX):Option p9->Option rX
 |some (.grow e c m)=>if (t.pure&& !C3 k (rD a.ws))=true then some ⟨(.val t x,some a.n)::a.args,.grow e c m::a.H,.tok k::a.ws,a.n+1⟩ else none
 |_=>none
@[go_sem] def QM (t:Ty) (x:t.den) (a:rX):Option rX:=
 if t.pure=true then some ⟨(.val t x,none)::a.args,a.H,a.ws,a.n⟩ else none
@[go_sem] def QN (f:FuncId) (a:rX):Option rX:=some ⟨(.val .clo (some (f,[])),none)::a.args,a.H,a.ws,a.n⟩
@[go_sem] def BH (i:Nat) (a:rX):Option p9->Option rX
 |some (.map k v l)=>if (k.pure&&v.pure&& !C3 i (rD a.ws))=true then some ⟨(.val .mp (some a.n),none)::a.args,.map k v l::a.H,.tok i::a.ws,a.n+1⟩ else none
 |_=>none
@[go_sem] def BI (k n:Nat) (a:rX):Option p9->Option rX
 |some (.row e t l m)=>if (t.pure&& !C3 k (rD a.ws))=true then some ⟨(.own a.n n,none)::a.args,.row e t l m::a.H,.tok k::a.ws,a.n+1⟩ else none
 |_=>none
@[go_sem] def w6 (H:List (Nat×p9)) (f:FuncId) (args:List pA):List (Ty×List Nat)->List (Nat×Nat)->List (Nat×Nat)->Option rX->Option rX
 |[],[],ids,some a=>some ⟨(.val .clo (some (f,y9 ids [])),none)::args,a.H,a.ws,a.n⟩
 |(t,os)::ks,(i,o)::cs,ids,some a=>w6 H f args ks cs ((a.n,0)::ids) (uE H t os i o a (pC H i))
 |_,_,_,_=>none
@[go_sem] def wK (H:List (Nat×p9)) (a:rX):PK->pA->Option rX
 | .v,(.val .clo (some (f,[])),_)=>QN f a
 | .v,(.val t x,_)=>QM t x a
 | .own,(.val t x,some k)=>BG t x k a (pC H k)
 | .p t os,(.val .ref (some (i,o)),_)=>uE H t os i o a (pC H i)
 | .m,(.val .mp (some i),_)=>BH i a (pC H i)
 | .r,(.own k n,_)=>BI k n a (pC H k)
 | .f ks,(.val .clo (some (f,cs)),_)=>w6 H f a.args ks cs [] (some a)
 |_,_=>none
@[go_sem] def w7 (H:List (Nat×p9)):List PK->List pA->Option rX->Option rX
 |_,_,none=>none
 |[],[],some a=>some a
 |p::ps,s::ss,some a=>w7 H ps ss (wK H a p s)
 |_,_,some _=>none
@[go_sem] def aGe:Option (Option (Nat×Nat))->pA
 |some (some p)=>(.val .ref (some p),none)
 |_=>(.any,none)
@[go_sem] def aGf:Option (Option Nat)->pA
 |some (some i)=>(.val .mp (some i),none)
 |_=>(.any,none)
@[go_sem] def aGg:Option (Option (Nat×Nat))->pA
 |some (some (k,n))=>(.own k n,none)
 |_=>(.any,none)
@[go_sem] def ET:(t:Ty)->t.den->Nat->Option (Option (Nat×Nat))
 | .rl _ _,x,0=>some x
 | .pair a b,x,o=>if o<a.cells then ET a x.1 o else ET b x.2 (o-a.cells)
 |_,_,_=>none
@[go_sem] def I3 (q:Nat):PK->Option p9->pA
 | .r,some (.cells t y _)=>aGg (ET t y q)
 | .p _ _,some (.cells t y _)=>aGe (pX .ref t y q)
 | .m,some (.cells t y _)=>aGf (pX .mp t y q)
 |_,_=>(.any,none)
@[go_sem] def G9:List p9->Nat->Option p9
 |[],_=>none
 |b::_,0=>some b
 |_::r,n+1=>G9 r n
@[go_sem] def K4 (l:List pA):Option rX->Option rX
 |some a=>some ⟨l,a.H,a.ws,a.n⟩
 |none=>none
@[go_sem] def AL (H:List (Nat×p9)):List (Nat×Nat×PK)->Option rX->Option rX
 |_,none=>none
 |[],some a=>some a
 |(c,q,pk)::r,some a=>AL H r (K4 a.args (wK H a pk (I3 q pk (G9 a.H (a.n-1-c)))))
@[go_sem] def EU (i o:Nat):List qB->Nat->Option (Nat×Nat)
 |[],_=>none
 | .box j _ _ _ oc::r,c=>if j=i/\oc<=o then some (c,o-oc) else EU i o r (c+1)
 | .tok _::r,c=>EU i o r (c+1)
@[go_sem] def uS (i:Nat):List qB->Nat->Option Nat
 |[],_=>none
 | .tok j::r,c=>if j=i then some c else uS i r (c+1)
 | .box _ _ _ _ _::r,c=>uS i r (c+1)
@[go_sem] def I4 {α β:Type}:Option α->Option β->Option (α×β)
 |some a,some b=>some (a,b)
 |_,_=>none
@[go_sem] def QO (W:List qB):Option (Nat×Nat)->Option (Option (Nat×Nat))
 |none=>some none
 |some (i,o)=>(EU i o W 0).map some
@[go_sem] def a7a (W:List qB):Option Nat->Option (Option Nat)
 |none=>some none
 |some i=>(uS i W 0).map some
@[go_sem] def a7b (W:List qB):Option (Nat×Nat)->Option (Option (Nat×Nat))
 |none=>some none
 |some (k,n)=>(uS k W 0).map fun c=>some (c,n)
@[go_sem] def MS:Option (Nat×List (Nat×Nat))->Option (Option (Nat×List (Nat×Nat)))
 |none=>some none
 |some (f,[])=>some (some (f,[]))
 |_=>none
@[go_sem] def C5 (W:List qB):(t:Ty)->t.den->Option t.den
 | .ref,x=>QO W x
 | .clo,x=>MS x
 | .mp,x=>a7a W x
 | .pair a b,x=>I4 (if a.pure=true then some x.1 else C5 W a x.1) (if b.pure=true then some x.2 else C5 W b x.2)
 | .list t,x=>if t.pure=true then some x else none
 | .bool,x=>some x
 | .int _,x=>some x
 | .str,x=>some x
 | .unit,x=>some x
 | .rl _ _,x=>a7b W x
 | .fn,x=>some x
 | .mref,x=>QO W x
@[go_sem] def WB:Option p9->Option (List p9)->Option (List p9)
 |some b,some l=>some (b::l)
 |_,_=>none
@[go_sem] def aGh (t:Ty) (ts:List (Nat×Nat)):Option t.den->Option p9
 |some y=>some (.cells t y ts)
 |none=>none
@[go_sem] def QP (W:List qB):p9->Option p9
 | .cells t y ts=>if t.pure=true then some (.cells t y ts) else aGh t ts (C5 W t y)
 |b=>some b
@[go_sem] def GA (W:List qB):List p9->Option (List p9)
 |[]=>some []
 |b::r=>WB (QP W b) (GA W r)
@[go_sem] def zT:List qB->Nat->Option qB
 |[],_=>none
 |w::_,0=>some w
 |_::r,n+1=>zT r n
@[go_sem] def K5 (n:Nat) (c:Nat):Option qB->Bool
 |some _=>false
 |none=>decide (c<n)
@[go_sem] def zU (base n c:Nat):Option qB->Option Nat
 |some (.box _ _ _ _ _)=>none
 |some (.tok k)=>some k
 |none=>if c<n then some (base+c) else none
@[go_sem] def a7c (base n c o:Nat):Option qB->pA
 |some (.box i _ _ _ o')=>(.val .ref (some (i,o'+o)),none)
 |wh=>if K5 n c wh=true then(.val .ref (some (base+c,o)),none) else(.any,none)
@[go_sem] def I5 (base n:Nat) (W:List qB):Option Nat->Option Nat
 |some c=>zU base n c (zT W c)
 |none=>none
@[go_sem] def aGi (m:Nat):Option Nat->pA
 |some k=>(.own k m,none)
 |none=>(.any,none)
@[go_sem] def aGj:Option Nat->pA
 |some k=>(.val .mp (some k),none)
 |none=>(.any,none)
@[go_sem] def WC (base n c o:Nat):Option qB->Option (Nat×Nat)
 |some (.box i _ _ _ o')=>some (i,o'+o)
 |wh=>if K5 n c wh=true then some (base+c,o) else none
@[go_sem] def aGk:Option (Nat×Nat)->Option (List (Nat×Nat))->Option (List (Nat×Nat))
 |some p,some l=>some (p::l)
 |_,_=>none
@[go_sem] def K6 (base n:Nat) (W:List qB):List (Nat×Nat)->Option (List (Nat×Nat))
 |[]=>some []
 |(c,o)::r=>aGk (WC base n c o (zT W c)) (K6 base n W r)
@[go_sem] def aGl (f:Nat):Option (List (Nat×Nat))->pA
 |some l=>(.val .clo (some (f,l)),none)
 |none=>(.any,none)
@[go_sem] def QQ (base n:Nat) (W:List qB):pA->pA
 |(.own c m,_)=>aGi m (I5 base n W (some c))
 |(.val .ref (some (c,o)),_)=>a7c base n c o (zT W c)
 |(.val .ref none,_)=>(.val .ref none,none)
 |(.val .mp (some c),_)=>aGj (I5 base n W (some c))
 |(.val .clo (some (f,cs)),_)=>aGl f (K6 base n W cs)
 |(.val t x,k)=>if t.pure=true then(.val t x,I5 base n W (ES t k)) else(.any,none)
 |_=>(.any,none)
@[go_sem] def aGm (q:Nat):Option Nat->List (Nat×Nat)->List (Nat×Nat)
 |some k,r=>(q,k)::r
 |none,r=>r
@[go_sem] def CR (base n:Nat) (W:List qB) (o:Nat):List (Nat×Nat)->List (Nat×Nat)
 |[]=>[]
 |(q,c)::r=>aGm (o+q) (zU base n c (zT W c)) (CR base n W o r)
@[go_sem] def I6 (base n:Nat) (W:List qB):Option (Nat×Nat)->Option (Option (Nat×Nat))
 |none=>some none
 |some (c,o)=>back2 c o (zT W c)
where
 back2 (c o:Nat):Option qB->Option (Option (Nat×Nat))
  |some (.box i _ _ _ o')=>some (some (i,o'+o))
  |wh=>if K5 n c wh=true then some (some (base+c,o)) else none
attribute [go_sem] I6.back2
@[go_sem] def a7d (base n:Nat) (W:List qB):Option Nat->Option (Option Nat)
 |none=>some none
 |some c=>(zU base n c (zT W c)).map some
@[go_sem] def a7e (base n:Nat) (W:List qB):Option (Nat×Nat)->Option (Option (Nat×Nat))
 |none=>some none
 |some (c,q)=>(zU base n c (zT W c)).map fun k=>some (k,q)
@[go_sem] def BJ (base n:Nat) (W:List qB):(t:Ty)->t.den->Option t.den
 | .ref,x=>I6 base n W x
 | .clo,x=>MS x
 | .mp,x=>a7d base n W x
 | .pair a b,x=>I4 (if a.pure=true then some x.1 else BJ base n W a x.1) (if b.pure=true then some x.2 else BJ base n W b x.2)
 | .list t,x=>if t.pure=true then some x else none
 | .bool,x=>some x
 | .int _,x=>some x
 | .str,x=>some x
 | .unit,x=>some x
 | .rl _ _,x=>a7e base n W x
 | .fn,x=>some x
 | .mref,x=>I6 base n W x
@[go_sem] def QR (i o:Nat) (u t:Ty) (toks ts:List (Nat×Nat)):Option u.den->Option (Nat×p9)
 |some z=>some (i,.cells u z (pO ts (tX toks o t.cells)))
 |none=>none
@[go_sem] def a7f (i:Nat) (t:Ty) (ts:List (Nat×Nat)):Option t.den->Option (Nat×p9)
 |some y=>some (i,.cells t y ts)
 |none=>none
@[go_sem] def CS (base n c:Nat) (W:List qB):p9->Option (Nat×p9)
 | .cells t y ts=>if t.pure=true then some (base+c,.cells t y (CR base n W 0 ts)) else a7f (base+c) t (CR base n W 0 ts) (BJ base n W t y)
 | .grow e m k=>some (base+c,.grow e m k)
 | .row e t l n=>if t.pure=true then some (base+c,.row e t l n) else none
 | .map k v l=>if (k.pure&&v.pure)=true then some (base+c,.map k v l) else none
 | .iter _ _=>none
 | .dead=>some (base+c,.dead)
@[go_sem] def yW (k:Nat):p9->Option (Nat×p9)
 | .cells _ _ _=>none
 | .grow e m n=>some (k,.grow e m n)
 | .row e t l n=>if t.pure=true then some (k,.row e t l n) else none
 | .map s v l=>if (s.pure&&v.pure)=true then some (k,.map s v l) else none
 | .iter _ _=>none
 | .dead=>some (k,.dead)
@[go_sem] def a7g (i o:Nat) (u t:Ty) (toks ts:List (Nat×Nat)) (x:u.den):Option t.den->Option (Nat×p9)
 |some y=>QR i o u t toks ts (rO t y u x o)
 |none=>none
@[go_sem] def w8 (base n i o:Nat) (W:List qB) (u:Ty) (x:u.den) (toks:List (Nat×Nat)):p9->Option (Nat×p9)
 | .cells t y ts=>if t.pure=true then QR i o u t toks (CR base n W o ts) (rO t y u x o) else a7g i o u t toks (CR base n W o ts) x (BJ base n W t y)
 | .dead=>some (i,.dead)
 | .grow _ _ _=>none
 | .row _ _ _ _=>none
 | .map _ _ _=>none
 | .iter _ _=>none
@[go_sem] def MT:Option (Nat×p9)->Option (List (Nat×p9))->Option (List (Nat×p9))
 |some q,some r=>some (q::r)
 |_,_=>none
@[go_sem] def AM (base n:Nat) (W:List qB):Nat->List qB->List p9->Option (List (Nat×p9))
 |_,[],[]=>some []
 |c,[],b::L=>MT (CS base n c W b) (AM base n W (c+1) [] L)
 |c,.box i u x toks o::ws,b::L=>MT (w8 base n i o W u x toks b) (AM base n W (c+1) ws L)
 |c,.tok k::ws,b::L=>MT (yW k b) (AM base n W (c+1) ws L)
 |_,_::_,[]=>none
@[go_sem] def I7:List pA->Option (List ((Σ t:Ty,t.den)×Option Nat))
 |[]=>some []
 |(.val t x,k)::r=>(I7 r).map ((⟨t,x⟩,k):: ·)
 |_=>none
@[go_sem] def aGn:Option (List ((Σ t:Ty,t.den)×Option Nat))->pA
 |some q=>(.tup q,none)
 |none=>(.any,none)
@[go_sem] def K7:List pA->Option pA
 |[]=>some (.tup [],none)
 |[s]=>some s
 |s::s'::l=>some (aGn (I7 (s::s'::l)))
@[go_sem] def WD (W:List qB):List Nat->List Nat
 |[]=>[]
 |c::r=>sameId (zT W c) (WD W r)
where
 sameId:Option qB->List Nat->List Nat
  |some w,r=>w.id::r
  |none,r=>r
attribute [go_sem] WD.sameId
@[go_sem] def MU (side:List Prop) (rds:List Nat):Option (List (Nat×p9))->Option pA->Option pJ
 |some H,some s=>some ⟨side,s,H,rds⟩
 |_,_=>none
@[go_sem] def MV (base n:Nat) (W:List qB):List pA->List pA
 |[]=>[]
 |s::r=>QQ base n W s::MV base n W r
@[go_sem] def pV:List p9->Nat
 |[]=>0
 |_::r=>pV r+1
@[go_sem] def QS (base:Nat) (W:List qB) (sm:List Nat):Option pF->Option pJ
 |some r=>MU r.side (pO (rD W) (WD W sm)) (AM base (pV r.H) W 0 W r.H) (K7 (MV base (pV r.H) W r.ret))
 |none=>none
@[go_sem] def QT (C:List pA->List p9->Option pF) (sm:List Nat) (base:Nat) (W:List qB) (args:List pA):Option (List p9)->Option pJ
 |some L=>QS base W sm (C args L)
 |none=>none
@[go_sem] def MW (C:List pA->List p9->Option pF) (sm:List Nat) (base:Nat):Option rX->Option pJ
 |some a=>QT C sm base (y9 a.ws []) (y9 a.args []) (GA (y9 a.ws []) (y9 a.H []))
 |none=>none
@[go_sem] def EV (H:List (Nat×p9)) (base:Nat) (args:List pA):Option pY->Option pJ
 |some g=>MW g.C g.same base (AL H g.gs (w7 H g.ps args (some ⟨[],[],[],0⟩)))
 |none=>none
@[go_sem] def MX:List PK->List pA->Option Nat
 | .r::ps,_::ss=>MX ps ss
 |_::_,(.own k _,_)::_=>some k
 |_::ps,_::ss=>MX ps ss
 |_,_=>none
@[go_sem] def a7h (k:Nat) (t:Ty) (l:List t.den):pA->pA
 |(.own j m,x)=>if j=k then(.val (.list t) l,none) else(.own j m,x)
 |s=>s
@[go_sem] def MY (k:Nat) (t:Ty) (l:List t.den):List pA->List pA
 |[]=>[]
 |s::r=>a7h k t l s::MY k t l r
@[go_sem] def I8 (k n:Nat):List pA->List Prop
 |[]=>[]
 |(.own j m,_)::r=>(j=k->m=n)::I8 k n r
 |_::r=>I8 k n r
@[go_sem] def GB:Ty->Bool
 | .list _=>false
 | .pair a b=>GB a&&GB b
 | .bool| .int _| .str| .unit| .fn=>true
 | .ref| .clo| .mp| .rl _ _| .mref=>false
@[go_sem] def pE:List (Nat×p9)->List Nat
 |[]=>[]
 |(i,_)::r=>i::pE r
@[go_sem] def K8:List (Nat×p9)->Bool
 |[]=>true
 |(_,.cells t _ [])::r=>GB t&&K8 r
 |_=>false
@[go_sem] def WE (sd:List Prop) (k:Nat):Option pJ->Option pJ
 |some ⟨side,(.val t x,_),U,rds⟩=>if (GB t&&K8 U&& !C3 k (pE U))=true then some ⟨pO sd side,(.val t x,none),U,k::rds⟩ else none
 |_=>none
@[go_sem] def MZ (H:List (Nat×p9)) (base:Nat) (args:List pA) (g:pY) (k:Nat):Option p9->Option pJ
 |some (.row _ t l m)=>WE (I8 k m args) k (EV ((k,.dead)::H) base (MY k t l args) (some g))
 |_=>none
@[go_sem] def a7i (H:List (Nat×p9)) (base:Nat) (args:List pA) (g:pY):Option Nat->Option pJ
 |some k=>MZ H base args g k (pC H k)
 |none=>EV H base args (some g)
@[go_sem] def a7j (k n m e:Nat) (t:Ty):Option (List t.den)->Option pJ
 |some l=>some ⟨[n=m,m<4611686018427387904],(.tup [],none),[(k,.row e t l m)],[k]⟩
 |none=>none
@[go_sem] def WF (F:(t:Ty)->List t.den->Option (List t.den)) (k n:Nat):Option p9->Option pJ
 |some (.row e t l m)=>a7j k n m e t (F t l)
 |_=>none
@[go_sem] def QU (H:List (Nat×p9)) (F:(t:Ty)->List t.den->Option (List t.den)):List pA->Option pJ
 |[(.own k n,_)]=>WF F k n (pC H k)
 |_=>none
@[go_sem] def WG (base:Nat):Option TI->pA->Option pJ
 |some ⟨.list u,e,_,true,_⟩,(.nilS,_)=>some ⟨[],(.own base 0,none),[(base,.row e u [] 0)],[]⟩
 |some ⟨.list u,e,_,false,_⟩,(.nilS,_)=>some ⟨[],(.val (.list u) [],some base),[(base,.grow e u.cells 0)],[]⟩
 |_,(.nilS,_)=>none
 |_,s=>some ⟨[],s,[],[]⟩
@[go_sem] def DR:Ty->Nat->Bool
 | .list _,0=>true
 | .pair a b,o=>if o<a.cells then DR a o else DR b (o-a.cells)
 |_,_=>false
@[go_sem] def DS (t:Ty):List (Nat×TypeId×Nat)->Bool
 |[]=>true
 |(o,_,_)::r=>DR t o&&DS t r
@[go_sem] def BK:List (Nat×TypeId×Nat)->Nat->List (Nat×Nat)
 |[],_=>[]
 |(o,_,_)::r,i=>(o,i)::BK r (i+1)
@[go_sem] def CT:List (Nat×TypeId×Nat)->Nat->List (Nat×p9)
 |[],_=>[]
 |(_,e,c)::r,i=>pO (CT r (i+1)) [(i,.grow e c 0)]
@[go_sem] def WH (e:Nat):Bool:=if e=84 then true else if e=a61 then true else false
@[go_sem] def WI (e:Nat) (u:Ty) (o:Nat):Option (Nat×Nat)->List (Nat×Nat×Ty)
 |none=>[(o,e,u)]
 |some _=>[]
@[go_sem] def DT:(t:Ty)->t.den->Nat->List (Nat×Nat×Ty)
 | .rl e u,x,o=>WI e u o x
 | .pair a b,x,o=>pO (DT a x.1 o) (DT b x.2 (o+a.cells))
 |_,_,_=>[]
@[go_sem] def WJ (o:Nat):Option (Nat×Nat)->List Nat
 |none=>[o]
 |some _=>[]
@[go_sem] def EW:(t:Ty)->t.den->Nat->List Nat
 | .mref,x,o=>WJ o x
 | .pair a b,x,o=>pO (EW a x.1 o) (EW b x.2 (o+a.cells))
 |_,_,_=>[]
@[go_sem] def a7k:Nat->List Nat->List Nat
 |2,[0]=>[0]
 |_,_=>[]
@[go_sem] def QV (el:Nat) (t:Ty) (y:t.den):List Nat:=if WH el=true then a7k t.cells (EW t y 0) else[]
@[go_sem] def I9 (t:Ty):Nat->List (Nat×Nat×Ty)->Option t.den->Option t.den
 |_,[],x=>x
 |i,(o,e,u)::r,some x=>I9 t (i+1) r (rO (.rl e u) (some (i,0)) t x o)
 |_,_::_,none=>none
@[go_sem] def GC (t:Ty) (i:Nat):List Nat->Option t.den->Option t.den
 |[],x=>x
 |q::r,some x=>GC t i r (rO .mref (some (i,q)) t x q)
 |_::_,none=>none
@[go_sem] def IA:List (Nat×Nat×Ty)->Nat->List (Nat×p9)
 |[],_=>[]
 |(_,e,u)::r,i=>pO (IA r (i+1)) [(i,.row e u [] 0)]
@[go_sem] def N0 {α:Type}:List α->Nat
 |[]=>0
 |_::r=>N0 r+1
@[go_sem] def a7l (base:Nat) (t:Ty) (ls:List (Nat×TypeId×Nat)) (R:List (Nat×Nat×Ty)):Option t.den->Option pJ
 |some z=>some ⟨[],(.val .ref (some (base,0)),none),(base,.cells t z (BK ls (base+1)))::pO (IA R (base+1+N0 ls)) (CT ls (base+1)),[]⟩
 |none=>none
@[go_sem] def QW (base el:Nat) (t:Ty) (y:t.den) (ls:List (Nat×TypeId×Nat)):Bool->Option pJ
 |true=>a7l base t ls (DT t y 0) (GC t base (QV el t y) (I9 t (base+1+N0 ls) (DT t y 0) (some y)))
 |false=>none
@[go_sem] def a7m (base el:Nat) (ls:List (Nat×TypeId×Nat)):(t:Ty)->t.den->Option Nat->Option pJ
 | .pair a b,y,some _=>QW base el (.pair a b) y ls (DS (.pair a b) ls)
 | .list u,y,k=>some ⟨[],(.val .ref (some (base,0)),none),[(base,.cells (.list u) y (w5 k 0))],[]⟩
 |t,y,_=>some ⟨[],(.val .ref (some (base,0)),none),[(base,.cells t y [])],[]⟩
@[go_sem] def WK (base el:Nat):Option TI->Option pJ
 |some ⟨.list u,e,_,_,_⟩=>some ⟨[],(.val .ref (some (base,0)),none),[(base,.cells (.list u) [] [(0,base+1)]),(base+1,.grow e u.cells 0)],[]⟩
 |some ti=>QW base el ti.ty ti.ty.zero ti.ls (DS ti.ty ti.ls)
 |none=>none
@[go_sem] def WL (base el:Nat):Option TI->pA->Option pJ
 |some ti,(.val t y,k)=>if t=ti.ty then a7m base el ti.ls t y k else none
 |_,_=>none
@[go_sem] def K9:Ty->Bool
 | .list _=>true
 | .pair a b=>K9 a||K9 b
 | .bool| .int _| .str| .unit| .ref| .clo| .mp| .rl _ _| .mref| .fn=>false
@[go_sem] def AN:List (Nat×pA)->Bool
 |[]=>true
 |(_,(.nilS,_))::r=>AN r
 |(_,(.val u _,_))::r=> !K9 u&&AN r
 |_=>false
@[go_sem] def WM:Ty->Bool->Option Nat
 | .pair _ _,true=>some 0
 |_,_=>none
@[go_sem] def aGo (t:Ty) (k:Option Nat):Option t.den->Option pJ
 |some x=>some ⟨[],(.val t x,k),[],[]⟩
 |none=>none
@[go_sem] def WN (sl:List (Nat×pA)):Option TI->Option pJ
 |some ti=>if ti.ty.isRow=true then aGo ti.ty (WM ti.ty (AN sl)) (zS ti.ty (some ti.ty.zero) sl) else none
 |none=>none
@[go_sem] def QX (base e c n:Nat) (t:Ty):Option (List t.den)->Option pJ
 |some l=>if n<=16777216/\n*c<=16777216 then some ⟨[],(.val (.list t) l,some base),[(base,.grow e c n)],[]⟩ else none
 |none=>none
@[go_sem] def a7n (base e n:Nat) (t:Ty):Option (List t.den)->Option pJ
 |some l=>if t.pure=true/\n<=16777216/\n*t.cells<=16777216 then some ⟨[],(.own base n,none),[(base,.row e t l n)],[]⟩ else none
 |none=>none
@[go_sem] def WO (base n:Nat) (sl:List (Nat×pA)):Option TI->Option pJ
 |some ⟨.list u,e,_,true,_⟩=>if n=0 then a7n base e n u (AK u n (some (C2 u n)) sl) else QX base e u.cells n u (AK u n (some (C2 u n)) sl)
 |some ⟨.list u,e,_,false,_⟩=>QX base e u.cells n u (AK u n (some (C2 u n)) sl)
 |_=>none
@[go_sem] def a7o (t:Ty) (k:Option Nat) (i:Nat):Option t.den->Option pJ
 |some y=>some ⟨[],(.val t y,k),[],[i]⟩
 |none=>none
@[go_sem] def N1 (t:Ty) (i off:Nat):Option p9->Option pJ
 |some (.cells u x toks)=>a7o t (ES t (vR toks off)) i (pX t u x off)
 |_=>none
@[go_sem] def a7p (u:Ty) (k n m:Nat):Option u.den->Option pJ
 |some y=>some ⟨[n=m],(.val u y,none),[],[k]⟩
 |none=>none
@[go_sem] def N2 (u:Ty) (k n c:Nat) (i:Int) (o:Nat):Option p9->Option pJ
 |some (.row _ t l m)=>if c=t.cells then a7p u k n m (pX u t (pZ t l i) o) else none
 |_=>none
@[go_sem] def WP (i:Nat):Option (Option (Nat×Nat))->Option pJ
 |some (some (k,n))=>some ⟨[],(.own k n,none),[],[i]⟩
 |_=>none
@[go_sem] def QY (i off:Nat):TI->Option p9->Option pJ
 |⟨.list u,e,_,_,_⟩,some (.cells v x _)=>WP i (pX (.rl e u) v x off)
 |_,_=>none
@[go_sem] def QZ (H:List (Nat×p9)):Option TI->pA->Option pJ
 |some ti,(.elt k n c i o,_)=>N2 ti.ty k n c i o (pC H k)
 |some ti,(.at u x,_)=>if u=ti.ty then some ⟨[],(.val u x,none),[],[]⟩ else none
 |some ti,(.val .ref (some (i,off)),_)=>orE (N1 ti.ty i off (pC H i)) (QY i off ti (pC H i))
 |_,_=>none
@[go_sem] def R0 (u:Ty) (i:Nat) (toks:List (Nat×Nat)):Option u.den->Option pJ
 |some z=>some ⟨[],(.any,none),[(i,.cells u z toks)],[i]⟩
 |none=>none
@[go_sem] def R1 (t:Ty) (y:t.den) (k:Option Nat) (i off:Nat):Option p9->Option pJ
 |some (.cells u x toks)=>R0 u i (pO (w5 (ES t k) off) (tX toks off t.cells)) (rO t y u x off)
 |_=>none
@[go_sem] def KA (off:Nat):List (Nat×Nat)->List (Nat×Nat)
 |[]=>[]
 |(o,k)::r=>(off+o,k)::KA off r
@[go_sem] def a7q (u:Ty) (i:Nat) (nt toks:List (Nat×Nat)) (bs:List (Nat×p9)):Option u.den->Option pJ
 |some z=>some ⟨[],(.any,none),(i,.cells u z (pO nt toks))::pO bs [(i,.cells u z toks)],[i]⟩
 |none=>none
@[go_sem] def R2 (t:Ty) (y:t.den) (ls:List (Nat×TypeId×Nat)) (base i off:Nat):Option p9->Bool->Option pJ
 |some (.cells u x toks),true=>a7q u i (KA off (BK ls base)) (tX toks off t.cells) (CT ls base) (rO t y u x off)
 |_,_=>none
@[go_sem] def R3 (base i off:Nat) (b:Option p9):List (Nat×TypeId×Nat)->(t:Ty)->t.den->Option Nat->Option pJ
 |q::r,.pair a c,y,some _=>R2 (.pair a c) y (q::r) base i off b (DS (.pair a c) (q::r))
 |_,t,y,k=>R1 t y k i off b
@[go_sem] def a7r (k n m:Nat) (e:TypeId) (t:Ty) (l:List t.den) (i:Int):Option t.den->Option pJ
 |some z=>some ⟨[n=m],(.any,none),[(k,.row e t (l.set i.toNat z) m)],[k]⟩
 |none=>none
@[go_sem] def R4 (u:Ty) (y:u.den) (k n c:Nat) (i:Int) (o:Nat):Option p9->Option pJ
 |some (.row e t l m)=>if c=t.cells then a7r k n m e t l i (rO u y t (pZ t l i) o) else none
 |_=>none
@[go_sem] def WQ (i off k n:Nat):TI->Option p9->Option pJ
 |⟨.list u,e,_,_,_⟩,some (.cells v x toks)=>R0 v i (tX toks off 1) (rO (.rl e u) (some (k,n)) v x off)
 |_,_=>none
@[go_sem] def R5 (base:Nat) (H:List (Nat×p9)):Option TI->pA->pA->Option pJ
 |some ti,(.val .ref (some (i,off)),_),(.own k n,_)=>WQ i off k n ti (pC H i)
 |some ti,(.elt k n c i o,_),(.val t y,_)=>if t=ti.ty then R4 t y k n c i o (pC H k) else none
 |some ti,(.val .ref (some (i,off)),_),(.val t y,k)=>if t=ti.ty then R3 base i off (pC H i) ti.ls t y k else none
 |_,_,_=>none
@[go_sem] def WR:pA->Option pJ
 |(.val .ref (some p),_)=>some ⟨[],(.val .ref (some p),none),[],[]⟩
 |(.at t x,_)=>some ⟨[],(.at t x,none),[],[]⟩
 |(.elt k n c i o,_)=>some ⟨[],(.elt k n c i o,none),[],[]⟩
 |_=>none
@[go_sem] def a7s (f:FuncId):Option (List (Nat×Nat))->Option pJ
 |some l=>some ⟨[],(.val .clo (some (f,l)),none),[],[]⟩
 |none=>none
@[go_sem] def aGp (f:FuncId) (l:Option (List (Nat×Nat))):List Operand->Option pJ
 |[]=>a7s f l
 |_=>none
@[go_sem] def R6 (side:List Prop):Option (Σ t:Ty,t.den)->Option pJ
 |some ⟨t,x⟩=>if 0<t.cells then some ⟨side,(.at t x,none),[],[]⟩ else none
 |none=>none
@[go_sem] def R7 (side:List Prop) (i off:Nat):Option Nat->Option Ty->Option pJ
 |some o,some u=>if 0<u.cells then some ⟨side,(.val .ref (some (i,off+o)),none),[],[]⟩ else none
 |_,_=>none
@[go_sem] def a7t (k n c:Nat) (i:Int) (o:Nat):Option Nat->Option Ty->Option pJ
 |some q,some u=>if 0<u.cells then some ⟨[],(.elt k n c i (o+q),none),[],[]⟩ else none
 |_,_=>none
@[go_sem] def WS (f:Nat):Option TI->pA->Option pJ
 |some ⟨t,_,_,false,_⟩,(.elt k n c i o,_)=>a7t k n c i o (t.offs f) (t.fld f)
 |some ⟨t,_,_,false,_⟩,(.at u y,_)=>if u=t then R6 [] (u.proj y f) else none
 |some ⟨t,_,_,false,_⟩,(.val .ref (some (i,off)),_)=>R7 [] i off (t.offs f) (t.fld f)
 |_,_=>none
@[go_sem] def aGq:Option (Σ t:Ty,t.den)->Option pJ
 |some ⟨t,x⟩=>some ⟨[],(.val t x,none),[],[]⟩
 |none=>none
@[go_sem] def WT (f:Nat):Option TI->pA->Option pJ
 |some ⟨t,_,_,false,_⟩,(.val u y,_)=>if u=t then aGq (u.proj y f) else none
 |_,_=>none
@[go_sem] def WU:Option TI->pA->pA->Option pJ
 |some ⟨.list t',_,_,_,_⟩,(.own k n,_),(.val (.int _) i,_)=>if 0<t'.cells then some ⟨[0<=i/\i<(n:Int)],(.elt k n t'.cells i 0,none),[],[]⟩ else none
 |some ⟨.list t',_,_,_,_⟩,(.val (.list t) l,_),(.val (.int _) i,_)=>if t=t' then some ⟨[0<=i/\i<(List.length l:Int)],(.at t (pZ t l i),none),[],[]⟩ else none
 |some ⟨.pair a b,_,_,true,_⟩,(.val .ref (some (i,off)),_),(.val (.int _) n,_)=>R7 [(0:Int)<=n] i off ((Ty.pair a b).offs (Int.toNat n)) ((Ty.pair a b).fld (Int.toNat n))
 |some ⟨.pair a b,_,_,true,_⟩,(.at u x,_),(.val (.int _) n,_)=>if u= .pair a b then R6 [(0:Int)<=n] (u.proj x (Int.toNat n)) else none
 |_,_,_=>none
@[go_sem] def WV:Option TI->pA->pA->Option pJ
 |some ⟨.str,_,_,_,_⟩,(.val .str l,_),(.val (.int _) i,_)=>some ⟨[0<=i/\i<(List.length l:Int)],(.val (.int .u8) (pL l i),none),[],[]⟩
 |_,_,_=>none
@[go_sem] def R9:List ((Σ t:Ty,t.den)×Option Nat)->Nat->Option pJ
 |[],_=>none
 |(⟨t,x⟩,k)::_,0=>some ⟨[],(.val t x,k),[],[]⟩
 |_::r,n+1=>R9 r n
@[go_sem] def a7u (b:Bool) (p c:Int):Nat->Option pJ
 |0=>some ⟨[],(.val .bool b,none),[],[]⟩
 |1=>some ⟨[b=true],(.val (.int .i64) p,none),[],[]⟩
 |2=>some ⟨[b=true],(.val (.int .i32) c,none),[],[]⟩
 |_=>none
@[go_sem] def WW (i:Nat):pA->Option pJ
 |(.tup l,_)=>R9 l i
 |(.nxt b p c,_)=>a7u b p c i
 |_=>none
@[go_sem] def RA (i:Nat):Option p9->Option pJ
 |some (.map _ _ l)=>some ⟨[],(.val (.int .i64) (List.length l:Int),none),[],[i]⟩
 |_=>none
@[go_sem] def WX (H:List (Nat×p9)):Option TI->List pA->Option pJ
 |some ⟨.mp,_,_,_,_⟩,[(.val .mp (some i),_)]=>RA i (pC H i)
 |some ⟨.str,_,_,_,_⟩,[(.val .str l,_)]=>some ⟨[],(.val (.int .i64) (List.length l:Int),none),[],[]⟩
 |some ⟨.list _,_,_,_,_⟩,[(.val (.list _) l,_)]=>some ⟨[],(.val (.int .i64) (List.length l:Int),none),[],[]⟩
 |some ⟨.list _,_,_,_,_⟩,[(.own _ n,_)]=>some ⟨[],(.val (.int .i64) (n:Int),none),[],[]⟩
 |_,_=>none
@[go_sem] def RB (a:Ty) (l r:List a.den) (k e' by':Nat):Option p9->Option pJ
 |some (.grow e c n)=>if e=e'/\c=a.cells/\0<c/\0<by' then some ⟨[List.length l=n,(List.length l+List.length r)*by'<=140737488355328],(.val (.list a) (l++r),some k),[(k,.grow e c (List.length (l++r)))],[k]⟩ else none
 |_=>none
@[go_sem] def RC (b:Ty) (r:List b.den) (k n e' by':Nat):Option p9->Option pJ
 |some (.row e t l m)=>if h:b=t then(if e=e'/\0<t.cells/\0<by' then some ⟨[n=m,(n+List.length r)*by'<=140737488355328],(.own k (List.length (l++sU (t:= .list b) (u:= .list t) (by rw[h]) r)),none),[(k,.row e t (l++sU (t:= .list b) (u:= .list t) (by rw[h]) r) (List.length (l++sU (t:= .list b) (u:= .list t) (by rw[h]) r)))],[k]⟩ else none) else none
 |_=>none
@[go_sem] def RD (H:List (Nat×p9)):Option TI->List pA->Option pJ
 |some ⟨.list u,e,by',_,_⟩,[(.own k n,_),(.val (.list b) r,_)]=>if b=u then RC b r k n e by' (pC H k) else none
 |some ⟨.list u,e,by',_,_⟩,[(.val (.list a) l,some k),(.val (.list b) r,_)]=>if h:b=a/\a=u then RB a l (sU (t:= .list b) (u:= .list a) (by rw[h.1]) r) k e by' (pC H k) else none
 |_,_=>none
@[go_sem] def RE (mx:Bool):List pA->Option (List Prop×DV)
 |[(.val (.int k) a,_),(.val (.int k') b,_)]=>if k=k' then some ([],.val (.int k) (if mx then max (a:Int) b else min (a:Int) b)) else none
 |_=>none
@[go_sem] def WY:List (Nat×Nat)->List pA
 |[]=>[]
 |c::r=>(.val .ref (some c),none)::WY r
@[go_sem] def RF (H:List (Nat×p9)) (base:Nat) (args:List pA) (g:pY):Option ((t:Ty)->List t.den->Option (List t.den))->Option pJ
 |some F=>QU H F args
 |none=>a7i H base args g (MX g.ps args)
@[go_sem] def IB (H:List (Nat×p9)) (base:Nat) (args:List pA):Option pY->Option pJ
 |some g=>RF H base args g g.row
 |none=>none
@[go_sem] def KB (Γ:tG) (H:List (Nat×p9)) (base:Nat) (args:List pA):pA->Option pJ
 |(.val .clo (some (f,caps)),_)=>IB H base (args++WY caps) (Γ f)
 |(.val .fn (some f),_)=>IB H base args (Γ f)
 |_=>none
@[go_sem] def EX (T:rQ) (ρ:Operand->pA):List Operand->List TypeId->List pA
 |x::xs,t::ts=>MR (qQ T t) (ρ x)::EX T ρ xs ts
 |_,_=>[]
@[go_sem] def tY (ρ:Operand->pA):List Operand->List pA
 |[]=>[]
 |x::xs=>ρ x::tY ρ xs
@[go_sem] def sZ (ρ:Operand->pA):List (Nat×Operand)->List (Nat×pA)
 |[]=>[]
 |(i,x)::xs=>(i,ρ x)::sZ ρ xs
@[go_sem] def yB (ρ:Operand->pA):Option Operand->Option pA
 |some x=>some (ρ x)
 |none=>none
@[go_sem] def RG (T:rQ) (H:List (Nat×p9)) (ss:List pA):List TypeId->Option pJ
 |t::_=>WX H (qQ T t) ss
 |[]=>none
@[go_sem] def RH (l:List Int) (s:List UInt8) (k e':Nat):Option p9->Option pJ
 |some (.grow e c n)=>if e=e'/\c=1 then some ⟨[List.length l=n,List.length l+List.length s<=140737488355328],(.val (.list (.int .u8)) (l++sE s),some k),[(k,.grow e c (List.length (l++sE s)))],[k]⟩ else none
 |_=>none
@[go_sem] def WZ (H:List (Nat×p9)):Option TI->Option TI->List pA->Option pJ
 |some ⟨.list (.int .u8),e,1,_,_⟩,some ⟨.str,_,_,_,_⟩,[(.val (.list (.int .u8)) l,some k),(.val .str s,_)]=>RH l s k e (pC H k)
 |_,_,_=>none
@[go_sem] def RI (T:rQ) (H:List (Nat×p9)) (ss:List pA):List TypeId->Option pJ
 |[t,u]=>if t=u then RD H (qQ T t) ss else WZ H (qQ T t) (qQ T u) ss
 |_=>none
@[go_sem] def IC:List Operand->List TypeId->Bool
 |[],[]=>true
 |_::xs,_::ts=>IC xs ts
 |_,_=>false
@[go_sem] def X0 (T:rQ) (Γ:tG) (ρ:Operand->pA) (base:Nat) (H:List (Nat×p9)) (args:List Operand) (tys:List TypeId) (f:pA):Bool->Option pJ
 |true=>KB Γ H base (EX T ρ args tys) f
 |false=>none
@[go_sem] def ID (T:rQ) (Γ:tG) (ρ:Operand->pA) (base:Nat) (H:List (Nat×p9)) (args:Array Operand) (tys:Array TypeId):Callee->Option pJ
 | .builtin .len=>RG T H (tY ρ args.toList) tys.toList
 | .builtin .append=>RI T H (tY ρ args.toList) tys.toList
 | .builtin .max=>AJ (RE true (tY ρ args.toList))
 | .builtin .min=>AJ (RE false (tY ρ args.toList))
 | .value f=>X0 T Γ ρ base H args.toList tys.toList (ρ f) (IC args.toList tys.toList)
 |_=>none
@[go_sem] def DU:Ty->Bool
 | .int _| .str| .bool=>true
 |_=>false
def EY:(k:Ty)->k.den->k.den->Bool
 | .int _,a,b=>decide ((a:Int)=b)
 | .str,a,b=>decide ((a:List UInt8)=b)
 | .bool,a,b=>a==b
 |_,_,_=>false
def rN (k v:Ty):List (k.den×v.den)->k.den->v.den
 |[],_=>v.zero
 |(x,y)::r,a=>if EY k a x=true then y else rN k v r a
def wL (k v:Ty):List (k.den×v.den)->k.den->Bool
 |[],_=>false
 |(x,_)::r,a=>if EY k a x=true then true else wL k v r a
def sG (k v:Ty) (a:k.den) (b:v.den):List (k.den×v.den)->List (k.den×v.den)
 |[]=>[(a,b)]
 |(x,y)::r=>if EY k a x=true then(a,b)::r else(x,y)::sG k v a b r
@[go_sem] def a7v (base:Nat):Option TI->Option TI->Option pJ
 |some k,some v=>if DU k.ty=true then some ⟨[],(.val .mp (some base),none),[(base,.map k.ty v.ty [])],[]⟩ else none
 |_,_=>none
@[go_sem] def X1 (T:rQ) (base:Nat):Option TI->Option Operand->Option pJ
 |some ⟨.mp,e,f,_,_⟩,none=>a7v base (qQ T e) (qQ T f)
 |_,_=>none
@[go_sem] def RJ (k:Ty) (a:k.den) (u:Ty) (i:Nat) (ok:Bool):Option p9->Option pJ
 |some (.map k' v l)=>if h:k=k'/\v=u then(if DU k=true then(match ok with
   |true=>some ⟨[],(.tup [(⟨v,rN k' v l (sU h.1 a)⟩,none),(⟨.bool,wL k' v l (sU h.1 a)⟩,none)],none),[],[i]⟩
   |false=>some ⟨[],(.val v (rN k' v l (sU h.1 a)),none),[],[i]⟩) else none) else none
 |_=>none
@[go_sem] def X2 (H:List (Nat×p9)) (ok:Bool) (i:Nat):Option TI->Option TI->pA->Option pJ
 |some kt,some vt,(.val k a,_)=>if k=kt.ty then RJ k a vt.ty i ok (pC H i) else none
 |_,_,_=>none
@[go_sem] def RK (T:rQ) (H:List (Nat×p9)) (ok:Bool):Option TI->pA->pA->Option pJ
 |some ⟨.mp,e,f,_,_⟩,(.val .mp (some i),_),s=>X2 H ok i (qQ T e) (qQ T f) s
 |_,_,_=>none
@[go_sem] def KC (k:Ty) (a:k.den) (u:Ty) (b:u.den) (i:Nat):Option p9->Option pJ
 |some (.map k' v l)=>if h:k=k'/\u=v then(if DU k=true then some ⟨[],(.any,none),[(i,.map k' v (sG k' v (sU h.1 a) (sU h.2 b) l))],[i]⟩ else none) else none
 |_=>none
@[go_sem] def RL (H:List (Nat×p9)) (i:Nat):Option TI->pA->pA->Option pJ
 |some kt,(.val k a,_),(.val u b,_)=>if k=kt.ty then KC k a u b i (pC H i) else none
 |_,_,_=>none
@[go_sem] def a7w:Option TI->pA->pA
 |some ⟨.fn,_,_,_,_⟩,(.val .clo (some (f,[])),_)=>(.val .fn (some f),none)
 |_,s=>s
@[go_sem] def RM (T:rQ):Option TI->pA->pA
 |some ⟨.mp,_,f,_,_⟩,s=>a7w (qQ T f) s
 |_,s=>s
@[go_sem] def KD (T:rQ) (H:List (Nat×p9)):Option TI->pA->pA->pA->Option pJ
 |some ⟨.mp,e,_,_,_⟩,(.val .mp (some i),_),s,x=>RL H i (qQ T e) s x
 |_,_,_,_=>none
def tJ (s:List UInt8) (p:Nat):Int:=((Utf8.decode ⟨s.toArray⟩ p).1:Int)
def X3 (s:List UInt8) (p:Nat):Nat:=(Utf8.decode ⟨s.toArray⟩ p).2
def yX (s:List UInt8) (p:Nat):Nat:=if p<s.length then p+X3 s p else p
@[go_sem] def X4 (base:Nat):Option TI->pA->Option pJ
 |some ⟨.str,_,_,_,_⟩,(.val .str s,_)=>some ⟨[],(.val .ref (some (base,0)),none),[(base,.iter s 0)],[]⟩
 |_,_=>none
@[go_sem] def X5 (i:Nat):Option p9->Option pJ
 |some (.iter s p)=>some ⟨[],(.nxt (decide (p<List.length s)) ((p:Nat):Int) (tJ s p),none),[(i,.iter s (yX s p))],[i]⟩
 |_=>none
@[go_sem] def RN (H:List (Nat×p9)):Bool->pA->Option pJ
 |true,(.val .ref (some (i,0)),_)=>X5 i (pC H i)
 |_,_=>none
@[go_sem] def sV (T:rQ) (Γ:tG) (ty:TypeId) (ρ:Operand->pA) (base:Nat) (H:List (Nat×p9)):Op->Option pJ
 | .move x| .assign x=>WG base (qQ T ty) (ρ x)
 | .alloc e=>WK base e (qQ T e)
 | .box e x=>WL base e (qQ T e) (MR (qQ T e) (ρ x))
 | .build t ps=>WN (sZ ρ ps.toList) (qQ T t)
 | .buildSlice t n ps=>WO base n (sZ ρ ps.toList) (qQ T t)
 | .load t a=>QZ H (qQ T t) (ρ a)
 | .store t a x=>R5 base H (qQ T t) (ρ a) (MR (qQ T t) (ρ x))
 | .nilCheck x=>WR (ρ x)
 | .binOp op t x y _=>AJ (a67 (QH op (ρ x) (ρ y)) (W7 (qQ T t) op (ρ x) (ρ y)))
 | .unOp op _ x=>AJ (W8 op (ρ x))
 | .convert src dst x=>AJ (a67 (QJ (qQ T src) (qQ T dst) (ρ x)) (W9 T (qQ T src) (qQ T dst) (ρ x)))
 | .makeFunc (.func f) first caps=>aGp f (I1 (tY ρ caps.toList)) first.toList
 | .slice t x lo hi none=>AJ (WA (qQ T t) (ρ x) (yB ρ lo) (yB ρ hi))
 | .fieldAddr t x f=>WS f (qQ T t) (ρ x)
 | .field t x f=>WT f (qQ T t) (ρ x)
 | .indexAddr t x ix=>WU (qQ T t) (ρ x) (ρ ix)
 | .index t x ix=>WV (qQ T t) (ρ x) (ρ ix)
 | .extract x i=>WW i (ρ x)
 | .makeMap t r=>X1 T base (qQ T t) r
 | .range t x=>X4 base (qQ T t) (ρ x)
 | .next x b=>RN H b (ρ x)
 | .lookup t x i ok=>RK T H ok (qQ T t) (ρ x) (ρ i)
 | .mapUpdate t m k x=>KD T H (qQ T t) (ρ m) (ρ k) (RM T (qQ T t) (ρ x))
 | .insert t m k x=>KD T H (qQ T t) (ρ m) (ρ k) (RM T (qQ T t) (ρ x))
 | .call c=>ID T Γ ρ base H c.args c.argTypes c.callee
 |_=>none
@[go_sem] def w9:pA->pA
 |(.cond _ d,_)=>(d,none)
 |s=>s
@[go_sem] def xR (G:Bool):List pA->List Prop
 |[]=>[]
 |(.cond p _,_)::r=>(G=true->p=true)::xR G r
 |_::r=>xR G r
@[go_sem] def a7x (b:Bool):pA->Option Bool
 |(.val .bool c,_)=>some (c==b)
 |(.cond p (.val .bool c),_)=>some (p&&(c==b))
 |_=>none
@[go_sem] def CU:List Oper->Nat->Option Tmp
 |[],_=>none
 |o::_,0=>o.dst
 |_::r,n+1=>CU r n
@[go_sem] def EZ (env:List (Nat×pA)) (b:Bool):Option Tmp->Option Bool
 |some t=>a7x b (lk env t)
 |none=>none
@[go_sem] theorem aOD (x y:Bool):cond x y false=(x&&y):=by cases x<;>rfl
@[go_sem] theorem aOE (x y:Bool):cond x true y=(x||y):=by cases x<;>rfl
@[go_sem] def a7y (x:Bool):pA->pA->Option pJ
 |(.val .bool y,_),(.val .bool z,_)=>some ⟨[],(.val .bool (cond x y z),none),[],[]⟩
 |(.cond p (.val .bool y),_),(.val .bool z,_)=>some ⟨[x=true->p=true],(.val .bool (cond x y z),none),[],[]⟩
 |(.val .bool y,_),(.cond p (.val .bool z),_)=>some ⟨[x=false->p=true],(.val .bool (cond x y z),none),[],[]⟩
 |(.cond q (.val .bool y),_),(.cond p (.val .bool z),_)=>some ⟨[x=true->q=true,x=false->p=true],(.val .bool (cond x y z),none),[],[]⟩
 |_,_=>none
@[go_sem] def N3:pA->pA->pA->Option pJ
 |(.val .bool x,_),a,b=>a7y x a b
 |_,_,_=>none
@[go_sem] def rL:Op->List Operand
 | .move x| .assign x| .box _ x| .load _ x| .nilCheck x| .unOp _ _ x| .convert _ _ x| .fieldAddr _ x _| .field _ x _| .extract x _=>[x]
 | .build _ ps| .buildSlice _ _ ps=>parts ps.toList
 | .store _ a v| .binOp _ _ a v _| .indexAddr _ a v| .index _ a v=>[a,v]
 | .lookup _ a v _=>[a,v]
 | .range _ x| .next x _=>[x]
 | .mapUpdate _ m k x=>[m,k,x]
 | .insert _ m k x=>[m,k,x]
 | .makeFunc _ _ caps=>caps.toList
 | .slice _ x l h _=>x::pO (opt l) (opt h)
 | .call ⟨.value f,args,_⟩=>f::args.toList
 | .call ⟨_,args,_⟩=>args.toList
 |_=>[]
where
 parts:List (Nat×Operand)->List Operand
  |[]=>[]
  |(_,x)::r=>x::parts r
 opt:Option Operand->List Operand
  |some x=>[x]
  |none=>[]
attribute [go_sem] rL.parts rL.opt
@[go_sem] def KE (l:List Prop):Option pJ->Option pJ
 |some e=>some ⟨pO l e.side,e.slot,e.upd,e.rds⟩
 |none=>none
@[go_sem] def N4 (G:Bool):List Prop->List Prop
 |[]=>[]
 |p::r=>(G=true->p)::N4 G r
@[go_sem] def GD (G:Bool) (l:List Prop):Option pJ->Option pJ
 |some ⟨side,(d,_),[],rds⟩=>some ⟨pO l (N4 G side),(.cond G d,none),[],rds⟩
 |some ⟨side,s,u::us,rds⟩=>some ⟨(G=true)::pO l (N4 G side),s,u::us,rds⟩
 |none=>none
@[go_sem] def BL (env:List (Nat×pA)):List Operand->List pA
 |[]=>[]
 |x::r=>sN env x::BL env r
@[go_sem] def KF (T:rQ) (Γ:tG) (o:Oper) (s:St):Option Bool->Op->Option pJ
 |some G,.pick c a b=>GD G (xR G [sN s.env c]) (N3 (w9 (sN s.env c)) (sN s.env a) (sN s.env b))
 |some G,op=>GD G (xR G (BL s.env (rL op))) (sV T Γ o.type (fun x=>w9 (sN s.env x)) s.nb s.H op)
 |none,_=>none
@[go_sem] def KG (T:rQ) (Γ:tG) (o:Oper) (s:St):Op->Option pJ
 | .pick c a b=>N3 (sN s.env c) (sN s.env a) (sN s.env b)
 |op=>KE (xR true (BL s.env (rL op))) (sV T Γ o.type (fun x=>w9 (sN s.env x)) s.nb s.H op)
@[go_sem] def C6 (T:rQ) (Γ:tG) (ops:List Oper) (o:Oper) (s:St):Option pJ:=
 match o.guard with
 |none=>KG T Γ o s o.op
 |some (j,b)=>KF T Γ o s (EZ s.env b (CU ops j)) o.op
@[go_sem] def sK:Option Tmp->pA->List (Nat×pA)->List (Nat×pA)
 |some d,s,env=>(d,s)::env
 |none,_,env=>env
structure uT where
 s:St
 side:List Prop
 es:List pJ
@[go_sem] def GE (N:Nat):Option Tmp->Bool
 |some d=>decide (d<N)
 |none=>true
@[go_sem] def GF (n:Nat):List (Nat×p9)->Bool
 |[]=>true
 |(i,_)::r=>decide (i<n)&&GF n r
@[go_sem] def CV (i:Nat):List Nat->Bool
 |[]=>false
 |j::r=>if j=i then C3 i r else CV i r
@[go_sem] def IE (H U:List (Nat×p9)) (rds:List Nat):List (Nat×p9)->List Prop
 |[]=>[]
 |(i,_)::r=>if CV i rds=true then(pC U i=pC H i)::IE H U rds r else IE H U rds r
@[go_sem] def KH (rds:List Nat):List (Nat×p9)->List (Nat×p9)
 |[]=>[]
 |(i,b)::r=>if CV i rds=true then KH rds r else(i,b)::KH rds r
@[go_sem] def C7 (e:pJ):List (Nat×p9):=KH e.rds e.upd
@[go_sem] def X6 (o:Oper) (a:uT):Option pJ->Option uT
 |some e=>if (GE a.s.N o.dst&&GF (a.s.nb+32) e.upd)=true then some ⟨⟨sK o.dst e.slot a.s.env,pO e.upd a.s.H,a.s.nb+32,a.s.N,a.s.np⟩,pO a.side (pO (IE a.s.H e.upd e.rds e.upd) e.side),e::a.es⟩ else none
 |none=>none
@[go_sem] def uU (T:rQ) (Γ:tG) (ops:List Oper):List Oper->Option uT->Option uT
 |[],a=>a
 |o::r,some a=>uU T Γ ops r (X6 o a (C6 T Γ ops o a.s))
 |_::_,none=>none
@[go_sem] def N5:List (Nat×p9)->List Nat->Bool
 |[],_=>false
 |(i,_)::r,l=>l.contains i||N5 r l
@[go_sem] def F0 (a b:pJ):Bool:= !N5 (C7 a) (pO b.rds (pE b.upd))&& !N5 (C7 b) a.rds
def IF (lo:Nat):List (Nat×p9)->Bool
 |[]=>true
 |(i,_)::r=>(decide (i<lo)||decide (lo+32<=i))&&IF lo r
def RO (ops:Array Oper) (bs:List Nat) (nb i:Nat) (o:Oper) (e:pJ):List Oper->List pJ->Nat->Bool
 |p::ps,f::fs,j=>((bs.getD j 0).testBit i||(o.apart ops p&&F0 e f&&IF (nb+32*i) f.upd))&&RO ops bs nb i o e ps fs (j+1)
 |_,_,_=>true
def RP (ops:Array Oper) (bs:List Nat) (nb:Nat):List Oper->List pJ->Nat->Bool
 |o::os,e::es,i=>RO ops bs nb i o e os es (i+1)&&RP ops bs nb os es (i+1)
 |_,_,_=>true
def RQ:List Oper->Nat->Bool
 |[],_=>true
 |o::r,i=>o.after.toList.all (fun e=> !Region.binds .any e||decide (e.on<i))&&RQ r (i+1)
def DW (ops:Array Oper) (nb:Nat) (es:List pJ):Bool:=RQ ops.toList 0&&RP ops (Region.before ops).toList nb ops.toList es 0
@[go_sem] def a7z (ops:Array Oper) (nb:Nat):Option uT->Option uT
 |some a=>if DW ops nb a.es.reverse then some a else none
 |none=>none
@[go_sem] def N6 (T:rQ) (Γ:tG) (ops:Array Oper) (s:St):Bool->Option uT
 |true=>a7z ops s.nb (uU T Γ ops.toList ops.toList (some ⟨s,[],[]⟩))
 |false=>uU T Γ ops.toList ops.toList (some ⟨s,[],[]⟩)
inductive Ex where
 |normal|exit (id:Nat) |ret
structure uV where
 slots:List Nat
 ids:List (Nat×Nat):=[]
@[go_sem] def vG:List (Nat×Nat)->Nat->Option Nat
 |[],_=>none
 |(n,o)::r,k=>if o=k then some n else vG r k
@[go_sem] def a7A (m:List (Nat×Nat)):Option (Nat×Nat)->Option (Nat×Nat)
 |some (i,o)=>(vG m i).map fun j=>(j,o)
 |none=>none
@[go_sem] def BM (m:List (Nat×Nat)):List (Nat×Nat)->Option (List (Nat×Nat))
 |[]=>some []
 |(i,o)::r=>renCons (vG m i) o (BM m r)
where
 renCons:Option Nat->Nat->Option (List (Nat×Nat))->Option (List (Nat×Nat))
  |some j,o,some r=>some ((j,o)::r)
  |_,_,_=>none
attribute [go_sem] BM.renCons
@[go_sem] def a7B (m:List (Nat×Nat)):Option Nat->Option Nat
 |some k=>vG m k
 |none=>none
@[go_sem] def aGr (n:Nat):Option Nat->pA
 |some k=>(.own k n,none)
 |none=>(.any,none)
@[go_sem] def a7C (m:List (Nat×Nat)):Option (Nat×List (Nat×Nat))->Option (Option (Nat×List (Nat×Nat)))
 |none=>some none
 |some (f,l)=>(BM m l).map fun l'=>some (f,l')
@[go_sem] def RR (m:List (Nat×Nat)):Option (Nat×Nat)->Option (Option (Nat×Nat))
 |none=>some none
 |some (i,o)=>(vG m i).map fun j=>some (j,o)
@[go_sem] def a7D (m:List (Nat×Nat)):Option Nat->Option (Option Nat)
 |none=>some none
 |some i=>(vG m i).map some
@[go_sem] def a7E (m:List (Nat×Nat)):Option (Nat×Nat)->Option (Option (Nat×Nat))
 |none=>some none
 |some (k,n)=>(vG m k).map fun j=>some (j,n)
@[go_sem] def yC (m:List (Nat×Nat)):(t:Ty)->t.den->Option t.den
 | .ref,x=>RR m x
 | .clo,x=>a7C m x
 | .mp,x=>a7D m x
 | .pair a b,x=>I4 (if a.pure=true then some x.1 else yC m a x.1) (if b.pure=true then some x.2 else yC m b x.2)
 | .list t,x=>if t.pure=true then some x else none
 | .bool,x=>some x
 | .int _,x=>some x
 | .str,x=>some x
 | .unit,x=>some x
 | .rl _ _,x=>a7E m x
 | .fn,x=>some x
 | .mref,x=>RR m x
@[go_sem] def yY (m:List (Nat×Nat)):pA->pA
 |(.own k n,_)=>aGr n (vG m k)
 |(.val .ref none,_)=>(.val .ref none,none)
 |(.val .ref (some p),_)=>refSlot (a7A m (some p))
 |(.val .clo (some (f,l)),_)=>cloSlot f (BM m l)
 |(.val .mp (some i),_)=>mpSlot (vG m i)
 |(.val t x,k)=>if t.pure then(.val t x,a7B m (ES t k)) else valSlot t (yC m t x)
 |(.at t x,_)=>if t.pure then(.at t x,none) else(.any,none)
 |_=>(.any,none)
where
 refSlot:Option (Nat×Nat)->pA
  |some p=>(.val .ref (some p),none)
  |none=>(.any,none)
 cloSlot (f:Nat):Option (List (Nat×Nat))->pA
  |some l=>(.val .clo (some (f,l)),none)
  |none=>(.any,none)
 valSlot (t:Ty):Option t.den->pA
  |some y=>(.val t y,none)
  |none=>(.any,none)
 mpSlot:Option Nat->pA
  |some j=>(.val .mp (some j),none)
  |none=>(.any,none)
attribute [go_sem] yY.refSlot yY.cloSlot yY.mpSlot yY.valSlot
@[go_sem] def RS (q j:Nat):List (Nat×Nat)->List (Nat×Nat)
 |[]=>[(q,j)]
 |(a,b)::r=>if q<=a then(q,j)::(a,b)::r else(a,b)::RS q j r
@[go_sem] def IG (m:List (Nat×Nat)):List (Nat×Nat)->List (Nat×Nat)
 |[]=>[]
 |(q,k)::r=>renTok1 q (vG m k) (IG m r)
where
 renTok1 (q:Nat):Option Nat->List (Nat×Nat)->List (Nat×Nat)
  |some j,r=>RS q j r
  |none,r=>r
attribute [go_sem] IG.renTok1
@[go_sem] def X7 (t:Ty) (toks:List (Nat×Nat)):Option t.den->p9
 |some y=> .cells t y toks
 |none=> .dead
@[go_sem] def GG (m:List (Nat×Nat)):Option p9->p9
 |some (.cells t x toks)=>if t.pure then .cells t x (IG m toks) else X7 t (IG m toks) (yC m t x)
 |some (.grow e c n)=> .grow e c n
 |some (.row e t l n)=>if t.pure then .row e t l n else .dead
 |some (.map k v l)=>if k.pure&&v.pure then .map k v l else .dead
 |some (.iter s p)=> .iter s p
 |_=> .dead
@[go_sem] def N7 (m:List (Nat×Nat)) (env:List (Nat×pA)):List Nat->List (Nat×pA)
 |[]=>[]
 |t::r=>(t,yY m (lk env t))::N7 m env r
@[go_sem] def RT (m:List (Nat×Nat)) (H:List (Nat×p9)):List (Nat×Nat)->List (Nat×p9)
 |[]=>[]
 |(n,o)::r=>(n,GG m (pC H o))::RT m H r
@[go_sem] def RU:List (Nat×Nat)->Nat
 |[]=>0
 |(n,_)::r=>max (n+1) (RU r)
@[go_sem] def KI (n o:Nat):List (Nat×Nat)->Bool
 |[]=>false
 |(n',o')::r=>decide (n'=n)||decide (o'=o)||KI n o r
@[go_sem] def wA (np:Nat):List (Nat×Nat)->Bool
 |[]=>true
 |(n,o)::r=>(decide (np<=n)||decide (n=o))&& !KI n o r&&wA np r
@[go_sem] def N8 (s:St) (k:uV):Bool->St
 |true=>⟨N7 k.ids s.env k.slots,RT k.ids s.H k.ids,max s.np (RU k.ids),s.N,s.np⟩
 |false=>⟨[],[],s.nb,s.N,s.np⟩
@[go_sem] def St.keep (s:St) (k:uV):St:=N8 s k (wA s.np k.ids)
@[go_sem] def qG:List Prop->Prop
 |[]=>True
 |[p]=>p
 |p::q::r=>p/\qG (q::r)
@[go_sem] def a7F (Q:Ex->St->Prop):Option uT->Prop
 |some a=>qG a.side/\Q .normal a.s
 |none=>False
@[go_sem] def a7G (A B:Prop):pA->Prop
 |(.val .bool x,_)=>(x=true->A)/\(x=false->B)
 |(.flag p q,_)=>(p->A)/\(q->B)
 |_=>False
@[go_sem] def N9 (f:St->Prop) (Q:Ex->St->Prop):Ex->St->Prop
 | .normal,s=>f s
 | .exit j,s=>Q (.exit j) s
 | .ret,s=>Q .ret s
@[go_sem] def GH (id:Nat) (Q:Ex->St->Prop):Ex->St->Prop
 | .normal,s=>Q .normal s
 | .exit j,s=>if j=id then Q .normal s else Q (.exit j) s
 | .ret,s=>Q .ret s
@[go_sem] def aGs (I:St->Prop) (μ:St->Nat) (m:Nat) (Q:Ex->St->Prop):Ex->St->Prop
 | .normal,s=> ∃k:uV,I (s.keep k)/\μ (s.keep k)<m
 | .exit j,s=>Q (.exit j) s
 | .ret,s=>Q .ret s
def uW (T:rQ) (Γ:tG):Code->St->(Ex->St->Prop)->Prop
 | .skip,s,Q=>Q .normal s
 | .label _,s,Q=>Q .normal s
 | .region _ ops draw,s,Q=>a7F Q (N6 T Γ ops s draw)
 | .seq a b,s,Q=>uW T Γ a s (N9 (fun s'=>uW T Γ b s' Q) Q)
 | .cond c a b,s,Q=>a7G (uW T Γ a s Q) (uW T Γ b s Q) (sN s.env c)
 | .block id c,s,Q=>uW T Γ c s (GH id Q)
 | .loop c,s,Q=> ∃(k:uV) (I:St->Prop) (μ:St->Nat),I (s.keep k)/\∀s,I s->uW T Γ c s (aGs I μ (μ s) Q)
 | .exit id,s,Q=>Q (.exit id) s
 | .ret,s,Q=>Q .ret s
 |_,_,_=>False
attribute [go_sem] Ty.list.injEq Ty.pair.injEq Ty.int.injEq
section
variable {T:rQ}{Γ:tG}{s:St}{Q:Ex->St->Prop}
theorem aGt {id:Nat}{ops:Array Oper}{a:uT}(h:uU T Γ ops.toList ops.toList (some ⟨s,[],[]⟩)=some a) (hp:qG a.side) (hq:Q .normal a.s):uW T Γ (.region id ops false) s Q:=by
 unfold uW N6;rw[h];exact⟨hp,hq⟩
theorem aGu {id:Nat}{ops:Array Oper}{a:uT}(h:uU T Γ ops.toList ops.toList (some ⟨s,[],[]⟩)=some a) (hf:DW ops s.nb a.es.reverse=true) (hp:qG a.side) (hq:Q .normal a.s):uW T Γ (.region id ops true) s Q:=by
 unfold uW N6;rw[h];show a7F Q (if DW ops s.nb a.es.reverse=true then some a else none);rw[aQj hf];exact⟨hp,hq⟩
end
end Go.Proofs.YtbbpilohihldiaaGreatDoor.Vc
namespace Go.Proofs.YtbbpilohihldiaaGreatDoor.Vc
open Go.RowKit
abbrev r5:=List (Nat×p9)
structure Pl where
 b:Nat
 o:Nat
 k:Option (TypeId×Nat):=none
structure Gh where
 S:Nat->Nat->Prop
 J:Nat->Option Pl
 cur:Nat->Nat->Option Value
def xC {α:Type}(R:α->List Value->Prop) (w:World) (S:Nat->Nat->Prop) (c b:Nat):Nat->List α->Prop
 |_,[]=>True
 |o,x::xs=>(∃cs,cs.length=c/\w.rangeAt b o cs/\(∀j,j<c->S b (o+j))/\R x cs)/\xC R w S c b (o+c) xs
def wM (g:Gh):List (Nat×Nat)->List Value->Prop
 |[],vs=>vs=[]
 |(i,o)::l,vs=> ∃p vs',g.J i=some p/\vs= .pointer (some ⟨p.1,p.2+o,none⟩)::vs'/\wM g l vs'
def NA (g:Gh):Option (Nat×Nat)->List Value->Prop
 |none,cs=>cs=[.pointer none]
 |some (i,o),cs=> ∃p,g.J i=some p/\cs=[.pointer (some ⟨p.1,p.2+o,none⟩)]
def NB (g:Gh):Option (Nat×List (Nat×Nat))->List Value->Prop
 |none,cs=>cs=[.nilFunc]
 |some (f,l),cs=> ∃vs,wM g l vs/\cs=[.func (.func f) #[] vs.toArray]
def KJ (g:Gh):Option Nat->List Value->Prop
 |none,cs=>cs=[.map none]
 |some i,cs=> ∃p,g.J i=some p/\cs=[.map (some p.1)]
def X8 (k:Option (TypeId×Nat)) (o:Nat):Prop:=o=0/\∃e,WH e=true/\k=some (e,2)
def GI (g:Gh):Option (Nat×Nat)->List Value->Prop
 |none,cs=>cs=[.slice none 0 0]
 |some (k,n),cs=> ∃v,g.cur k n=some v/\cs=[v]/\((v= .slice none 0 0/\n=0)\/∃b cap,v= .slice (some ⟨b,0,none⟩) n cap/\n<=cap)
def NC (g:Gh):Option (Nat×Nat)->List Value->Prop
 |none,cs=>cs=[.pointer none]
 |some (i,o),cs=> ∃p,g.J i=some p/\X8 p.3 (p.2+o)/\(cs=[.pointer none]\/cs=[.pointer (some ⟨p.1,p.2+o,none⟩)])
def a7H:Option Nat->List Value->Prop
 |none,cs=>cs=[.nilFunc]
 |some f,cs=>cs=[.func (.func f) #[] #[]]
def Rd (g:Gh) (w:World):(t:Ty)->t.den->List Value->Prop
 | .bool,x,cs=>cs=[.bool x]
 | .int k,n,cs=>cs=[.int k n]
 | .str,l,cs=>cs=[.string ⟨List.toArray l⟩]
 | .list t,l,cs=> ∃a cap,cs=[.slice a (List.length l) cap]/\List.length l<=cap/\(l=[]\/∃b o,a=some ⟨b,o,none⟩/\xC (Rd g w t) w g.S t.cells b o l)
 | .unit,_,cs=>cs=[]
 | .pair s t,x,cs=> ∃c1 c2,cs=c1++c2/\Rd g w s x.1 c1/\Rd g w t x.2 c2
 | .ref,x,cs=>NA g x cs
 | .clo,x,cs=>NB g x cs
 | .mp,x,cs=>KJ g x cs
 | .rl _ _,x,cs=>GI g x cs
 | .fn,x,cs=>a7H x cs
 | .mref,x,cs=>NC g x cs
def s9 (g:Gh) (w:World) (t:Ty) (x:t.den) (v:Value):Prop:=
 (t.isRow=true/\∃cs:List Value,v= .agg cs.toArray/\Rd g w t x cs)\/(t.isRow=false/\Rd g w t x [v])
def wB:Ty->List Value->Prop
 | .list _,cs=>cs=[.slice none 0 0]
 | .pair a b,cs=> ∃c1 c2,cs=c1++c2/\c1.length=a.cells/\wB a c1/\wB b c2
 |_,_=>True
def C8 (g:Gh) (t:Ty) (x:t.den) (v:Value):Option Nat->Prop
 |none=>True
 |some k=>match t,x with
  | .list _,l=>g.cur k (List.length l)=some v
  | .pair a b,_=>wB (.pair a b) v.cells.toList
  |_,_=>False
def KK (g:Gh) (w:World):List ((Σ t:Ty,t.den)×Option Nat)->List Value->Prop
 |[],vs=>vs=[]
 |(⟨t,x⟩,k)::l,vs=> ∃v vs',vs=v::vs'/\s9 g w t x v/\C8 g t x v k/\KK g w l vs'
def yZ (g:Gh) (w:World):DV->Value->Prop
 | .any,_=>True
 | .nilS,v=>v= .slice none 0 0
 | .val t x,v=>s9 g w t x v
 | .at t x,v=> ∃b o cs,v= .pointer (some ⟨b,o,none⟩)/\w.rangeAt b o cs/\(∀j,j<t.cells->g.S b (o+j))/\Rd g w t x cs
 | .tup l,v=> ∃vs:List Value,v= .tuple vs.toArray/\KK g w l vs
 | .cond p d,v=>(p=true->yZ g w d v)/\(p=false->v=undef)
 | .flag p q,v=> ∃b,v= .bool b/\(b=true->p)/\(b=false->q)
 | .own k n,v=>g.cur k n=some v/\((v= .slice none 0 0/\n=0)\/∃b cap,v= .slice (some ⟨b,0,none⟩) n cap/\n<=cap)
 | .nxt b p c,v=>(b=true->v= .tuple #[.bool true,.int .i64 p,.int .i32 c])/\(b=false->v= .tuple #[.bool false])
 | .elt k n c i o,v=> ∃b cap,g.cur k n=some (.slice (some ⟨b,0,none⟩) n cap)/\0<=i/\i<(n:Int)/\v= .pointer (some ⟨b,i.toNat*c+o,none⟩)
def qJ (g:Gh) (w:World) (s:pA) (v:Value):Prop:=
 yZ g w s.1 v/\match s with
  |(_,none)=>True
  |(.val t x,some k)=>C8 g t x v (some k)
  |(_,some _)=>False
structure Le (g:Gh) (w:World) (g':Gh) (w':World):Prop where
 S: ∀b o,g.S b o->g'.S b o
 cell: ∀b o,g.S b o->w'.cell? ⟨b,o,none⟩=w.cell? ⟨b,o,none⟩
 J: ∀i p,g.J i=some p->g'.J i=some p
 cur: ∀k n v,g.cur k n=some v->g'.cur k n=some v
theorem Le.refl (g:Gh) (w:World):Le g w g w:=⟨fun _ _ h=>h,fun _ _ _=>rfl,fun _ _ h=>h,fun _ _ _ h=>h⟩
theorem Le.trans {g g' g'':Gh}{w w' w'':World}(h:Le g w g' w') (k:Le g' w' g'' w''):Le g w g'' w'':=
 ⟨fun b o x=>k.S b o (h.S b o x),fun b o x=>(k.cell b o (h.S b o x)).trans (h.cell b o x),fun i p x=>k.J i p (h.J i p x),fun i n v x=>k.cur i n v (h.cur i n v x)⟩
theorem X9 {g g':Gh}(hJ: ∀i p,g.J i=some p->g'.J i=some p): ∀{l:List (Nat×Nat)}{vs:List Value},wM g l vs->wM g' l vs
 |[],_,h=>h
 |(_,_)::_,_,⟨p,vs',h1,h2,h3⟩=>⟨p,vs',hJ _ _ h1,h2,X9 hJ h3⟩
theorem aGv {g g':Gh}(hJ: ∀i p,g.J i=some p->g'.J i=some p): ∀{x:Option (Nat×Nat)}{cs:List Value},NA g x cs->NA g' x cs
 |none,_,h=>h
 |some (_,_),_,⟨p,h1,h2⟩=>⟨p,hJ _ _ h1,h2⟩
theorem aGw {g g':Gh}(hJ: ∀i p,g.J i=some p->g'.J i=some p): ∀{x:Option (Nat×List (Nat×Nat))}{cs:List Value},NB g x cs->NB g' x cs
 |none,_,h=>h
 |some (_,_),_,⟨vs,h1,h2⟩=>⟨vs,X9 hJ h1,h2⟩
theorem aGx {g g':Gh}(hJ: ∀i p,g.J i=some p->g'.J i=some p): ∀{x:Option Nat}{cs:List Value},KJ g x cs->KJ g' x cs
 |none,_,h=>h
 |some _,_,⟨p,h1,h2⟩=>⟨p,hJ _ _ h1,h2⟩
theorem aGy {g g':Gh}(hc: ∀k n v,g.cur k n=some v->g'.cur k n=some v): ∀{x:Option (Nat×Nat)}{cs:List Value},GI g x cs->GI g' x cs
 |none,_,h=>h
 |some (_,_),_,⟨v,h1,h2⟩=>⟨v,hc _ _ _ h1,h2⟩
theorem aGz {g g':Gh}(hJ: ∀i p,g.J i=some p->g'.J i=some p): ∀{x:Option (Nat×Nat)}{cs:List Value},NC g x cs->NC g' x cs
 |none,_,h=>h
 |some (_,_),_,⟨p,h1,h2⟩=>⟨p,hJ _ _ h1,h2⟩
theorem XA {α:Type}{R R':α->List Value->Prop}{w w':World}{S S':Nat->Nat->Prop}{c b:Nat}(hR: ∀x cs,R x cs->R' x cs) (hS: ∀o,S b o->S' b o)
  (hc: ∀o,S b o->w'.cell? ⟨b,o,none⟩=w.cell? ⟨b,o,none⟩): ∀{l:List α}{o:Nat},xC R w S c b o l->xC R' w' S' c b o l
 |[],_,_=>trivial
 |_::_,o,⟨⟨cs,h1,h2,h3,h4⟩,h5⟩=>⟨⟨cs,h1,fun j v hv=>by
   have hj:j<c:=h1▸(aQA.1 hv).1;rw[hc _ (h3 j hj)];exact h2 j v hv,fun j hj=>hS _ (h3 j hj),hR _ _ h4⟩,XA hR hS hc h5⟩
theorem wC {g g':Gh}{w w':World}(h:Le g w g' w'): ∀{t:Ty}{x:t.den}{cs:List Value},Rd g w t x cs->Rd g' w' t x cs
 | .bool,_,_,r=>r
 | .int _,_,_,r=>r
 | .str,_,_,r=>r
 | .unit,_,_,r=>r
 | .ref,_,_,r=>aGv h.J r
 | .clo,_,_,r=>aGw h.J r
 | .mp,_,_,r=>aGx h.J r
 | .rl _ _,_,_,r=>aGy h.cur r
 | .fn,_,_,r=>r
 | .mref,_,_,r=>aGz h.J r
 | .pair _ _,_,_,⟨c1,c2,e,r1,r2⟩=>⟨c1,c2,e,wC h r1,wC h r2⟩
 | .list _,_,_,⟨a,cap,e,hle,hl⟩=>⟨a,cap,e,hle,hl.imp id fun⟨b,o,ea,hr⟩=>⟨b,o,ea,XA (fun _ _=>wC h) (fun _=>h.S _ _) (fun _=>h.cell _ _) hr⟩⟩
theorem rS {g:Gh}{w:World}: ∀{t:Ty}{x:t.den}{cs:List Value},Rd g w t x cs->cs.length=t.cells
 | .bool,_,_,r=>by cases r;rfl
 | .int _,_,_,r=>by cases r;rfl
 | .str,_,_,r=>by cases r;rfl
 | .unit,_,_,r=>by cases r;rfl
 | .ref,none,_,r=>by cases r;rfl
 | .ref,some (_,_),_,⟨_,_,e⟩=>by cases e;rfl
 | .clo,none,_,r=>by cases r;rfl
 | .clo,some (_,_),_,⟨_,_,e⟩=>by cases e;rfl
 | .mp,none,_,r=>by cases r;rfl
 | .mp,some _,_,⟨_,_,e⟩=>by cases e;rfl
 | .fn,none,_,r=>by cases r;rfl
 | .fn,some _,_,r=>by cases r;rfl
 | .rl _ _,none,_,r=>by cases r;rfl
 | .rl _ _,some (_,_),_,⟨_,_,e,_⟩=>by cases e;rfl
 | .mref,none,_,r=>by cases r;rfl
 | .mref,some (_,_),_,⟨_,_,_,e⟩=>by rcases e with e|e<;>(cases e;rfl)
 | .pair _ _,_,_,⟨c1,c2,e,r1,r2⟩=>by rw[e,aQm,rS r1,rS r2];rfl
 | .list _,_,_,⟨_,_,e,_,_⟩=>by cases e;rfl
theorem RV {g g':Gh}{w w':World}(h:Le g w g' w') {t:Ty}{x:t.den}{v:Value}(r:s9 g w t x v):s9 g' w' t x v:=
 r.imp (fun⟨a,cs,e,q⟩=>⟨a,cs,e,wC h q⟩) (fun⟨a,q⟩=>⟨a,wC h q⟩)
theorem a7I {g g':Gh}{w w':World}(h:Le g w g' w') {t:Ty}{x:t.den}{v:Value}{k:Option Nat}(r:C8 g t x v k):C8 g' t x v k:=by
 cases k with
 |none=>trivial
 |some k=>
  cases t with
  |list u=>exact h.cur _ _ _ r
  |pair a b=>exact r
  |_=>exact r.elim
theorem a7J {g g':Gh}{w w':World}(h:Le g w g' w'): ∀{l:List ((Σ t:Ty,t.den)×Option Nat)}{vs:List Value},KK g w l vs->KK g' w' l vs
 |[],_,r=>r
 |(⟨_,_⟩,_)::_,_,⟨v,vs',e,r1,r2,r3⟩=>⟨v,vs',e,RV h r1,a7I h r2,a7J h r3⟩
theorem a7K {g g':Gh}{w w':World}(h:Le g w g' w'): ∀{d:DV}{v:Value},yZ g w d v->yZ g' w' d v
 | .any,_,r=>r
 | .nilS,_,r=>r
 | .val _ _,_,r=>RV h r
 | .at t _,_,⟨b,o,cs,e,h1,h2,h3⟩=>⟨b,o,cs,e,fun j v hv=>by
   by_cases hj:j<t.cells
   ·rw[h.cell _ _ (h2 j hj)];exact h1 j v hv
   ·exact absurd (aQA.1 hv).1 (by rw[rS h3];exact hj),fun j hj=>h.S _ _ (h2 j hj),wC h h3⟩
 | .tup _,_,⟨vs,e,r⟩=>⟨vs,e,a7J h r⟩
 | .cond _ _,_,⟨r1,r2⟩=>⟨fun p=>a7K h (r1 p),r2⟩
 | .flag _ _,_,r=>r
 | .own _ _,_,⟨h1,h2⟩=>⟨h.cur _ _ _ h1,h2⟩
 | .nxt _ _ _,_,r=>r
 | .elt _ _ _ _ _,_,⟨b,cap,h1,h2⟩=>⟨b,cap,h.cur _ _ _ h1,h2⟩
theorem AO {g g':Gh}{w w':World}(h:Le g w g' w') {s:pA}{v:Value}(r:qJ g w s v):qJ g' w' s v:=by
 obtain⟨d,k⟩:=s;refine⟨a7K h r.1,?_⟩;have r2:=r.2;cases k with
 |none=>trivial
 |some k=>
  cases d with
  |val t x=>exact a7I h r2
  |_=>exact r2.elim
theorem AP {g:Gh}{w:World}: ∀{t:Ty}{x:t.den}{cs:List Value},Rd g w t x cs->∀v∈cs,v.oneCell'=true
 | .bool,_,_,r=>by cases r;intro v hv;simp at hv;subst hv;rfl
 | .int _,_,_,r=>by cases r;intro v hv;simp at hv;subst hv;rfl
 | .str,_,_,r=>by cases r;intro v hv;simp at hv;subst hv;rfl
 | .unit,_,_,r=>by cases r;intro v hv;simp at hv
 | .ref,none,_,r=>by cases r;intro v hv;simp at hv;subst hv;rfl
 | .ref,some (_,_),_,⟨_,_,e⟩=>by cases e;intro v hv;simp at hv;subst hv;rfl
 | .clo,none,_,r=>by cases r;intro v hv;simp at hv;subst hv;rfl
 | .clo,some (_,_),_,⟨_,_,e⟩=>by cases e;intro v hv;simp at hv;subst hv;rfl
 | .mp,none,_,r=>by cases r;intro v hv;simp at hv;subst hv;rfl
 | .mp,some _,_,⟨_,_,e⟩=>by cases e;intro v hv;simp at hv;subst hv;rfl
 | .fn,none,_,r=>by cases r;intro v hv;simp at hv;subst hv;rfl
 | .fn,some _,_,r=>by cases r;intro v hv;simp at hv;subst hv;rfl
 | .rl _ _,none,_,r=>by cases r;intro v hv;simp at hv;subst hv;rfl
 | .rl _ _,some (_,_),_,⟨_,_,e,hs⟩=>by
  cases e;intro v hv;simp at hv;subst hv;rcases hs with⟨rfl,_⟩ |⟨_,_,rfl,_⟩<;>rfl
 | .mref,none,_,r=>by cases r;intro v hv;simp at hv;subst hv;rfl
 | .mref,some (_,_),_,⟨_,_,_,e⟩=>by rcases e with e|e<;>(cases e;intro v hv;simp at hv;subst hv;rfl)
 | .pair _ _,_,_,⟨c1,c2,e,r1,r2⟩=>by
  subst e;intro v hv;rcases aRe.1 hv with h|h
  ·exact AP r1 v h
  ·exact AP r2 v h
 | .list _,_,_,⟨_,_,e,_,_⟩=>by cases e;intro v hv;simp at hv;subst hv;rfl
theorem uF {g g':Gh}{w:World}(hS:g'.S=g.S): ∀{t:Ty}{x:t.den}{cs:List Value},t.pure=true->Rd g w t x cs->Rd g' w t x cs
 | .bool,_,_,_,r=>r
 | .int _,_,_,_,r=>r
 | .str,_,_,_,r=>r
 | .unit,_,_,_,r=>r
 | .ref,_,_,h,_=>by simp [Ty.pure] at h
 | .clo,_,_,h,_=>by simp [Ty.pure] at h
 | .mp,_,_,h,_=>by simp [Ty.pure] at h
 | .rl _ _,_,_,h,_=>by simp [Ty.pure] at h
 | .fn,_,_,_,r=>r
 | .mref,_,_,h,_=>by simp [Ty.pure] at h
 | .pair _ _,_,_,h,⟨c1,c2,e,r1,r2⟩=>by
  simp only[Ty.pure,aQr] at h;exact⟨c1,c2,e,uF hS h.1 r1,uF hS h.2 r2⟩
 | .list _,_,_,h,⟨a,cap,e,hle,hl⟩=>by
  simp only[Ty.pure] at h;exact⟨a,cap,e,hle,hl.imp id fun⟨b,o,ea,hr⟩=>⟨b,o,ea,XA (fun _ _ r=>uF hS h r) (fun _ q=>by rw[hS];exact q) (fun _ _=>rfl) hr⟩⟩
def CW (g:Gh) (w:World) (k v:Ty):List (k.den×v.den)->List MapEntry->Prop
 |[],es=>es=[]
 |(a,b)::l,es=> ∃e es',es=e::es'/\s9 g w k a e.key/\s9 g w v b e.val/\CW g w k v l es'
theorem XB {g g':Gh}{w w':World}(h:Le g w g' w') {k v:Ty}: ∀{l:List (k.den×v.den)}{es:List MapEntry},CW g w k v l es->CW g' w' k v l es
 |[],_,r=>r
 |_::_,_,⟨e,es',h1,h2,h3,h4⟩=>⟨e,es',h1,RV h h2,RV h h3,XB h h4⟩
theorem a7L {g g':Gh}{w:World}(hS:g'.S=g.S) {t:Ty}{x:t.den}{v:Value}(hp:t.pure=true) (r:s9 g w t x v):s9 g' w t x v:=
 r.imp (fun⟨a,cs,e,q⟩=>⟨a,cs,e,uF hS hp q⟩) (fun⟨a,q⟩=>⟨a,uF hS hp q⟩)
theorem ND {g g':Gh}{w:World}(hS:g'.S=g.S) {k v:Ty}(hk:k.pure=true) (hv:v.pure=true): ∀{l:List (k.den×v.den)}{es:List MapEntry},CW g w k v l es->CW g' w k v l es
 |[],_,r=>r
 |_::_,_,⟨e,es',h1,h2,h3,h4⟩=>⟨e,es',h1,a7L hS hk h2,a7L hS hv h3,ND hS hk hv h4⟩
def sC {α:Type}(R:α->List Value->Prop) (c:Nat):List α->List Value->Prop
 |[],cs=>cs=[]
 |x::xs,cs=> ∃c1 c2,cs=c1++c2/\c1.length=c/\R x c1/\sC R c xs c2
theorem GJ {α:Type}{R:α->List Value->Prop}{c:Nat}: ∀{l:List α}{cs:List Value},sC R c l cs->cs.length=l.length*c
 |[],_,h=>by rw[h];simp
 |_::l,_,⟨c1,c2,e,h1,_,h3⟩=>by rw[e,aQm,h1,GJ h3,aQp,aRn];omega
theorem NE {α:Type}{R:α->List Value->Prop}{c:Nat}: ∀{l m:List α}{cs ds:List Value},sC R c l cs->sC R c m ds->sC R c (l++m) (cs++ds)
 |[],_,_,_,h,k=>by rw[h];exact k
 |_::_,_,_,_,⟨c1,c2,e,h1,h2,h3⟩,k=>⟨c1,c2++_,by rw[e,aQt],h1,h2,NE h3 k⟩
theorem C9 {α:Type}{R R':α->List Value->Prop}{c:Nat}(hR: ∀x cs,R x cs->R' x cs): ∀{l:List α}{cs:List Value},sC R c l cs->sC R' c l cs
 |[],_,h=>h
 |_::_,_,⟨c1,c2,e,h1,h2,h3⟩=>⟨c1,c2,e,h1,hR _ _ h2,C9 hR h3⟩
theorem DX {g:Gh}{w:World}{u:Ty}: ∀{t:Ty}{x:t.den}{cs:List Value}{o:Nat}{y:u.den},Rd g w t x cs->pX u t x o=some y->
  ∃c1 c2 c3,cs=c1++c2++c3/\c1.length=o/\Rd g w u y c2:=by
 intro t
 induction t with
 |pair a b iha ihb=>
  intro x cs o y r h;obtain⟨c1,c2,e,r1,r2⟩:=r;have key: ∀o,(if o<a.cells then pX u a x.1 o else pX u b x.2 (o-a.cells))=some y->∃d1 d2 d3,cs=d1++d2++d3/\d1.length=o/\Rd g w u y d2:=by
   intro o h;by_cases ho:o<a.cells
   ·rw[aQj ho] at h;obtain⟨d1,d2,d3,e',hl,hr⟩:=iha r1 h;exact⟨d1,d2,d3++c2,by rw[e,e'];simp,hl,hr⟩
   ·rw[aQl ho] at h;obtain⟨d1,d2,d3,e',hl,hr⟩:=ihb r2 h;refine⟨c1++d1,d2,d3,by rw[e,e'];simp,?_,hr⟩;rw[aQm,hl,rS r1];omega
  cases o with
  |zero=>
   unfold pX at h;by_cases hu:Ty.pair a b=u
   ·rw[aSw hu] at h;subst hu;simp only[sU,aQk] at h;subst h;exact⟨[],cs,[],by simp,rfl,⟨c1,c2,e,r1,r2⟩⟩
   ·rw[aR6 hu] at h;refine key 0 ?_;simpa using h
  |succ o=>exact key (o+1) (by simpa[pX] using h)
 |_=>
  intro x cs o y r h;cases o with
  |zero=>
   unfold pX at h;split at h
   ·rename_i hu;subst hu;simp only[sU,aQk] at h
    try subst h
    exact⟨[],cs,[],by simp,rfl,r⟩
   ·simp at h
  |succ o=>simp [pX] at h
theorem RW {g:Gh}{w:World}{u:Ty}{y:u.den}{cy:List Value}(hy:Rd g w u y cy): ∀{t:Ty}{x z:t.den}{cs:List Value}{o:Nat},Rd g w t x cs->rO u y t x o=some z->
  ∃c1 c2 c3,cs=c1++c2++c3/\c1.length=o/\c2.length=u.cells/\Rd g w t z (c1++cy++c3):=by
 intro t
 induction t with
 |pair a b iha ihb=>
  intro x z cs o r h;obtain⟨c1,c2,e,r1,r2⟩:=r;have key: ∀o,(if o<a.cells then(rO u y a x.1 o).map (fun q=>(q,x.2)) else(rO u y b x.2 (o-a.cells)).map (fun q=>(x.1,q)))=some z->
    ∃d1 d2 d3,cs=d1++d2++d3/\d1.length=o/\d2.length=u.cells/\Rd g w (.pair a b) z (d1++cy++d3):=by
   intro o h;by_cases ho:o<a.cells
   ·rw[aQj ho] at h;obtain⟨q,hq,rfl⟩:=aQz.1 h;obtain⟨d1,d2,d3,e',hl,hl2,hr⟩:=iha r1 hq;exact⟨d1,d2,d3++c2,by rw[e,e'];simp,hl,hl2,⟨d1++cy++d3,c2,by simp,hr,r2⟩⟩
   ·rw[aQl ho] at h;obtain⟨q,hq,rfl⟩:=aQz.1 h;obtain⟨d1,d2,d3,e',hl,hl2,hr⟩:=ihb r2 hq;refine⟨c1++d1,d2,d3,by rw[e,e'];simp,?_,hl2,⟨c1,d1++cy++d3,by simp,r1,hr⟩⟩;rw[aQm,hl,rS r1];omega
  cases o with
  |zero=>
   unfold rO at h;by_cases hu:u=Ty.pair a b
   ·rw[aSw hu] at h;subst hu;simp only[sU,aQk] at h;subst h;exact⟨[],cs,[],by simp,rfl,rS (t:= .pair a b) (x:=x) ⟨c1,c2,e,r1,r2⟩,by simpa using hy⟩
   ·rw[aR6 hu] at h;refine key 0 ?_;simpa using h
  |succ o=>exact key (o+1) (by simpa[rO] using h)
 |_=>
  intro x z cs o r h;cases o with
  |zero=>
   unfold rO at h;split at h
   ·rename_i hu;subst hu;simp only[sU,aQk] at h
    try subst h
    exact⟨[],cs,[],by simp,rfl,rS r,by simpa using hy⟩
   ·simp at h
  |succ o=>simp [rO] at h
def F1 (g:Gh) (t:Ty) (x:t.den) (cs:List Value) (toks:List (Nat×Nat)):Prop:=
 ∀o k,(o,k)∈toks->∃(u:Ty) (l:List u.den) (v:Value),pX (.list u) t x o=some l/\cs[o]? =some v/\g.cur k l.length=some v
def aGA (w:World) (p:Pl) (n:Nat):Prop:=w.there p.1 p.2 n/\(0<n->∀s,p.3=some s->w.shape? p.1=some s)
theorem CX {w:World}{b:Nat}{s:TypeId×Nat}(h:w.shape? b=some s):b<w.heap.size:=by
 unfold World.shape? at h;cases hb:w.heap[b]? with
 |none=>rw[hb] at h;cases h
 |some x=>exact(aQJ.1 hb).1
theorem CY {w w':World}{b:Nat}(h:w'.heap[b]? =w.heap[b]?):w'.shape? b=w.shape? b:=by
 unfold World.shape?;rw[h]
def z6 (g:Gh) (w:World) (i:Nat):p9->Prop
 | .cells t x toks=> ∃p cs,g.J i=some p/\Rd g w t x cs/\w.rangeAt p.1 p.2 cs/\aGA w p t.cells/\(∀j,j<t.cells->¬g.S p.1 (p.2+j))/\F1 g t x cs toks
 | .grow e c n=> ∃v xs,g.cur i n=some v/\w.ownsRow 0 e c v n xs/\(∀m,n<m->g.cur i m=none)/\∀b,v.ownBlock=some b->∀o,g.S b o->o<n*c
 | .row e t l n=>l.length=n/\∃v xs,g.cur i n=some v/\w.ownsRow 0 e t.cells v n xs/\sC (Rd g w t) t.cells l xs/\(∀m,n<m->g.cur i m=none)/\∀b,v.ownBlock=some b->∀o,¬g.S b o
 | .map k v l=> ∃p es clock,g.J i=some p/\p.2=0/\w.heap[p.1]? =some (.map es clock)/\CW g w k v l es.toList/\∀o,¬g.S p.1 o
 | .iter s n=> ∃p,g.J i=some p/\p.2=0/\w.heap[p.1]? =some (.stringIter ⟨s.toArray⟩ n)/\∀o,¬g.S p.1 o
 | .dead=>True
def r7 (g:Gh) (i:Nat):p9->Nat->Nat->Prop
 | .cells t _ _,b,o=> ∃p,g.J i=some p/\b=p.1/\p.2<=o/\o<p.2+t.cells
 | .grow _ _ n,b,_=> ∃v,g.cur i n=some v/\v.ownBlock=some b
 | .row _ _ _ n,b,_=> ∃v,g.cur i n=some v/\v.ownBlock=some b
 | .map _ _ _,b,_=> ∃p,g.J i=some p/\b=p.1
 | .iter _ _,b,_=> ∃p,g.J i=some p/\b=p.1
 | .dead,_,_=>False
structure rK (g:Gh) (w:World) (H:r5):Prop where
 blk: ∀i b,pC H i=some b->z6 g w i b
 dis: ∀i j bi bj b o,i≠j->pC H i=some bi->pC H j=some bj->r7 g i bi b o->r7 g j bj b o->False
 sl: ∀b o,g.S b o->b<w.heap.size
 tab:HZ w/\∀i blk b o,pC H i=some blk->r7 g i blk b o->NG<=b
def rY (g:Gh) (H:r5) (ids:List Nat) (b o:Nat):Prop:= ∃i blk,i∈ids/\pC H i=some blk/\r7 g i blk b o
structure Fr (A:Nat->Nat->Prop) (w w':World) (S S':Nat->Nat->Prop):Prop where
 os:w'.os=w.os
 tape:w'.tape=w.tape
 output:w'.output=w.output
 size:w.heap.size<=w'.heap.size
 blk: ∀b,b<w.heap.size->(∀o,¬A b o)->w'.heap[b]? =w.heap[b]?
 cell: ∀b o,b<w.heap.size->¬A b o->w'.cell? ⟨b,o,none⟩=w.cell? ⟨b,o,none⟩/\w'.frozen? ⟨b,o,none⟩=w.frozen? ⟨b,o,none⟩
 new: ∀b o,S' b o->S b o\/w.heap.size<=b\/A b o
 shape: ∀b s,w.shape? b=some s->w'.shape? b=some s\/∀o,A b o
theorem Fr.refl (A:Nat->Nat->Prop) (w:World) (S:Nat->Nat->Prop):Fr A w w S S:=
 ⟨rfl,rfl,rfl,aQF _,fun _ _ _=>rfl,fun _ _ _ _=>⟨rfl,rfl⟩,fun _ _ h=> .inl h,fun _ _ h=> .inl h⟩
theorem Fr.trans {A B:Nat->Nat->Prop}{w w' w'':World}{S S' S'':Nat->Nat->Prop}(h:Fr A w w' S S') (k:Fr B w' w'' S' S'') (hB: ∀b o,B b o->w.heap.size<=b\/A b o):Fr A w w'' S S'':=by
 refine⟨k.os.trans h.os,k.tape.trans h.tape,k.output.trans h.output,aRj h.size k.size,fun b hb hA=> ?_,fun b o hb hA=> ?_,fun b o hs=> ?_,fun b s hs=> ?_⟩
 ·refine(k.blk b (aQZ hb h.size) fun o ho=> ?_).trans (h.blk b hb hA);rcases hB b o ho with h1|h1
  ·omega
  ·exact hA o h1
 ·have h1:=h.cell b o hb hA;have h2:=k.cell b o (aQZ hb h.size) (fun ho=>by
   rcases hB b o ho with h1|h1
   ·omega
   ·exact hA h1)
  exact⟨h2.1.trans h1.1,h2.2.trans h1.2⟩
 ·rcases k.new b o hs with h1|h1|h1
  ·exact h.new b o h1
  ·exact .inr (.inl (aRj h.size h1))
  ·exact .inr (hB b o h1)
 ·rcases h.shape b s hs with h1|h1
  ·rcases k.shape b s h1 with h2|h2
   ·exact .inl h2
   ·refine .inr fun o=>(hB b o (h2 o)).resolve_left ?_;have:=CX hs;omega
  ·exact .inr h1
structure qW (g:Gh) (w:World) (H:r5) (e:pJ) (g':Gh) (w':World) (v:Value):Prop where
 le:Le g w g' w'
 slot:qJ g' w' e.slot v
 heap:rK g' w' (pO e.upd H)
 fr:Fr (rY g H (pE e.upd)) w w' g.S g'.S
 perm: ∀i blk b o,i∈pE e.upd->pC (pO e.upd H) i=some blk->r7 g' i blk b o->w.heap.size<=b\/rY g H (pE e.upd) b o
 gho: ∀i,i∉pE e.upd->g'.J i=g.J i/\g'.cur i=g.cur i
 ty: ∀i u y us,pC (pO e.upd H) i=some (.cells u y us)->(∃x ts,pC H i=some (.cells u x ts))\/(g.J i=none/\∀n,g.cur i n=none)
theorem NF {w:World}{B:Nat}{e:TypeId}{c n:Nat}{v:Value}{xs:List Value}(h:w.ownsRow B e c v n xs) {b:Nat}(hb:v.ownBlock=some b):b<w.heap.size:=(h.lt b hb).2
theorem RX {w:World}{b o:Nat}{v:Value}(h:w.cell? ⟨b,o,none⟩=some v):b<w.heap.size:=by
 have:=World.block_lt_of_cell? w ⟨b,o,none⟩ h;exact this
theorem NH {g:Gh}{w:World}{i:Nat}{blk:p9}(h:z6 g w i blk) {b o:Nat}(ho:r7 g i blk b o):b<w.heap.size:=by
 cases blk with
 |cells t x toks=>
  obtain⟨p,cs,hp,_,_,ht,_⟩:=h;obtain⟨q,hq,rfl,h1,h2⟩:=ho;rw[hp] at hq;obtain rfl:=aQo hq;have:=(ht.1 (o-p.2) (by omega)).1;obtain⟨v,hv⟩:=aQn.1 this;exact RX hv
 |grow e c n=>
  obtain⟨v,xs,hv,hr,_⟩:=h;obtain⟨v',hv',hb⟩:=ho;rw[hv] at hv';obtain rfl:=aQo hv';exact NF hr hb
 |row e t l n=>
  obtain⟨_,v,xs,hv,hr,_⟩:=h;obtain⟨v',hv',hb⟩:=ho;rw[hv] at hv';obtain rfl:=aQo hv';exact NF hr hb
 |map k v l=>
  obtain⟨p,es,cl,hp,_,hh,_,_⟩:=h;obtain⟨q,hq,rfl⟩:=ho;rw[hp] at hq;obtain rfl:=aQo hq;exact(aQJ.1 hh).1
 |iter s n=>
  obtain⟨p,hp,_,hh,_⟩:=h;obtain⟨q,hq,rfl⟩:=ho;rw[hp] at hq;obtain rfl:=aQo hq;exact(aQJ.1 hh).1
 |dead=>exact ho.elim
theorem a7M {g g':Gh}(hc: ∀k n v,g.cur k n=some v->g'.cur k n=some v) {t:Ty}{x:t.den}{cs:List Value}{toks:List (Nat×Nat)}(h:F1 g t x cs toks):F1 g' t x cs toks:=
 fun o k hm=>let ⟨u,l,v,h1,h2,h3⟩:=h o k hm;⟨u,l,v,h1,h2,hc _ _ _ h3⟩
theorem KL {g g':Gh}{w w':World}{i:Nat}{blk:p9}(h:z6 g w i blk) (le:Le g w g' w') (hJ:g'.J i=g.J i) (hcur:g'.cur i=g.cur i)
  (hc: ∀b o,r7 g i blk b o->w'.cell? ⟨b,o,none⟩=w.cell? ⟨b,o,none⟩/\w'.frozen? ⟨b,o,none⟩=w.frozen? ⟨b,o,none⟩)
  (hb: ∀b,(∀o,r7 g i blk b o)->w'.heap[b]? =w.heap[b]?) (hS: ∀b o,r7 g i blk b o->g'.S b o->g.S b o) (hsh: ∀b o s,r7 g i blk b o->w.shape? b=some s->w'.shape? b=some s):z6 g' w' i blk:=by
 cases blk with
 |cells t x toks=>
  obtain⟨p,cs,hp,hr,hra,ht,hs,htk⟩:=h;have ho: ∀j,j<t.cells->r7 g i (.cells t x toks) p.1 (p.2+j):=fun j hj=>⟨p,hp,rfl,by omega,by omega⟩;refine⟨p,cs,hJ.trans hp,wC le hr,fun j v hv=> ?_,⟨fun j hj=> ?_,fun h0 s hs3=>hsh _ _ _ (ho 0 h0) (ht.2 h0 s hs3)⟩,fun j hj hs'=>hs j hj (hS _ _ (ho j hj) hs'),a7M le.cur htk⟩
  ·have hj:j<t.cells:=rS hr▸(aQA.1 hv).1;rw[(hc _ _ (ho j hj)).1];exact hra j v hv
  ·rw[(hc _ _ (ho j hj)).1,(hc _ _ (ho j hj)).2];exact ht.1 j hj
 |grow e c n=>
  obtain⟨v,xs,hv,hr,hn,hs⟩:=h;have hbl: ∀b,v.ownBlock=some b->∀o,r7 g i (.grow e c n) b o:=fun b hb o=>⟨v,hv,hb⟩;refine⟨v,xs,by rw[hcur];exact hv,⟨hr.1,?_⟩,fun m hm=>by rw[hcur];exact hn m hm,fun b hvb o hs'=>hs b hvb o (hS _ _ (hbl b hvb o) hs')⟩;rcases hr.2 with h0|⟨q,cap,cur,e1,e2,e3,e4⟩
  ·exact .inl h0
  ·subst e1;exact .inr ⟨q,cap,cur,rfl,e2,by rw[hb q (hbl q rfl)];exact e3,e4⟩
 |row e t l n=>
  obtain⟨hl,v,xs,hv,hr,hF,hn,hs⟩:=h;have hbl: ∀b,v.ownBlock=some b->∀o,r7 g i (.row e t l n) b o:=fun b hb o=>⟨v,hv,hb⟩;refine⟨hl,v,xs,by rw[hcur];exact hv,⟨hr.1,?_⟩,C9 (fun _ _ h=>wC le h) hF,fun m hm=>by rw[hcur];exact hn m hm,fun b hvb o hs'=>hs b hvb o (hS _ _ (hbl b hvb o) hs')⟩;rcases hr.2 with h0|⟨q,cap,cur,e1,e2,e3,e4⟩
  ·exact .inl h0
  ·subst e1;exact .inr ⟨q,cap,cur,rfl,e2,by rw[hb q (hbl q rfl)];exact e3,e4⟩
 |map k v l=>
  obtain⟨p,es,cl,hp,h0,hh,hM,hs⟩:=h;have hbl: ∀o,r7 g i (.map k v l) p.1 o:=fun o=>⟨p,hp,rfl⟩;exact⟨p,es,cl,hJ.trans hp,h0,(hb _ hbl).trans hh,XB le hM,fun o hs'=>hs o (hS _ _ (hbl o) hs')⟩
 |iter s n=>
  obtain⟨p,hp,h0,hh,hs⟩:=h;have hbl: ∀o,r7 g i (.iter s n) p.1 o:=fun o=>⟨p,hp,rfl⟩;exact⟨p,hJ.trans hp,h0,(hb _ hbl).trans hh,fun o hs'=>hs o (hS _ _ (hbl o) hs')⟩
 |dead=>trivial
theorem yD {g g':Gh}{i:Nat}{blk:p9}(hJ:g'.J i=g.J i) (hcur:g'.cur i=g.cur i) {b o:Nat}:r7 g' i blk b o↔r7 g i blk b o:=by
 cases blk<;>simp [r7,hJ,hcur]
theorem BN {i:Nat}: ∀{u:List (Nat×p9)}{H:r5},i∉pE u->pC (pO u H) i=pC H i
 |[],_,_=>rfl
 |(k,b)::r,H,h=>by
  simp only[pE,aQC,not_or] at h;simp only[pO,pC];rw[aQl (Ne.symm h.1)];exact BN h.2
theorem rK.upd {g g':Gh}{w w':World}{H:r5}{u:List (Nat×p9)}(h:rK g w H) (le:Le g w g' w') (fr:Fr (rY g H (pE u)) w w' g.S g'.S)
  (perm: ∀i blk b o,i∈pE u->pC (pO u H) i=some blk->r7 g' i blk b o->w.heap.size<=b\/rY g H (pE u) b o)
  (gho: ∀i,i∉pE u->g'.J i=g.J i/\g'.cur i=g.cur i)
  (hb: ∀i blk,i∈pE u->pC (pO u H) i=some blk->z6 g' w' i blk)
  (hd: ∀i j bi bj b o,i∈pE u->j∈pE u->i≠j->pC (pO u H) i=some bi->pC (pO u H) j=some bj->r7 g' i bi b o->r7 g' j bj b o->False)
  (sl: ∀b o,g'.S b o->b<w'.heap.size):rK g' w' (pO u H):=by
 have out: ∀i blk,i∉pE u->pC H i=some blk->∀b o,r7 g i blk b o->b<w.heap.size/\¬rY g H (pE u) b o:=fun i blk hi hg b o ho=>
  ⟨NH (h.blk i blk hg) ho,fun⟨j,bj,hj,hgj,hoj⟩=>h.dis i j blk bj b o (fun e=>hi (e▸hj)) hg hgj ho hoj⟩
 refine⟨fun i blk hg=> ?_,fun i j bi bj b o hij hgi hgj hoi hoj=> ?_,sl,MQ h.tab.1 fr.size (fun b hb=>fr.blk b (aQZ hb h.tab.1.1) (fun o ⟨j,bj,_,k1,k2⟩=>Nat.not_lt.2 (h.tab.2 j bj b o k1 k2) hb)),fun i blk b o hg ho=> ?_⟩
 rotate_right
 ·by_cases hi:i∈pE u
  ·rcases perm i blk b o hi hg ho with h1|⟨j,bj,_,k1,k2⟩
   ·exact aRj h.tab.1.1 h1
   ·exact h.tab.2 j bj b o k1 k2
  ·exact h.tab.2 i blk b o ((BN hi).symm.trans hg) ((yD (gho i hi).1 (gho i hi).2).1 ho)
 ·by_cases hi:i∈pE u
  ·exact hb i blk hi hg
  ·have hg0:=(BN hi).symm.trans hg;have hk:=gho i hi;refine KL (h.blk i blk hg0) le hk.1 hk.2 (fun b o ho=> ?_) (fun b ho=> ?_) (fun b o ho hs=> ?_) (fun b o s ho hs=>(fr.shape b s hs).resolve_right fun h1=>(out i blk hi hg0 b o ho).2 (h1 o))
   ·exact fr.cell b o (out i blk hi hg0 b o ho).1 (out i blk hi hg0 b o ho).2
   ·exact fr.blk b (out i blk hi hg0 b 0 (ho 0)).1 (fun o=>(out i blk hi hg0 b o (ho o)).2)
   ·rcases fr.new b o hs with h1|h1|h1
    ·exact h1
    ·have:=(out i blk hi hg0 b o ho).1;omega
    ·exact absurd h1 (out i blk hi hg0 b o ho).2
 ·by_cases hi:i∈pE u<;>by_cases hj:j∈pE u
  ·exact hd i j bi bj b o hi hj hij hgi hgj hoi hoj
  ·have hg0:=(BN hj).symm.trans hgj;have ho0:=(yD (gho j hj).1 (gho j hj).2).1 hoj;rcases perm i bi b o hi hgi hoi with h1|h1
   ·have:=(out j bj hj hg0 b o ho0).1;omega
   ·exact(out j bj hj hg0 b o ho0).2 h1
  ·have hg0:=(BN hi).symm.trans hgi;have ho0:=(yD (gho i hi).1 (gho i hi).2).1 hoi;rcases perm j bj b o hj hgj hoj with h1|h1
   ·have:=(out i bi hi hg0 b o ho0).1;omega
   ·exact(out i bi hi hg0 b o ho0).2 h1
  ·exact h.dis i j bi bj b o hij ((BN hi).symm.trans hgi) ((BN hj).symm.trans hgj) ((yD (gho i hi).1 (gho i hi).2).1 hoi) ((yD (gho j hj).1 (gho j hj).2).1 hoj)
theorem qW.pure {g:Gh}{w:World}{H:r5}{side:List Prop}{s:pA}{rds:List Nat}{v:Value}(h:rK g w H) (hs:qJ g w s v):qW g w H ⟨side,s,[],rds⟩ g w v:=
 ⟨.refl _ _,hs,h,.refl _ _ _,fun _ _ _ _ hi=>(by cases hi),fun _ _=>⟨rfl,rfl⟩,fun _ _ y us h=> .inl ⟨y,us,h⟩⟩
def sL:Ty->List Value
 | .bool=>[.bool false]
 | .int k=>[.int k 0]
 | .str=>[.string ⟨#[]⟩]
 | .list _=>[.slice none 0 0]
 | .unit=>[]
 | .pair a b=>sL a++sL b
 | .ref=>[.pointer none]
 | .clo=>[.nilFunc]
 | .mp=>[.map none]
 | .rl _ _=>[.slice none 0 0]
 | .fn=>[.nilFunc]
 | .mref=>[.pointer none]
def vS (t:Ty):Value:=if t.isRow then .agg (sL t).toArray else(sL t).headD undef
def KM (P:Program):Ty->Nat->List Field->Prop
 | .unit,_,[]=>True
 | .pair a b,o,f::r=>f.offset=o/\(P.info? f.type).map (·.size)=some a.cells/\(P.underlying f.type).map (·.isRow)=some a.isRow/\KM P b (o+a.cells) r
 |_,_,_=>False
def NI (P:Program) (e:TypeId):Ty->Nat->Prop
 | .unit,0=>True
 | .pair a b,n+1=>(P.info? e).map (·.size)=some a.cells/\(P.underlying e).map (·.isRow)=some a.isRow/\NI P e b n
 |_,_=>False
inductive XC where
 |ty (t:TypeId) |fs (o:Nat) (l:List Field) |el (e:TypeId) (i m:Nat)
inductive xD (P:Program):Nat->XC->Ty->Prop
 |bool {h t}:P.underlying t=some .bool->xD P h (.ty t) .bool
 |int {h t k}:P.underlying t=some (.int k)->xD P h (.ty t) (.int k)
 |str {h t}:P.underlying t=some .string->xD P h (.ty t) .str
 |struct {h t fs ty}:ty.isRow=true->P.underlying t=some (.struct fs)->P.stoodInHeld t=false->xD P h (.fs 0 fs.toList) ty->xD P (h+1) (.ty t) ty
 |arr {h t e n ty}:ty.isRow=true->P.underlying t=some (.array n e)->(P.info? e).isSome=true->xD P h (.el e 0 n) ty->xD P (h+1) (.ty t) ty
 |nil {h o}:xD P h (.fs o []) .unit
 |cons {h o}{f:Field}{r a b}:f.name≠ "_" ->f.offset=o->(P.info? f.type).map (·.size)=some a.cells->(P.underlying f.type).map (·.isRow)=some a.isRow->xD P h (.ty f.type) a->xD P h (.fs (o+a.cells) r) b->xD P h (.fs o (f::r)) (.pair a b)
 |anil {h e i}:xD P h (.el e i 0) .unit
 |acons {h e i m a b}:(P.info? e).map (·.size)=some a.cells->(P.underlying e).map (·.isRow)=some a.isRow->xD P h (.ty e) a->xD P h (.el e (i+1) m) b->xD P h (.el e i (m+1)) (.pair a b)
def xE (P:Program) (t:TypeId) (ti:TI):Prop:=
 match ti.ty with
 | .bool=>P.underlying t=some .bool
 | .int k=>P.underlying t=some (.int k)
 | .str=>P.underlying t=some .string
 | .ref=> ∃e,P.underlying t=some (.pointer e)
 | .clo=> ∃a b c,P.underlying t=some (.func a b c)
 | .mp=>P.underlying t=some (.map ti.elem ti.bytes)
 | .rl _ _=> ∃e,P.underlying t=some (.slice e)
 | .fn=> ∃a b c,P.underlying t=some (.func a b c)
 | .mref=> ∃e,P.underlying t=some (.pointer e)
 | .list u=>P.underlying t=some (.slice ti.elem)/\(P.info? ti.elem).map (fun i=>(i.size,i.bytes,i.zero))=some (u.cells,ti.bytes,some (vS u))/\(P.underlying ti.elem).map (·.isRow)=some u.isRow
 |ty=>((ti.arr=false/\∃fs,P.underlying t=some (.struct fs)/\KM P ty 0 fs.toList)\/(ti.arr=true/\∃n e,P.underlying t=some (.array n e)/\NI P e ty n/\(P.info? e).isSome=true))/\(ti.bytes=1->P.eqGuardType P.depth t=false/\∃h,h<9000/\xD P h (.ty t) ty)
def sB (P:Program) (t:TypeId) (ti:TI):Prop:=(P.info? t).map (fun i=>(i.size,i.zero))=some (ti.ty.cells,some (vS ti.ty))/\xE P t ti
def vT (P:Program):rQ->Prop
 |[]=>True
 |(t,ti)::r=>sB P t ti/\vT P r
theorem s5 {P:Program}: ∀{T:rQ},vT P T->∀{t:TypeId}{ti:TI},qQ T t=some ti->sB P t ti
 |[],_,_,_,h=>by simp [qQ] at h
 |(k,ti)::r,hT,t,ti',h=>by
  simp only[qQ] at h;by_cases hk:k=t
  ·rw[aQj hk] at h;subst hk;rw[<-aQo h];exact hT.1
  ·rw[aQl hk] at h;exact s5 hT.2 h
theorem CZ (g:Gh) (w:World): ∀t:Ty,Rd g w t t.zero (sL t)
 | .bool=>rfl
 | .int _=>rfl
 | .str=>rfl
 | .list _=>⟨none,0,rfl,aQF _,.inl rfl⟩
 | .unit=>rfl
 | .pair a b=>⟨_,_,rfl,CZ g w a,CZ g w b⟩
 | .ref=>rfl
 | .clo=>rfl
 | .mp=>rfl
 | .rl _ _=>rfl
 | .fn=>rfl
 | .mref=>rfl
theorem NJ (g:Gh) (w:World) (t:Ty):s9 g w t t.zero (vS t):=by
 unfold s9 vS;by_cases h:t.isRow=true
 ·left;rw[aQj h];exact⟨h,_,rfl,CZ g w t⟩
 ·right;rw[aQl h];refine⟨by simpa using h,?_⟩;cases t<;>first|exact CZ g w _|(simp [Ty.isRow] at h)
theorem DY {g:Gh}{w:World}{t:Ty}{x:t.den}{v:Value}(h:s9 g w t x v):Rd g w t x v.cells.toList:=by
 rcases h with⟨_,cs,rfl,r⟩ |⟨hr,r⟩
 ·simpa[Value.cells] using r
 ·have h1:=AP r v (by simp);have:v.cells= #[v]:=by cases v<;>first|rfl|(simp [Value.oneCell'] at h1)
  rw[this];exact r
theorem BO {g:Gh}{w:World}{t:Ty}{x:t.den}{v:Value}(hr:t.isRow=false) (h:s9 g w t x v):Rd g w t x [v]:=by
 rcases h with⟨h1,_⟩ |⟨_,r⟩
 ·rw[hr] at h1;cases h1
 ·exact r
theorem uM {g:Gh}{w:World}{k:IntKind}{n:Int}{v:Value}(h:s9 g w (.int k) n v):v= .int k n:=by
 have:=BO rfl h;simp only[Rd,aRf,and_true] at this;exact this
theorem vU {g:Gh}{w:World}{n:Bool}{v:Value}(h:s9 g w .bool n v):v= .bool n:=by
 have:=BO rfl h;simp only[Rd,aRf,and_true] at this;exact this
theorem xT {g:Gh}{w:World}{l:List UInt8}{v:Value}(h:s9 g w .str l v):v= .string ⟨l.toArray⟩:=by
 have:=BO rfl h;simp only[Rd,aRf,and_true] at this;exact this
theorem D0 {g:Gh}{w:World}{t:Ty}{l:List t.den}{v:Value}(h:s9 g w (.list t) l v): ∃a cap,v= .slice a l.length cap/\l.length<=cap/\(l=[]\/∃b o,a=some ⟨b,o,none⟩/\xC (Rd g w t) w g.S t.cells b o l):=by
 have:=BO rfl h;obtain⟨a,cap,e,h1,h2⟩:=this;simp only[aRf,and_true] at e;exact⟨a,cap,e,h1,h2⟩
theorem zV {g:Gh}{w:World}{i o:Nat}{v:Value}(h:s9 g w .ref (some (i,o)) v): ∃p,g.J i=some p/\v= .pointer (some ⟨p.1,p.2+o,none⟩):=by
 have:=BO rfl h;obtain⟨p,h1,e⟩:=this;simp only[aRf,and_true] at e;exact⟨p,h1,e⟩
theorem IH {g:Gh}{w:World}{t:Ty}{x:t.den}{v:Value}(hr:t.isRow=true) (h:s9 g w t x v): ∃cs:List Value,v= .agg cs.toArray/\Rd g w t x cs:=by
 rcases h with⟨_,r⟩ |⟨h1,_⟩
 ·exact r
 ·rw[hr] at h1;cases h1
theorem vB (g:Gh) (w:World) (k:IntKind) (n:Int):s9 g w (.int k) n (.int k n):= .inr ⟨rfl,rfl⟩
theorem vC (g:Gh) (w:World) (b:Bool):s9 g w .bool b (.bool b):= .inr ⟨rfl,rfl⟩
theorem F2 (g:Gh) (w:World) (l:List UInt8):s9 g w .str l (.string ⟨l.toArray⟩):= .inr ⟨rfl,rfl⟩
def qD (P:Program) (o:Oper) (a:Act) (g:Gh) (w:World) (H:r5) (e:pJ):Prop:=
 ∀(K:Act->World->Prop) (Q:Exit->Act->World->Prop),(∀g' w' v,qW g w H e g' w' v->K (a.put o.dst v) w')->o.wp P a w K Q
theorem qD.value {P:Program}{o:Oper}{a:Act}{g g':Gh}{w w':World}{H:r5}{e:pJ}{v:Value}(hr:(execOp a.eval o).run P w= .ok (.value v) w') (h:qW g w H e g' w' v):qD P o a g w H e:=by
 intro K Q hK;unfold Oper.wp;rw[hr];exact hK g' w' v h
theorem qD.skip {P:Program}{o:Oper}{a:Act}{g g':Gh}{w w':World}{H:r5}{e:pJ}(hr:(execOp a.eval o).run P w= .ok .skip w') (h:qW g w H e g' w' undef):qD P o a g w H e:=by
 intro K Q hK;unfold Oper.wp;rw[hr];exact hK g' w' undef h
theorem qD.pure {P:Program}{o:Oper}{a:Act}{g:Gh}{w:World}{H:r5}{side:List Prop}{d:DV}{rds:List Nat}{v:Value}(hH:rK g w H) (hr:(execOp a.eval o).run P w= .ok (.value v) w) (h:yZ g w d v):
  qD P o a g w H ⟨side,(d,none),[],rds⟩:= .value hr (.pure hH ⟨h,trivial⟩)
section
variable {P:Program}{o:Oper}{a:Act}{g:Gh}{w:World}{H:r5}
theorem RY {g:Gh}{w:World}{k:IntKind}(q:Int) (hq: ∀p∈(I0 k q).1,p):yZ g w (I0 k q).2 (.int k (k.wrap q)):=by
 cases k<;>simp only[I0] at hq⊢ <;>first|exact vB _ _ _ _|skip
 have h0:=hq _ (aQx.2 rfl);rw[show IntKind.i64.wrap q=q from IntWalk.i64_in q (by omega)];exact vB _ _ _ _
theorem aGB (g:Gh) {op:BinOp}{xt:TypeId}{x y:Operand}{k:IntKind}{m n:Int}{r:List Prop×DV}(hr:W4 k m n op=some r) (hs: ∀p∈r.1,p):
  ∃v,(do eqGuard op xt x y (.int k m) (.int k n);Go.binOp op xt (.int k m) (.int k n):Sem Value).run P w= .ok v w/\yZ g w r.2 v:=by
 cases op<;>simp only[W4,aQk,reduceCtorEq] at hr
 all_goals subst hr
 case add=>exact⟨.int k (k.wrap _),by simp [eqGuard,Go.binOp,Op.intArith],RY _ hs⟩
 case sub=>exact⟨.int k (k.wrap _),by simp [eqGuard,Go.binOp,Op.intArith],RY _ hs⟩
 case mul=>exact⟨.int k (k.wrap _),by simp [eqGuard,Go.binOp,Op.intArith],RY _ hs⟩
 case eql=>exact⟨.bool (decide (m=n)),by simp [eqGuard,Go.binOp,Op.intCmp];rfl,vC _ _ _⟩
 case neq=>exact⟨.bool (!decide (m=n)),by simp [eqGuard,Go.binOp,Op.intCmp,bne];rfl,vC _ _ _⟩
 case lss=>exact⟨.bool (decide _),by simp [eqGuard,Go.binOp,Op.intCmp],vC _ _ _⟩
 case leq=>exact⟨.bool (decide _),by simp [eqGuard,Go.binOp,Op.intCmp],vC _ _ _⟩
 case gtr=>exact⟨.bool (decide (n<m)),by simp [eqGuard,Go.binOp,Op.intCmp],vC _ _ _⟩
 case geq=>exact⟨.bool (decide (n<=m)),by simp [eqGuard,Go.binOp,Op.intCmp],vC _ _ _⟩
 case quo=>
  have h0:=hs _ (aQx.2 rfl);exact⟨.int k (k.wrap (Int.tdiv m n)),by simp [eqGuard,Go.binOp,Op.intDiv,h0],vB _ _ _ _⟩
 case rem=>
  have h0:=hs _ (aQx.2 rfl);exact⟨.int k (Int.tmod m n),by simp [eqGuard,Go.binOp,Op.intDiv,h0],vB _ _ _ _⟩
 case and=>exact⟨.int k (bits .and k m n),by simp [eqGuard,Go.binOp,intBits_and],vB _ _ _ _⟩
 case or=>exact⟨.int k (bits .or k m n),by simp [eqGuard,Go.binOp,intBits_or],vB _ _ _ _⟩
 case xor=>exact⟨.int k (bits .xor k m n),by simp [eqGuard,Go.binOp,intBits_xor],vB _ _ _ _⟩
 case andNot=>exact⟨.int k (bits .andNot k m n),by simp [eqGuard,Go.binOp,intBits_andNot],vB _ _ _ _⟩
theorem NK (m n:List UInt8):(m==n)=decide (m=n):=by rw[aRr];simp
theorem aGC (g:Gh) {op:BinOp}{xt:TypeId}{x y:Operand}{m n:List UInt8}{r:List Prop×DV}(hr:W6 m n op=some r) (hs: ∀p∈r.1,p):
  ∃v,(do eqGuard op xt x y (.string ⟨m.toArray⟩) (.string ⟨n.toArray⟩);Go.binOp op xt (.string ⟨m.toArray⟩) (.string ⟨n.toArray⟩):Sem Value).run P w= .ok v w/\yZ g w r.2 v:=by
 have hl: ∀l:List UInt8,(⟨l.toArray⟩:ByteArray).size=l.length:=fun l=>by simp [ByteArray.size]
 cases op<;>simp only[W6,aQk,reduceCtorEq] at hr
 all_goals subst hr
 case add=>
  have h0:=hs _ (aQx.2 rfl);refine⟨.string ⟨(m++n).toArray⟩,?_,F2 _ _ _⟩;rw[aQm] at h0;have h1: ¬(((⟨m.toArray⟩:ByteArray).size+(⟨n.toArray⟩:ByteArray).size:Nat):Int) >IntKind.i64.max:=by rw[hl,hl,show IntKind.i64.max=9223372036854775807 from by decide];omega
  simp only[eqGuard,Go.binOp,Op.stringOp,aQB,aQl h1];simp;rfl
 case eql=>exact⟨.bool (decide (m=n)),by simp [eqGuard,Go.binOp,Op.stringOp,NK],vC _ _ _⟩
 case neq=>exact⟨.bool (!decide (m=n)),by simp [eqGuard,Go.binOp,Op.stringOp,NK],vC _ _ _⟩
 case lss=>exact⟨.bool (Op.bytesLess m n),by simp [eqGuard,Go.binOp,Op.stringOp],vC _ _ _⟩
 case leq=>exact⟨.bool (Op.bytesLess m n||decide (m=n)),by simp [eqGuard,Go.binOp,Op.stringOp,NK],vC _ _ _⟩
 case gtr=>exact⟨.bool (!(Op.bytesLess m n||decide (m=n))),by simp [eqGuard,Go.binOp,Op.stringOp,NK],vC _ _ _⟩
 case geq=>exact⟨.bool (!Op.bytesLess m n),by simp [eqGuard,Go.binOp,Op.stringOp],vC _ _ _⟩
theorem II {r:Option (List Prop×DV)}{e:pJ}(h:AJ r=some e): ∃q,r=some q/\e=⟨q.1,(q.2,none),[],[]⟩:=by
 cases r with
 |none=>cases h
 |some q=>obtain⟨p,d⟩:=q;exact⟨(p,d),rfl,(aQo h).symm⟩
theorem aGD (hH:rK g w H) {op:BinOp}{xt yt:TypeId}{x y:Operand}(ho:o.op= .binOp op xt x y yt) {sx sy:pA}(hx:qJ g w sx (a.eval x)) (hy:qJ g w sy (a.eval y)) {e:pJ}
  (hr:AJ (QH op sx sy)=some e) (hs: ∀p∈e.side,p):qD P o a g w H e:=by
 obtain⟨q,hq,rfl⟩:=II hr;have go: ∀{u v:Value},a.eval x=u->a.eval y=v->(∃z,(do eqGuard op xt x y u v;Go.binOp op xt u v:Sem Value).run P w= .ok z w/\yZ g w q.2 z)->qD P o a g w H ⟨q.1,(q.2,none),[],[]⟩:=by
  rintro u v rfl rfl ⟨z,hz,hd⟩;refine qD.pure hH (v:=z) ?_ hd;unfold execOp;rw[ho];simp only[aQB,aQN] at hz⊢;rw[hz];rfl
 obtain⟨dx,kx⟩:=sx;obtain⟨dy,ky⟩:=sy;replace hx:=hx.1;replace hy:=hy.1;unfold QH at hq;split at hq
 ·rename_i k m k1 k' n k2 e1 e2;simp only[aQQ] at e1 e2;obtain⟨rfl,-⟩:=e1;obtain⟨rfl,-⟩:=e2;unfold a64 at hq;split at hq
  ·cases hq;have h0:=hs _ (aQx.2 rfl);exact go (uM hx) (uM hy) ⟨.int k (W5 k m n),by simp [eqGuard,Go.binOp,Op.shift,W5,Int.not_lt.2 h0],vB _ _ _ _⟩
  ·cases hq;have h0:=hs _ (aQx.2 rfl);exact go (uM hx) (uM hy) ⟨.int k (wJ k m n),by simp [eqGuard,Go.binOp,Op.shift,wJ,Int.not_lt.2 h0],vB _ _ _ _⟩
  ·by_cases hk:k=k'
   ·subst hk;rw[aQj rfl] at hq;exact go (uM hx) (uM hy) (aGB g hq hs)
   ·rw[aQl hk] at hq;cases hq
 ·rename_i m k1 n k2 e1 e2;simp only[aQQ] at e1 e2;obtain⟨rfl,-⟩:=e1;obtain⟨rfl,-⟩:=e2;exact go (xT hx) (xT hy) (aGC g hq hs)
 ·cases hq
theorem aGE (hH:rK g w H) {op:UnOp}{xt:TypeId}{x:Operand}(ho:o.op= .unOp op xt x) {sx:pA}(hx:qJ g w sx (a.eval x)) {e:pJ}
  (hr:AJ (W8 op sx)=some e) (hs: ∀p∈e.side,p):qD P o a g w H e:=by
 obtain⟨q,hq,rfl⟩:=II hr;replace hx:=hx.1;unfold W8 at hq;split at hq
 ·have:=vU hx;cases hq;refine qD.pure hH (v:= .bool _) ?_ (vC _ _ _);simp [execOp,ho,this,Op.unary]
 ·rename_i k n _;have:=uM hx;cases hq;refine qD.pure hH (v:= .int k (k.wrap (-n))) ?_ (RY _ hs);simp [execOp,ho,this,Op.unary,Op.intArith]
 ·cases hq
theorem RZ {t:TypeId}{ti:TI}(h:sB P t ti): ∃d,P.underlying t=some d/\d.isRow=ti.ty.isRow:=by
 have h2:=h.2;unfold xE at h2;obtain⟨ty,el,by',ar,ls⟩:=ti;cases ty<;>simp only at h2
 case bool=>exact⟨_,h2,rfl⟩
 case int=>exact⟨_,h2,rfl⟩
 case str=>exact⟨_,h2,rfl⟩
 case list=>exact⟨_,h2.1,rfl⟩
 case ref=>obtain⟨e,h⟩:=h2;exact⟨_,h,rfl⟩
 case clo=>obtain⟨a,b,c,h⟩:=h2;exact⟨_,h,rfl⟩
 case mp=>exact⟨_,h2,rfl⟩
 case rl=>obtain⟨e,h⟩:=h2;exact⟨_,h,rfl⟩
 case fn=>obtain⟨a,b,c,h⟩:=h2;exact⟨_,h,rfl⟩
 case mref=>obtain⟨e,h⟩:=h2;exact⟨_,h,rfl⟩
 all_goals
  rcases h2.1 with⟨_,fs,h,_⟩ |⟨_,n,e,h,_⟩
  ·exact⟨_,h,rfl⟩
  ·exact⟨_,h,rfl⟩
theorem F3 {t:TypeId}{ti:TI}(h:sB P t ti): ∃i,P.info? t=some i/\i.size=ti.ty.cells/\i.zero=some (vS ti.ty):=by
 obtain⟨i,hi,he⟩:=aQz.1 h.1;simp only[aQQ] at he;exact⟨i,hi,he.1,he.2⟩
theorem aGF {T:rQ}(hT:vT P T) (hH:rK g w H) {st dt:TypeId}{x:Operand}(ho:o.op= .convert st dt x) {sx:pA}(hx:qJ g w sx (a.eval x)) {e:pJ}
  (hr:AJ (QJ (qQ T st) (qQ T dt) sx)=some e):qD P o a g w H e:=by
 obtain⟨q,hq,rfl⟩:=II hr;replace hx:=hx.1;generalize hs:qQ T st=os at hq;generalize hd:qQ T dt=od at hq;unfold QJ at hq;split at hq
 ·rename_i k' k _ _ _ _ k0 n _;obtain⟨d,hd1,_⟩:=RZ (s5 hT hs);have hd2:=(s5 hT hd).2;simp only[xE] at hd2;have:=uM hx;cases hq;refine qD.pure hH (v:= .int k (k.wrap n)) ?_ (vB _ _ _ _);simp [execOp,ho,this,Go.convert,aQD hd1,aQD hd2,Conv.intToInt]
 ·rename_i k' _ _ _ _ s _;obtain⟨d,hd1,_⟩:=RZ (s5 hT hs);have hd2:=(s5 hT hd).2;simp only[xE] at hd2;have:=xT hx;cases hq;refine qD.pure hH (v:= .string ⟨List.toArray s⟩) ?_ (F2 _ _ _);simp [execOp,ho,this,Go.convert,aQD hd1,aQD hd2]
 ·cases hq
theorem S0 {α:Type}{R:α->List Value->Prop}{w:World}{S:Nat->Nat->Prop}{c b:Nat}: ∀{l:List α}{o i:Nat}{x:α},xC R w S c b o l->l[i]? =some x->
  ∃cs,cs.length=c/\w.rangeAt b (o+i*c) cs/\(∀j,j<c->S b (o+i*c+j))/\R x cs
 |y::l,o,0,x,⟨⟨cs,h1,h2,h3,h4⟩,_⟩,h=>by
  simp only[aQR,aQk] at h;subst h;exact⟨cs,h1,by simpa using h2,by simpa using h3,h4⟩
 |y::l,o,i+1,x,⟨_,h5⟩,h=>by
  simp only[aQ5] at h;obtain⟨cs,h1,h2,h3,h4⟩:=S0 h5 h;have e:o+c+i*c=o+(i+1)*c:=by rw[aRn];omega
  exact⟨cs,h1,by rw[<-e];exact h2,by rw[<-e];exact h3,h4⟩
theorem a7N {α:Type}{R:α->List Value->Prop}{w:World}{S:Nat->Nat->Prop}{c b:Nat}: ∀{l:List α}{o:Nat}(i:Nat),xC R w S c b o l->i<=l.length->xC R w S c b (o+i*c) (l.drop i)
 |_,o,0,h,_=>by simpa using h
 |[],o,i+1,_,h=>by simp at h
 |y::l,o,i+1,⟨_,h5⟩,h=>by
  have:=a7N i h5 (by simpa using h);have e:o+c+i*c=o+(i+1)*c:=by rw[aRn];omega
  rw[<-e];simpa using this
theorem a7O {α:Type}{R:α->List Value->Prop}{w:World}{S:Nat->Nat->Prop}{c b:Nat}: ∀{l:List α}{o:Nat}(i:Nat),xC R w S c b o l->xC R w S c b o (l.take i)
 |_,_,0,_=>by simp [xC]
 |[],_,_+1,_=>by simp [xC]
 |_::_,_,i+1,⟨h,h5⟩=>by simpa[xC] using⟨h,a7O i h5⟩
theorem XD {g:Gh}{w:World}: ∀{t:Ty}{x:t.den}{cs:List Value}{f:Nat}{u:Ty}{y:u.den},Rd g w t x cs->t.proj x f=some ⟨u,y⟩->
  ∃o c1 c2 c3,t.offs f=some o/\t.fld f=some u/\cs=c1++c2++c3/\c1.length=o/\Rd g w u y c2:=by
 intro t
 induction t with
 |pair a b _ ihb=>
  intro x cs f u y r h;obtain⟨c1,c2,e,r1,r2⟩:=r;cases f with
  |zero=>
   simp only[Ty.proj,aQk,Sigma.mk.injEq] at h;obtain⟨rfl,h2⟩:=h;obtain rfl:=eq_of_heq h2;exact⟨0,[],c1,c2,rfl,rfl,by simpa using e,rfl,r1⟩
  |succ f=>
   simp only[Ty.proj] at h;obtain⟨o,d1,d2,d3,h1,h2,h3,h4,h5⟩:=ihb r2 h;refine⟨a.cells+o,c1++d1,d2,d3,by simp [Ty.offs,h1],by simpa[Ty.fld] using h2,by rw[e,h3];simp,?_,h5⟩;rw[aQm,h4,rS r1]
 |_=>intro x cs f u y r h;cases f<;>simp [Ty.proj] at h
theorem XE {P:Program}: ∀{ty:Ty}{off:Nat}{fs:List Field}{f o:Nat}{u:Ty},KM P ty off fs->ty.offs f=some o->ty.fld f=some u->
  ∃fd,fs[f]? =some fd/\fd.offset=off+o/\(P.info? fd.type).map (·.size)=some u.cells/\(P.underlying fd.type).map (·.isRow)=some u.isRow:=by
 intro ty
 induction ty with
 |pair a b _ ihb=>
  intro off fs f o u h ho hu;cases fs with
  |nil=>exact h.elim
  |cons fd fs=>
   obtain⟨h1,h2,h3,h4⟩:=h;cases f with
   |zero=>
    simp only[Ty.offs,aQk] at ho;simp only[Ty.fld,aQk] at hu;subst ho;subst hu;exact⟨fd,rfl,by omega,h2,h3⟩
   |succ f=>
    simp only[Ty.offs,aQz] at ho;obtain⟨o',ho',rfl⟩:=ho;obtain⟨fd',k1,k2,k3,k4⟩:=ihb h4 ho' hu;exact⟨fd',by simpa using k1,by omega,k3,k4⟩
 |_=>intro off fs f o u h ho hu;cases f<;>simp [Ty.offs] at ho
theorem XF {P:Program}{e:TypeId}: ∀{ty:Ty}{n f o:Nat}{u:Ty},NI P e ty n->ty.offs f=some o->ty.fld f=some u->
  f<n/\(P.info? e).map (·.size)=some u.cells/\(P.underlying e).map (·.isRow)=some u.isRow/\o=f*u.cells:=by
 intro ty
 induction ty with
 |pair a b _ ihb=>
  intro n f o u h ho hu;cases n with
  |zero=>exact h.elim
  |succ n=>
   obtain⟨h2,h3,h4⟩:=h;cases f with
   |zero=>
    simp only[Ty.offs,aQk] at ho;simp only[Ty.fld,aQk] at hu;subst ho;subst hu;exact⟨by omega,h2,h3,by simp⟩
   |succ f=>
    simp only[Ty.offs,aQz] at ho;obtain⟨o',ho',rfl⟩:=ho;obtain⟨k1,k2,k3,k4⟩:=ihb h4 ho' hu;rw[h2] at k2;have hc:a.cells=u.cells:=aQo k2;exact⟨by omega,by rw[h2,hc],k3,by rw[k4,hc,aRn];omega⟩
 |_=>intro n f o u h ho hu;cases f<;>simp [Ty.offs] at ho
theorem NL {t:TypeId}{u:Ty}(hi:(P.info? t).map (·.size)=some u.cells) (hr:(P.underlying t).map (·.isRow)=some u.isRow) {y:u.den}{c1 c2 c3:List Value}(h:Rd g w u y c2):
  ∃v,(part t (c1++c2++c3).toArray c1.length).run P w= .ok v w/\s9 g w u y v:=by
 obtain⟨i,hi,hsz⟩:=aQz.1 hi;obtain⟨d,hd,hrow⟩:=aQz.1 hr;have hl:=rS h;by_cases hu:u.isRow=true
 ·refine⟨.agg c2.toArray,?_,.inl ⟨hu,c2,rfl,h⟩⟩;have hagg:(isAgg t).run P w= .ok true w:=by
   unfold isAgg;rw[aQB,aQD hd w];rw[hu] at hrow;cases d<;>simp_all [TypeDesc.isRow]
  simp only[part,aQB,hagg,aQu,aRZ,sizeOf,typeInfo,aRp,hi,hsz,aQN];congr 2;apply aRv.1;simp [<-hl]
 ·have hu':u.isRow=false:=by simpa using hu
  have h1:u.cells=1:=by cases u<;>first|rfl|(simp [Ty.isRow] at hu')
  obtain⟨v,rfl⟩: ∃v,c2=[v]:=by
   rw[h1] at hl;exact aRG.1 hl
  refine⟨v,?_,.inr ⟨hu',h⟩⟩;have hagg:(isAgg t).run P w= .ok false w:=by
   unfold isAgg;rw[aQB,aQD hd w];rw[hu'] at hrow;cases d<;>simp_all [TypeDesc.isRow]
  simp only[part,aQB,hagg,aQu];simp
theorem XG {t:TypeId}{ti:TI}(h:sB P t ti) (hr:ti.ty.isRow=true):
  (ti.arr=false/\∃fs,P.underlying t=some (.struct fs)/\KM P ti.ty 0 fs.toList)\/(ti.arr=true/\∃n e,P.underlying t=some (.array n e)/\NI P e ti.ty n/\(P.info? e).isSome=true):=by
 have h2:=h.2;unfold xE at h2;obtain⟨ty,el,by',ar,ls⟩:=ti;cases ty<;>simp only[Ty.isRow,aRC] at hr<;>exact h2.1
theorem a7P {t:TypeId}{ti:TI}(h:sB P t ti) (hr:ti.ty.isRow=true) (ha:ti.arr=false): ∃fs,P.underlying t=some (.struct fs)/\KM P ti.ty 0 fs.toList:=by
 rcases XG h hr with⟨_,h⟩ |⟨h,_⟩
 ·exact h
 ·rw[ha] at h;cases h
theorem a7Q {t:TypeId}{ti:TI}(h:sB P t ti) (hr:ti.ty.isRow=true) (ha:ti.arr=true): ∃n e,P.underlying t=some (.array n e)/\NI P e ti.ty n/\(P.info? e).isSome=true:=by
 rcases XG h hr with⟨h,_⟩ |⟨_,h⟩
 ·rw[ha] at h;cases h
 ·exact h
theorem aGG {t:Ty}{x:t.den}{f:Nat}{q: Σ u:Ty,u.den}(h:t.proj x f=some q):t.isRow=true:=by
 cases t<;>first|rfl|(cases f<;>simp [Ty.proj] at h)
theorem aGH {t:Ty}{f o:Nat}(h:t.offs f=some o):t.isRow=true:=by
 cases t<;>first|rfl|(cases f<;>simp [Ty.offs] at h)
end
theorem aGI (l:List UInt8) (n:Nat) (h:n<l.length):(⟨l.toArray⟩:ByteArray)[n]? =some l[n]:=by
 have:n<(⟨l.toArray⟩:ByteArray).size:=by simpa[ByteArray.size] using h
 rw[getElem?_pos (⟨l.toArray⟩:ByteArray) n this];rfl
theorem vV {i:Int}{n:Nat}(h0:0<=i) (h1:i<n):i.toNat<n:=by omega
theorem a7R {i:Int}{n:Nat}(h0:0<=i) (h1:i.toNat<n):i<n:=by omega
section
variable {P:Program}{o:Oper}{a:Act}{g:Gh}{w:World}{H:r5}{T:rQ}(hT:vT P T) (hH:rK g w H)
include hT hH
theorem aGJ {t:TypeId}{x:Operand}{f:Nat}(ho:o.op= .field t x f) {sx:pA}(hx:qJ g w sx (a.eval x)) {e:pJ}(hr:WT f (qQ T t) sx=some e):qD P o a g w H e:=by
 generalize hs:qQ T t=ot at hr;replace hx:=hx.1;unfold WT at hr;split at hr
 ·rename_i ty el by' ls_ u y _;split at hr
  ·rename_i hu;subst hu;have hty:=s5 hT hs;generalize hp:u.proj y f=q at hr;cases q with
   |none=>cases hr
   |some q=>
    obtain⟨u,z⟩:=q;cases hr;have hrow:=aGG hp;obtain⟨cs,hv,hR⟩:=IH hrow hx;obtain⟨oo,c1,c2,c3,h1,h2,rfl,rfl,h5⟩:=XD hR hp;obtain⟨fs,hfs,hfe⟩:=a7P hty hrow rfl;obtain⟨fd,k1,k2,k3,k4⟩:=XE hfe h1 h2;obtain⟨v,hv1,hv2⟩:=NL k3 k4 (P:=P) (c1:=c1) (c3:=c3) h5;refine qD.pure hH (v:=v) ?_ hv2;have k1':fs[f]? =some fd:=by simpa using k1
    simp only[execOp,ho,hv,Instr.field,aQB,aQD hfs,aQu,k1',asAgg,aQN,k2,aQV,hv1]
  ·cases hr
 ·cases hr
theorem XH {t:TypeId}{ti:TI}(hty:sB P t ti) (har:ti.arr=false) {f oo:Nat}{u:Ty}(h1:ti.ty.offs f=some oo) (h2:ti.ty.fld f=some u) (hpos:0<u.cells) (b off:Nat):
  (Instr.fieldAt t (.pointer (some ⟨b,off,none⟩)) f).run P w= .ok (.pointer (some ⟨b,off+oo,none⟩)) w:=by
 obtain⟨fs,hfs,hfe⟩:=a7P hty (aGH h1) har;obtain⟨fd,k1,k2,k3,k4⟩:=XE hfe h1 h2;obtain⟨i,hi,hsz⟩:=aQz.1 k3;have k1':fs[f]? =some fd:=by simpa using k1
 have hne: ¬(u.cells=0):=by omega
 simp only[Instr.fieldAt,aQB,aQD hfs,aQu,k1',Instr.sureAddr,aQN,fieldPlace,sizeOf,typeInfo,aRp,hi,hsz,aQl hne,k2,aQV,aRz]
theorem aGK {t:TypeId}{x:Operand}{f:Nat}(ho:o.op= .fieldAddr t x f) {sx:pA}(hx:qJ g w sx (a.eval x)) {e:pJ}(hr:WS f (qQ T t) sx=some e):qD P o a g w H e:=by
 generalize hs:qQ T t=ot at hr;replace hx:=hx.1;unfold WS at hr;split at hr
 ·rename_i ty el by' ls_ k n c i o' _;have hty:=s5 hT hs;generalize h1:ty.offs f=o1 at hr;generalize h2:ty.fld f=o2 at hr;unfold a7t at hr;split at hr
  ·split at hr
   ·rename_i oo u hpos;cases hr;obtain⟨b,cap,hc,hi0,hi1,hv⟩:=hx;refine qD.pure hH (v:= .pointer (some ⟨b,i.toNat*c+o'+oo,none⟩)) ?_ ⟨b,cap,hc,hi0,hi1,by rw[aQ1]⟩;simp only[execOp,ho,hv,aQB,XH hT hH hty rfl h1 h2 hpos,aQu,aQN]
   ·cases hr
  ·cases hr
 ·rename_i ty el by' ls_ u y _;split at hr
  ·rename_i hu;subst hu;have hty:=s5 hT hs;generalize hp:u.proj y f=q at hr;cases q with
   |none=>cases hr
   |some q=>
    obtain⟨u,z⟩:=q;simp only[R6] at hr;split at hr
    ·rename_i hpos;cases hr;obtain⟨b,off,cs,hv,hra,hS,hR⟩:=hx;obtain⟨oo,c1,c2,c3,h1,h2,rfl,rfl,h5⟩:=XD hR hp;refine qD.pure hH (v:= .pointer (some ⟨b,off+c1.length,none⟩)) ?_ ⟨b,off+c1.length,c2,rfl,fun j v hj=> ?_,fun j hj=> ?_,h5⟩
     ·simp only[execOp,ho,hv,aQB,XH hT hH hty rfl h1 h2 hpos,aQu,aQN]
     ·have:=hra (c1.length+j) v (by
       have hj':=(aQA.1 hj).1;rw[aQt,aQv (by omega),aQ4,aQE hj'];exact hj)
      rw[aQ1];exact this
     ·have:=hS (c1.length+j) (by
       have:=rS hR;have h6:=rS h5;simp only[aQm] at this;omega)
      rw[aQ1];exact this
    ·cases hr
  ·cases hr
 ·rename_i ty el by' ls_ i off _;have hty:=s5 hT hs;generalize h1:ty.offs f=o1 at hr;generalize h2:ty.fld f=o2 at hr;unfold R7 at hr;split at hr
  ·split at hr
   ·rename_i oo u hpos;cases hr;obtain⟨p,hp,hv⟩:=zV hx;refine qD.pure hH (v:= .pointer (some ⟨p.1,p.2+off+oo,none⟩)) ?_ (.inr ⟨rfl,p,hp,by rw[aQ1]⟩);simp only[execOp,ho,hv,aQB,XH hT hH hty rfl h1 h2 hpos,aQu,aQN]
   ·cases hr
  ·cases hr
 ·cases hr
theorem aGL {x:Operand}{i:Nat}(ho:o.op= .extract x i) {sx:pA}(hx:qJ g w sx (a.eval x)) {e:pJ}(hr:WW i sx=some e) (hs: ∀p∈e.side,p):qD P o a g w H e:=by
 replace hx:=hx.1;unfold WW at hr;split at hr
 rotate_left
 ·rename_i b p c _;have run: ∀(v:Value) (vs:Array Value),a.eval x= .tuple vs->vs[i]? =some v->(execOp a.eval o).run P w= .ok (.value v) w:=by
   intro v vs h1 h2;simp [execOp,ho,h1,Instr.extract,h2]
  obtain⟨h1,h2⟩:=hx;unfold a7u at hr;split at hr
  ·cases hr;cases b with
   |true=>exact qD.pure hH (run (.bool true) _ (h1 rfl) rfl) (vC _ _ _)
   |false=>exact qD.pure hH (run (.bool false) _ (h2 rfl) rfl) (vC _ _ _)
  ·cases hr;have hb:=hs (b=true) (by simp);exact qD.pure hH (run (.int .i64 p) _ (h1 hb) rfl) (vB _ _ _ _)
  ·cases hr;have hb:=hs (b=true) (by simp);exact qD.pure hH (run (.int .i32 c) _ (h1 hb) rfl) (vB _ _ _ _)
  ·cases hr
 rotate_left
 ·rename_i l _;obtain⟨vs,hv,hl⟩:=hx;have key: ∀(l:List ((Σ t:Ty,t.den)×Option Nat)) (vs:List Value) (i:Nat),KK g w l vs->R9 l i=some e->∃v,vs[i]? =some v/\qJ g w e.slot v/\e.upd=[]/\e.rds=[]:=by
   intro l
   induction l with
   |nil=>intro vs i _ h;cases i<;>cases h
   |cons q l ih=>
    obtain⟨⟨t,x⟩,k⟩:=q;rintro vs i ⟨v,vs',rfl,r1,r2,r3⟩ h;cases i with
    |zero=>
     simp only[R9,aQk] at h;subst h;refine⟨v,rfl,⟨r1,?_⟩,rfl,rfl⟩;cases k with
     |none=>trivial
     |some k=>exact r2
    |succ i=>
     obtain⟨v',h1,h2,h3,h4⟩:=ih vs' i r3 h;exact⟨v',by simpa using h1,h2,h3,h4⟩
  obtain⟨v,h1,h2,h3,h4⟩:=key l vs i hl hr;obtain⟨side,slot,upd,rds⟩:=e;simp only at h2 h3 h4;subst h3;refine qD.value (v:=v) (g':=g) (w':=w) ?_ (.pure hH h2);have:vs.toArray[i]? =some v:=by simpa using h1
  simp [execOp,ho,hv,Instr.extract,this]
 ·cases hr
theorem aGM {x:Operand}(ho:o.op= .nilCheck x) {sx:pA}(hx:qJ g w sx (a.eval x)) {e:pJ}(hr:WR sx=some e):qD P o a g w H e:=by
 replace hx:=hx.1;unfold WR at hr;split at hr
 ·rename_i p _;obtain⟨i,off⟩:=p;cases hr;obtain⟨p,hp,hv⟩:=zV hx;refine qD.pure hH (v:=a.eval x) ?_ hx;simp [execOp,ho,hv]
 ·cases hr;obtain⟨b,off,cs,hv,h⟩:=hx;refine qD.pure hH (v:=a.eval x) ?_ ⟨b,off,cs,hv,h⟩;simp [execOp,ho,hv]
 ·cases hr;obtain⟨b,cap,h1,h2,h3,hv⟩:=hx;refine qD.pure hH (v:=a.eval x) ?_ ⟨b,cap,h1,h2,h3,hv⟩;simp [execOp,ho,hv]
 ·cases hr
theorem aGN {t:TypeId}{x ix:Operand}(ho:o.op= .index t x ix) {sx si:pA}(hx:qJ g w sx (a.eval x)) (hi:qJ g w si (a.eval ix)) {e:pJ}(hr:WV (qQ T t) sx si=some e) (hs: ∀p∈e.side,p):qD P o a g w H e:=by
 generalize hst:qQ T t=ot at hr;replace hx:=hx.1;replace hi:=hi.1;unfold WV at hr;split at hr
 ·rename_i _ _ _ _ l _ k i _;cases hr;have hb:=hs _ (aQx.2 rfl);have h2:=(s5 hT hst).2;simp only[xE] at h2;have hv:=xT hx;have hvi:=uM hi;have hlt:(Int.toNat i)<List.length l:=vV hb.1 hb.2;refine qD.pure hH (v:= .int .u8 (pL l i)) ?_ (vB _ _ _ _);have hget:(if (0:Int)<=i then(⟨List.toArray l⟩:ByteArray)[Int.toNat i]? else none)=some (l[Int.toNat i]):=by
   rw[aQj hb.1];exact aGI l _ hlt
  have hbyte:pL l i=((l[Int.toNat i]).toNat:Int):=by
   unfold pL;rw[aQI,aQs hlt];rfl
  simp only[execOp,ho,hv,hvi,Instr.index,asIntOf,aQB,aQN,aQu,aQD h2,hget,hbyte]
 ·cases hr
theorem aGO {t:TypeId}{x ix:Operand}(ho:o.op= .indexAddr t x ix) {sx si:pA}(hx:qJ g w sx (a.eval x)) (hi:qJ g w si (a.eval ix)) {e:pJ}(hr:WU (qQ T t) sx si=some e) (hs: ∀p∈e.side,p):qD P o a g w H e:=by
 generalize hst:qQ T t=ot at hr;replace hx:=hx.1;replace hi:=hi.1;unfold WU at hr;split at hr
 ·rename_i t' el by' ar ls_ k n _ k' i _;split at hr
  ·rename_i hpos;cases hr;have hb:=hs _ (aQx.2 rfl);obtain⟨h2,h3,_⟩:=(s5 hT hst).2;obtain⟨ei,hei,hz⟩:=aQz.1 h3;simp only[aQQ] at hz;have hvi:=uM hi;obtain⟨hc,hv⟩:=hx;rcases hv with⟨_,rfl⟩ |⟨b,cap,hv,hcap⟩
   ·exact absurd (Int.lt_of_le_of_lt hb.1 hb.2) (Int.lt_irrefl 0)
   refine qD.pure hH (v:= .pointer (some ⟨b,0+Int.toNat i*t'.cells,none⟩)) ?_ ⟨b,cap,by rw[<-hv];exact hc,hb.1,hb.2,by rw[aQV,aRW]⟩;simp only[execOp,ho,hv,hvi,Instr.indexAt,asIntOf,aQB,aQN,aQu,aQD h2,sizeOf,typeInfo,aRp,hei,hz.1,aQj hb,aRz]
  ·cases hr
 ·rename_i t' el by' ar ls_ t1 l _ k i _;split at hr
  ·rename_i htt;subst htt;cases hr;have hb:=hs _ (aQx.2 rfl);obtain⟨h2,h3,_⟩:=(s5 hT hst).2;obtain⟨ei,hei,hz⟩:=aQz.1 h3;simp only[aQQ] at hz;have hvi:=uM hi;obtain⟨ad,cap,hv,hle,hl⟩:=D0 hx;have hlt:(Int.toNat i)<List.length l:=vV hb.1 hb.2;rcases hl with rfl|⟨b,off,rfl,hL⟩
   ·simp at hlt
   have hnth:l[Int.toNat i]? =some (pZ t1 l i):=by
    unfold pZ;rw[aQI,aQs hlt];rfl
   obtain⟨cs,hc1,hc2,hc3,hc4⟩:=S0 hL hnth;refine qD.pure hH (v:= .pointer (some ⟨b,off+Int.toNat i*t1.cells,none⟩)) ?_ ⟨b,_,cs,rfl,hc2,hc3,hc4⟩;simp only[execOp,ho,hv,hvi,Instr.indexAt,asIntOf,aQB,aQN,aQu,aQD h2,sizeOf,typeInfo,aRp,hei,hz.1,aQj hb,aRz]
  ·cases hr
 ·rename_i s u el by' ls_ i off _ k n _;have hty:=s5 hT hst;generalize h1:(Ty.pair s u).offs (Int.toNat n)=o1 at hr;generalize h2:(Ty.pair s u).fld (Int.toNat n)=o2 at hr;unfold R7 at hr;split at hr
  ·split at hr
   ·rename_i oo v hpos;cases hr;have hn0:=hs _ (aQx.2 rfl);obtain⟨p,hp,hv⟩:=zV hx;have hvi:=uM hi;obtain⟨len,el',hu,hel,_⟩:=a7Q hty rfl rfl;obtain⟨k1,k2,k3,k4⟩:=XF hel h1 h2;obtain⟨ei,hei,hz⟩:=aQz.1 k2;have hb:(0:Int)<=n/\(n:Int)<(len:Int):=⟨hn0,a7R hn0 k1⟩;refine qD.pure hH (v:= .pointer (some ⟨p.1,p.2+off+oo,none⟩)) ?_ (.inr ⟨rfl,p,hp,by rw[aQ1]⟩);simp only[execOp,ho,hv,hvi,Instr.indexAt,Instr.sureAddr,asIntOf,aQB,aQN,aQu,aQD hu,sizeOf,typeInfo,aRp,hei,hz,aQj hb,aRz,k4]
   ·cases hr
  ·cases hr
 ·rename_i s u el by' ls_ u' y _ k n _;split at hr
  ·rename_i hu';subst hu';have hty:=s5 hT hst;generalize hp:(Ty.pair s u).proj y (Int.toNat n)=q at hr;cases q with
   |none=>cases hr
   |some q=>
    obtain⟨v,z⟩:=q;simp only[R6] at hr;split at hr
    ·rename_i hpos;cases hr;have hn0:=hs _ (aQx.2 rfl);obtain⟨b,off,cs,hv,hra,hS,hR⟩:=hx;have hvi:=uM hi;obtain⟨oo,c1,c2,c3,h1,h2,rfl,rfl,h5⟩:=XD hR hp;obtain⟨len,el',hu,hel,_⟩:=a7Q hty rfl rfl;obtain⟨k1,k2,k3,k4⟩:=XF hel h1 h2;obtain⟨ei,hei,hz⟩:=aQz.1 k2;have hb:(0:Int)<=n/\(n:Int)<(len:Int):=⟨hn0,a7R hn0 k1⟩;refine qD.pure hH (v:= .pointer (some ⟨b,off+c1.length,none⟩)) ?_ ⟨b,off+c1.length,c2,rfl,fun j v hj=> ?_,fun j hj=> ?_,h5⟩
     ·simp only[execOp,ho,hv,hvi,Instr.indexAt,Instr.sureAddr,asIntOf,aQB,aQN,aQu,aQD hu,sizeOf,typeInfo,aRp,hei,hz,aQj hb,aRz,<-k4]
     ·have:=hra (c1.length+j) v (by
       have hj':=(aQA.1 hj).1;rw[aQt,aQv (by omega),aQ4,aQE hj'];exact hj)
      rw[aQ1];exact this
     ·have:=hS (c1.length+j) (by
       have:=rS hR;have h6:=rS h5;simp only[aQm] at this;omega)
      rw[aQ1];exact this
    ·cases hr
  ·cases hr
 ·cases hr
end
theorem a7S (off:Nat): ∀(vl:List Value) (k:Nat) (cs:Array Value) (c1 c2 c3:List Value),cs.toList=c1++c2++c3->c1.length=off+k->c2.length=vl.length->
  ((vl.zipIdx k).foldl (fun(cs:Array Value) (p:Value×Nat)=>cs.setIfInBounds (off+p.2) p.1) cs).toList=c1++vl++c3
 |[],_,cs,c1,c2,c3,h,_,h2=>by
  have:c2=[]:=aQS (by simpa using h2);subst this;simpa using h
 |v::vl,k,cs,c1,c2,c3,h,h1,h2=>by
  cases c2 with
  |nil=>simp at h2
  |cons u c2=>
   simp only[List.zipIdx_cons,List.foldl_cons];have:=a7S off vl (k+1) (cs.setIfInBounds (off+k) v) (c1++[v]) c2 c3 (by
    rw[Array.toList_setIfInBounds,h,<-h1];simp) (by simp;omega) (by simpa using h2)
   rw[this];simp
theorem aGP (off:Nat) (vs cs:Array Value) (c1 c2 c3:List Value) (h:cs.toList=c1++c2++c3) (h1:c1.length=off) (h2:c2.length=vs.size):
  (vs.zipIdx.foldl (fun(cs:Array Value) (x:Value×Nat)=>match x with|(c,j)=>cs.setIfInBounds (off+j) c) cs).toList=c1++vs.toList++c3:=by
 rw[<-aSr,Array.toList_zipIdx];exact a7S off vs.toList 0 cs c1 c2 c3 h (by omega) (by simpa using h2)
theorem a7T {place:Nat->Option (Nat×Nat)}{cells:Array Value}{i:Nat}{v:Value}{rest:List (Nat×Value)}{off size:Nat}{c1 c2 c3:List Value}(hp:place i=some (off,size)) (hs:v.cells.size=size)
  (h:cells.toList=c1++c2++c3) (h1:c1.length=off) (h2:c2.length=size):
  Instr.fill place cells ((i,v)::rest)=Instr.fill place (c1++v.cells.toList++c3).toArray rest:=by
 have hsz:cells.size=c1.length+c2.length+c3.length:=by rw[<-aQT,h];simp;omega
 simp only[Instr.fill,hp];rw[aQl (by simp [hs];omega)];congr 1;apply aRv.1;rw[aGP off v.cells cells c1 c2 c3 h h1 (by omega)]
theorem XI: ∀{t:Ty}{cs:List Value},K9 t=false->cs.length=t.cells->wB t cs
 | .bool,_,_,_=>trivial
 | .int _,_,_,_=>trivial
 | .str,_,_,_=>trivial
 | .unit,_,_,_=>trivial
 | .ref,_,_,_=>trivial
 | .clo,_,_,_=>trivial
 | .mp,_,_,_=>trivial
 | .rl _ _,_,_,_=>trivial
 | .fn,_,_,_=>trivial
 | .mref,_,_,_=>trivial
 | .list _,_,h,_=>by simp [K9] at h
 | .pair a b,cs,h,hl=>by
  simp only[K9,aRE] at h;simp only[Ty.cells] at hl;exact⟨cs.take a.cells,cs.drop a.cells,by simp,by rw[aQM];omega,XI h.1 (by rw[aQM];omega),XI h.2 (by rw[aQw];omega)⟩
theorem XJ: ∀t:Ty,(sL t).length=t.cells
 | .bool=>rfl
 | .int _=>rfl
 | .str=>rfl
 | .unit=>rfl
 | .ref=>rfl
 | .clo=>rfl
 | .mp=>rfl
 | .rl _ _=>rfl
 | .fn=>rfl
 | .mref=>rfl
 | .list _=>rfl
 | .pair a b=>by simp only[sL,aQm,XJ a,XJ b,Ty.cells]
theorem S1: ∀t:Ty,wB t (sL t)
 | .bool=>trivial
 | .int _=>trivial
 | .str=>trivial
 | .unit=>trivial
 | .ref=>trivial
 | .clo=>trivial
 | .mp=>trivial
 | .rl _ _=>trivial
 | .fn=>trivial
 | .mref=>trivial
 | .list _=>rfl
 | .pair a b=>⟨sL a,sL b,rfl,XJ a,S1 a,S1 b⟩
theorem a7U {g:Gh}{w:World}: ∀{t:Ty}{x:t.den}{cs:List Value}{o:Nat},wB t cs->Rd g w t x cs->DR t o=true->∃(u:Ty),pX (.list u) t x o=some []/\cs[o]? =some (.slice none 0 0):=by
 intro t
 induction t with
 |pair a b iha ihb=>
  intro x cs o hn hr hl;obtain⟨c1,c2,e,h1,h2,h3⟩:=hn;obtain⟨d1,d2,e',r1,r2⟩:=hr;have hd:c1=d1/\c2=d2:=aSq (e.symm.trans e') (by rw[h1,rS r1]);obtain⟨rfl,rfl⟩:=hd;have key: ∀(u:Ty) q,pX (.list u) (.pair a b) x q=if q<a.cells then pX (.list u) a x.1 q else pX (.list u) b x.2 (q-a.cells):=by
   intro u q;cases q with
   |zero=>
    conv=>lhs;unfold pX
    rw[aR6 (by intro e;cases e),Nat.zero_sub]
   |succ q=>simp [pX]
  have hl':(if o<a.cells then DR a o else DR b (o-a.cells))=true:=by
   cases o<;>simpa[DR] using hl
  by_cases ho:o<a.cells
  ·rw[aQj ho] at hl';obtain⟨u,k1,k2⟩:=iha h2 r1 hl';exact⟨u,by rw[key,aQj ho];exact k1,by rw[e,aQE (by omega)];exact k2⟩
  ·rw[aQl ho] at hl';obtain⟨u,k1,k2⟩:=ihb h3 r2 hl';exact⟨u,by rw[key,aQl ho];exact k1,by rw[e,aQv (by omega),h1];exact k2⟩
 |list u=>
  intro x cs o hn hr hl;cases o with
  |succ o=>simp [DR] at hl
  |zero=>
   obtain⟨a,cap,e,_,_⟩:=hr;have hn':cs=[.slice none 0 0]:=hn;rw[hn'] at e;simp only[aRf,aSs,and_true] at e;have:(x:List u.den)=[]:=aQS e.2.1.symm;subst this;exact⟨u,by unfold pX;simp [sU],by rw[hn'];rfl⟩
 |_=>intro x cs o hn hr hl;cases o<;>simp [DR] at hl
theorem aGQ {g:Gh}{w:World}{u:Ty}{y:u.den}{cy:List Value}(hy:Rd g w u y cy): ∀{t:Ty}{x z:t.den}{cs:List Value}{f:Nat},Rd g w t x cs->Ty.setPart u y t x f=some z->
  ∃o c1 c2 c3,t.offs f=some o/\t.fld f=some u/\cs=c1++c2++c3/\c1.length=o/\c2.length=u.cells/\Rd g w t z (c1++cy++c3)/\(wB t cs->wB u cy->wB t (c1++cy++c3)):=by
 intro t
 induction t with
 |pair a b _ ihb=>
  intro x z cs f r h;obtain⟨c1,c2,e,r1,r2⟩:=r;cases f with
  |zero=>
   simp only[Ty.setPart] at h;split at h
   ·rename_i hu;subst hu;simp only[sU,aQk] at h;subst h;refine⟨0,[],c1,c2,rfl,rfl,by simpa using e,rfl,rS r1,⟨cy,c2,by simp,hy,r2⟩,fun⟨d1,d2,e',k1,_,k3⟩ hcy=> ?_⟩;obtain⟨rfl,rfl⟩:=aSq (e'.symm.trans e) (by rw[k1,rS r1]);exact⟨cy,d2,by simp,rS hy,hcy,k3⟩
   ·cases h
  |succ f=>
   simp only[Ty.setPart,aQz] at h;obtain⟨q,hq,rfl⟩:=h;obtain⟨o,d1,d2,d3,h1,h2,h3,h4,h5,h6,h7⟩:=ihb r2 hq;refine⟨a.cells+o,c1++d1,d2,d3,by simp [Ty.offs,h1],by simpa[Ty.fld] using h2,by rw[e,h3];simp,?_,h5,⟨c1,d1++cy++d3,by simp,r1,h6⟩,fun⟨k1,k2,e',k3,k4,k5⟩ hcy=>by
    obtain⟨rfl,rfl⟩:=aSq (e'.symm.trans e) (by rw[k3,rS r1]);exact⟨k1,d1++cy++d3,by simp,k3,k4,h7 k5 hcy⟩⟩
   rw[aQm,h4,rS r1]
 |_=>intro x z cs f r h;cases f<;>simp [Ty.setPart] at h
theorem XK {g:Gh}{w:World}{t:Ty}{ev:Operand->Value}{ρ:Operand->pA}{place:Nat->Option (Nat×Nat)}(hp: ∀f o u,t.offs f=some o->t.fld f=some u->place f=some (o,u.cells)):
  ∀(ps:List (Nat×Operand)) (x z:t.den) (cs:List Value),Rd g w t x cs->(∀q∈ps,qJ g w (ρ q.2) (ev q.2))->zS t (some x) (sZ ρ ps)=some z->
  ∃cs',Instr.fill place cs.toArray (ps.map fun q=>(q.1,ev q.2))=some cs'.toArray/\Rd g w t z cs'/\(AN (sZ ρ ps)=true->wB t cs->wB t cs')
 |[],x,z,cs,r,_,h=>by
  simp only[sZ,zS,aQk] at h;subst h;exact⟨cs,rfl,r,fun _ h=>h⟩
 |(i,q)::ps,x,z,cs,r,hq,h=>by
  have h0:=hq (i,q) (by simp);have step: ∀{u:Ty}{y:u.den}{z1:t.den},s9 g w u y (ev q)->Ty.setPart u y t x i=some z1->zS t (some z1) (sZ ρ ps)=some z->(AN (sZ ρ ((i,q)::ps))=true->wB u (ev q).cells.toList/\AN (sZ ρ ps)=true)->
    ∃cs',Instr.fill place cs.toArray (((i,q)::ps).map fun q=>(q.1,ev q.2))=some cs'.toArray/\Rd g w t z cs'/\(AN (sZ ρ ((i,q)::ps))=true->wB t cs->wB t cs'):=by
   intro u y z1 hv hset h hpl;obtain⟨o,c1,c2,c3,h1,h2,rfl,h4,h5,h6,h7⟩:=aGQ (DY hv) r hset;obtain⟨cs',hf,hr,hn⟩:=XK hp ps z1 z _ h6 (fun q hq'=>hq q (by simp [hq'])) h;refine⟨cs',?_,hr,fun hpp hcs=>hn (hpl hpp).2 (h7 hcs (hpl hpp).1)⟩;simp only[aRt];rw[a7T (hp i o u h1 h2) (by have:=rS (DY hv);simpa using this) (c1:=c1) (c2:=c2) (c3:=c3) (by simp) h4 h5];exact hf
  generalize hs:ρ q=s at h0;simp only[sZ,hs] at h;obtain⟨d,k⟩:=s;cases d with
  |val u y=>
   simp only[zS] at h;generalize hset:Ty.setPart u y t x i=o1 at h;cases o1 with
   |none=>cases ps with
    |nil=>simp [sZ,zS] at h
    |cons p ps=>simp [sZ,zS] at h
   |some z1=>
    have hpl:AN (sZ ρ ((i,q)::ps))=true->wB u (ev q).cells.toList/\AN (sZ ρ ps)=true:=by
     intro hpp;simp only[sZ,hs,AN,aQr,aQO] at hpp;exact⟨XI hpp.1 (rS (DY h0.1)),hpp.2⟩
    obtain⟨cs',k1,k2,k3⟩:=step h0.1 hset h hpl;exact⟨cs',k1,k2,k3⟩
  |nilS=>
   simp only[zS] at h;generalize hfl:t.fld i=fl at h;cases fl with
   |none=>cases ps<;>simp [QL,sZ,zS] at h
   |some u=>
    cases u with
    |list u=>
     simp only[QL] at h;generalize hset:Ty.setPart (.list u) [] t x i=o1 at h;cases o1 with
     |none=>cases ps<;>simp [sZ,zS] at h
     |some z1=>
      have hev:ev q= .slice none 0 0:=h0.1;refine step (u:= .list u) (y:=[]) ?_ hset h (fun hpp=> ?_)
      ·rw[hev];exact .inr ⟨rfl,none,0,rfl,aQF _,.inl rfl⟩
      ·simp only[sZ,hs,AN] at hpp;exact⟨by rw[hev];rfl,hpp⟩
    |_=>cases ps<;>simp [QL,sZ,zS] at h
  |_=>simp [zS] at h
section
variable {P:Program}{o:Oper}{a:Act}{g:Gh}{w:World}{H:r5}{T:rQ}(hT:vT P T) (hH:rK g w H)
include hT hH
theorem a7V {P:Program}(w:World): ∀(fs:List Field),(∀f∈fs,∃n,(P.info? f.type).map (·.size)=some n)->
  (fs.mapM (fun f=>do pure (f.offset,<-sizeOf f.type):Field->Sem (Nat×Nat))).run P w= .ok (fs.map fun f=>(f.offset,((P.info? f.type).map (·.size)).getD 0)) w
 |[],_=>rfl
 |f::fs,h=>by
  obtain⟨n,hn⟩:=h f (by simp);obtain⟨i,hi,hsz⟩:=aQz.1 hn;rw[List.mapM_cons];simp only[aQB,sizeOf,typeInfo,aRp,hi,aQu,aQN];have:=a7V w fs (fun f hf=>h f (by simp [hf]));simp only[sizeOf,typeInfo,aQB,aRp] at this;rw[this];simp [hi]
theorem aGR {P:Program}: ∀{ty:Ty}{off:Nat}{fs:List Field},KM P ty off fs->∀f∈fs,∃n,(P.info? f.type).map (·.size)=some n:=by
 intro ty
 induction ty with
 |pair a b _ ihb=>
  intro off fs h f hf;cases fs with
  |nil=>cases hf
  |cons fd fs=>
   obtain⟨_,h2,_,h4⟩:=h;rcases aQC.1 hf with rfl|hf
   ·exact⟨_,h2⟩
   ·exact ihb h4 f hf
 |unit=>intro off fs h f hf;cases fs with|nil=>cases hf|cons=>exact h.elim
 |_=>intro off fs h f hf;cases fs<;>exact h.elim
omit hT hH in
theorem S2 {t:Ty}{x:t.den}{cs:List Value}{ps:List (Nat×pA)}(h:AN ps=true->wB t (sL t)->wB t cs):match ((DV.val t x,WM t (AN ps)):pA) with
  |(_,none)=>True
  |(.val t x,some k)=>C8 g t x (.agg cs.toArray) (some k)
  |(_,some _)=>False:=by
 cases hp:AN ps with
 |false=>cases t<;>trivial
 |true=>
  cases t with
  |pair a b=>
   have:=h hp (S1 _);simpa[WM,C8,Value.cells] using this
  |_=>trivial
omit hT in
theorem qD.pureS {s:pA}{v:Value}(hr:(execOp a.eval o).run P w= .ok (.value v) w) (hs:qJ g w s v):qD P o a g w H ⟨[],s,[],[]⟩:=
 qD.value hr (.pure hH hs)
theorem aGS {t:TypeId}{ps:Array (Nat×Operand)}(ho:o.op= .build t ps) {ρ:Operand->pA}(hρ: ∀q∈ps.toList,qJ g w (ρ q.2) (a.eval q.2)) {e:pJ}(hr:WN (sZ ρ ps.toList) (qQ T t)=some e):qD P o a g w H e:=by
 generalize hs:qQ T t=ot at hr;cases ot with
 |none=>cases hr
 |some ti=>
  have hty:=s5 hT hs;simp only[WN] at hr;by_cases hrow:ti.ty.isRow=true
  case neg=>rw[aQl hrow] at hr;cases hr
  rw[aQj hrow] at hr;generalize hb:zS ti.ty (some ti.ty.zero) (sZ ρ ps.toList)=ox at hr;cases ox with
  |none=>cases hr
  |some x=>
   cases hr;obtain⟨i,hi,hsz,hz⟩:=F3 hty;have hzv:vS ti.ty= .agg (sL ti.ty).toArray:=by unfold vS;rw[aQj hrow]
   have hzr: ∀w,(zeroValue t).run P w= .ok (.agg (sL ti.ty).toArray) w:=by
    intro w;simp [zeroValue,typeInfo,hi,hz,hzv]
   have hmap:(ps.map fun(q:Nat×Operand)=>(q.1,a.eval q.2)).toList=ps.toList.map fun q=>(q.1,a.eval q.2):=by simp
   rcases XG hty hrow with⟨har,fs,hfs,hfe⟩ |⟨har,n,el,hu,hel,hsome⟩
   ·have hpl:=a7V (P:=P) hT hH w fs.toList (aGR hT hH hfe);obtain⟨cs',hf,hR,hN⟩:=XK (g:=g) (w:=w) (ev:=a.eval) (ρ:=ρ) (t:=ti.ty) (place:=fun j=>((fs.map fun f=>(f.offset,((P.info? f.type).map (·.size)).getD 0))[j]?)) (fun f oo u h1 h2=>by
     obtain⟨fd,k1,k2,k3,_⟩:=XE hfe h1 h2;have k1':fs[f]? =some fd:=by simpa using k1
     simp [k1',k2,k3]) ps.toList ti.ty.zero x (sL ti.ty) (CZ g w ti.ty) hρ hb
    refine qD.pureS hH (v:= .agg cs'.toArray) ?_ ⟨.inl ⟨hrow,cs',rfl,hR⟩,S2 hN⟩;have hmp:(fs.mapM (fun f=>do pure (f.offset,<-sizeOf f.type):Field->Sem (Nat×Nat))).run P w= .ok (fs.map fun f=>(f.offset,((P.info? f.type).map (·.size)).getD 0)) w:=by
     rw[Array.mapM_eq_mapM_toList,Sem.run_map,hpl];simp only[aQu];congr 1;apply aRv.1;simp
    simp only[execOp,ho,Instr.build,aQB,hzr,aQu,aQD hfs,hmp,Value.cells];rw[hmap,hf];rfl
   ·obtain⟨cs',hf,hR,hN⟩:=XK (g:=g) (w:=w) (ev:=a.eval) (ρ:=ρ) (t:=ti.ty) (place:=fun j=>some (j*((P.info? el).map (·.size)).getD 0,((P.info? el).map (·.size)).getD 0)) (fun f oo u h1 h2=>by
     obtain⟨k1,k2,k3,k4⟩:=XF hel h1 h2;simp [k2,k4]) ps.toList ti.ty.zero x (sL ti.ty) (CZ g w ti.ty) hρ hb
    refine qD.pureS hH (v:= .agg cs'.toArray) ?_ ⟨.inl ⟨hrow,cs',rfl,hR⟩,S2 hN⟩;obtain⟨ei,hei⟩:=aQn.1 hsome;simp only[hei,Option.map_some,aRQ] at hf;simp only[execOp,ho,Instr.build,aQB,hzr,aQu,aQD hu,sizeOf,typeInfo,aRp,hei,aQN,Value.cells];rw[hmap,hf];rfl
theorem XL {ρ:Operand->pA}{ev:Operand->Value}: ∀{xs:List Operand}{ss:List pA},(∀x∈xs,qJ g w (ρ x) (ev x))->tY ρ xs=ss->∃vs,xs.map ev=vs/\vs.length=ss.length/\∀(i:Nat) (s:pA) (v:Value),ss[i]? =some s->vs[i]? =some v->qJ g w s v
 |[],_,_,h=>⟨[],rfl,by rw[<-h];rfl,fun i s v _ hv=>by simp at hv⟩
 |x::xs,ss,hx,h=>by
  subst h;obtain⟨vs,h1,h2,h3⟩:=XL (fun y hy=>hx y (by simp [hy])) rfl (xs:=xs);refine⟨ev x::vs,by simp [h1],by simp [tY,h2],fun i s v hs hv=> ?_⟩;cases i with
  |zero=>
   simp only[tY,aQR,aQk] at hs hv;subst hs;subst hv;exact hx x (by simp)
  |succ i=>
   simp only[tY,aQ5] at hs hv;exact h3 i s v hs hv
theorem S3 {ρ:Operand->pA}{ev:Operand->Value}{args:Array Operand}{s:pA}(hρ: ∀x∈args.toList,qJ g w (ρ x) (ev x)) (h:tY ρ args.toList=[s]): ∃v,args.map ev= #[v]/\qJ g w s v:=by
 obtain⟨vs,h1,h2,h3⟩:=XL hT hH hρ h;obtain⟨v,rfl⟩:=aRG.1 h2;exact⟨v,by apply aRv.1;simpa using h1,h3 0 s v rfl rfl⟩
theorem S4 {ρ:Operand->pA}{ev:Operand->Value}{args:Array Operand}{s t:pA}(hρ: ∀x∈args.toList,qJ g w (ρ x) (ev x)) (h:tY ρ args.toList=[s,t]): ∃v u,args.map ev= #[v,u]/\qJ g w s v/\qJ g w t u:=by
 obtain⟨vs,h1,h2,h3⟩:=XL hT hH hρ h
 match vs,h2 with
 |[v,u],_=>exact⟨v,u,by apply aRv.1;simpa using h1,h3 0 s v rfl rfl,h3 1 t u rfl rfl⟩
theorem F4 {b:Builtin}{args:Array Operand}{tys:Array TypeId}(ho:o.op= .call ⟨.builtin b,args,tys⟩):
  ∃cs,execOp a.eval o=builtin b tys o.type cs (args.map a.eval):=by
 refine⟨args.map fun| .const _=>true|_=>false,?_⟩
 unfold execOp;rw[ho];rfl
theorem aGT (x y:Int):(if y<x then y else x)=min x y:=by rw[Int.min_def];split<;>split<;>omega
theorem aGU (x y:Int):(if y>x then y else x)=max x y:=by rw[Int.max_def];split<;>split<;>omega
theorem aGV {args:Array Operand}{tys:Array TypeId}(ho:o.op= .call ⟨.builtin .len,args,tys⟩) {ρ:Operand->pA}(hρ: ∀x∈args.toList,qJ g w (ρ x) (a.eval x)) {e:pJ}
  (hr:RG T H (tY ρ args.toList) tys.toList=some e):qD P o a g w H e:=by
 obtain⟨t0,tr,htl⟩: ∃t0 tr,tys.toList=t0::tr:=by cases h:tys.toList with|nil=>(rw[h] at hr;cases hr) |cons t r=>exact⟨t,r,rfl⟩
 have ht0:tys[0]? =some t0:=by rw[<-aRo,htl];rfl
 rw[htl] at hr;simp only[RG] at hr;generalize hst:qQ T t0=ot at hr;generalize hss:tY ρ args.toList=ss at hr;unfold WX at hr;split at hr
 ·rename_i el fl ar ls_ i k;generalize hb:pC H i=ob at hr;unfold RA at hr;split at hr
  ·rename_i kt vt l;cases hr;obtain⟨v,hv,hs⟩:=S3 hT hH hρ hss;have h2:=(s5 hT hst).2;simp only[xE] at h2;obtain⟨p,es,cl,hp,hp0,hh,hM,hS⟩:=hH.blk i _ hb;obtain⟨p',hp',hxv⟩: ∃p,g.J i=some p/\v= .map (some p.1):=by
    rcases hs.1 with⟨h1,_⟩ |⟨_,p,h3,h4⟩
    ·cases h1
    ·simp only[aRf,and_true] at h4;exact⟨p,h3,h4⟩
   rw[hp] at hp';obtain rfl:=aQo hp';have hlen: ∀{l:List (kt.den×vt.den)}{es:List MapEntry},CW g w kt vt l es->es.length=l.length:=by
    intro l
    induction l with
    |nil=>intro es h;rw[show es=[] from h];rfl
    |cons q l ih=>intro es h;obtain⟨e,es',rfl,_,_,h5⟩:=h;simp [ih h5]
   refine qD.pure hH (v:= .int .i64 (List.length l:Int)) ?_ (vB _ _ _ _);obtain⟨cs,hx⟩:=F4 (a:=a) hT hH ho;rw[hx,hv,hxv];have harg:(#[Value.map (some p.1)]:Array Value)[0]? =some (.map (some p.1)):=rfl;have hobj:(getObj p.1).run P w= .ok (.map es cl) w:=by simp [getObj,Sem.run,hh]
   simp only[builtin,Builtin.len_,ht0,harg,aQB,aQD h2,aQu,aQN,goInt,hobj];rw[<-hlen hM,aQT]
  ·cases hr
 ·rename_i el by' ar ls_ l k;cases hr;obtain⟨v,hv,hs⟩:=S3 hT hH hρ hss;have h2:=(s5 hT hst).2;simp only[xE] at h2;have hv':=xT hs.1;refine qD.pure hH (v:= .int .i64 (List.length l:Int)) ?_ (vB _ _ _ _);subst hv';obtain⟨cs,hx⟩:=F4 (a:=a) hT hH ho;rw[hx,hv];have harg:(#[Value.string ⟨List.toArray l⟩]:Array Value)[0]? =some (.string ⟨List.toArray l⟩):=rfl;simp only[builtin,Builtin.len_,ht0,harg,aQB,aQD h2,aQu,aQN,goInt];rfl
 ·rename_i u el by' ar ls_ t l k;cases hr;obtain⟨v,hv,hs⟩:=S3 hT hH hρ hss;have h2:=(s5 hT hst).2.1;obtain⟨ad,cap,rfl,_⟩:=D0 hs.1;refine qD.pure hH (v:= .int .i64 (List.length l:Int)) ?_ (vB _ _ _ _);obtain⟨cs,hx⟩:=F4 (a:=a) hT hH ho;rw[hx,hv];have harg:(#[Value.slice ad (List.length l) cap]:Array Value)[0]? =some (.slice ad (List.length l) cap):=rfl;simp only[builtin,Builtin.len_,ht0,harg,aQB,aQD h2,aQu,aQN,goInt]
 ·rename_i u el by' ar ls_ ko n k;cases hr;obtain⟨v,hv,hs⟩:=S3 hT hH hρ hss;have h2:=(s5 hT hst).2.1;obtain⟨ad,cap,rfl⟩: ∃ad cap,v= .slice ad n cap:=by
   rcases hs.1.2 with⟨h,rfl⟩ |⟨b,cap,h,_⟩
   ·exact⟨_,_,h⟩
   ·exact⟨_,_,h⟩
  refine qD.pure hH (v:= .int .i64 (n:Int)) ?_ (vB _ _ _ _);obtain⟨cs,hx⟩:=F4 (a:=a) hT hH ho;rw[hx,hv];have harg:(#[Value.slice ad n cap]:Array Value)[0]? =some (.slice ad n cap):=rfl;simp only[builtin,Builtin.len_,ht0,harg,aQB,aQD h2,aQu,aQN,goInt]
 ·cases hr
theorem a7W {args:Array Operand}{tys:Array TypeId}{mx:Bool}(ho:o.op= .call ⟨.builtin (if mx then .max else .min),args,tys⟩) {ρ:Operand->pA}(hρ: ∀x∈args.toList,qJ g w (ρ x) (a.eval x)) {e:pJ}
  (hr:AJ (RE mx (tY ρ args.toList))=some e):qD P o a g w H e:=by
 obtain⟨q,hq,rfl⟩:=II hr;generalize hss:tY ρ args.toList=ss at hq;unfold RE at hq;split at hq
 ·rename_i k x k1 k' y k2;split at hq
  ·rename_i hk;subst hk;cases hq;obtain⟨v,u,hv,hs1,hs2⟩:=S4 hT hH hρ hss;have e1:=uM hs1.1;have e2:=uM hs2.1;subst e1;subst e2;cases mx
   ·refine qD.pure hH (v:= .int k (min (x:Int) y)) ?_ (vB _ _ _ _);obtain⟨cs,hx⟩:=F4 (a:=a) hT hH ho;rw[hx,hv];have:=aGT hT hH x y;simp [builtin,Builtin.min_,Builtin.min2,this]
   ·refine qD.pure hH (v:= .int k (max (x:Int) y)) ?_ (vB _ _ _ _);obtain⟨cs,hx⟩:=F4 (a:=a) hT hH ho;rw[hx,hv];have:=aGU hT hH x y;simp [builtin,Builtin.max_,Builtin.max2,this]
  ·cases hq
 ·cases hq
theorem aGW {f:FuncId}{caps:Array Operand}(ho:o.op= .makeFunc (.func f) #[] caps) {ρ:Operand->pA}(hρ: ∀x∈caps.toList,qJ g w (ρ x) (a.eval x)) {e:pJ}
  (hr:a7s f (I1 (tY ρ caps.toList))=some e):qD P o a g w H e:=by
 generalize hc:I1 (tY ρ caps.toList)=oc at hr;cases oc with
 |none=>cases hr
 |some l=>
  cases hr;have key: ∀(xs:List Operand) (l:List (Nat×Nat)),(∀x∈xs,qJ g w (ρ x) (a.eval x))->I1 (tY ρ xs)=some l->wM g l (xs.map a.eval):=by
   intro xs
   induction xs with
   |nil=>intro l _ h;simp only[tY,I1,aQk] at h;subst h;rfl
   |cons x xs ih=>
    intro l hx h;have h0:=hx x (by simp);generalize hs:ρ x=s at h0;simp only[tY,hs] at h;obtain⟨d,k⟩:=s;unfold I1 at h;split at h
    ·cases ‹_=[]›
    ·rename_i p k r heq;simp only[aRf,aQQ] at heq;obtain⟨⟨rfl,rfl⟩,rfl⟩:=heq;obtain⟨l',hl',rfl⟩:=aQz.1 h;obtain⟨i,off⟩:=p;obtain⟨p,hp,hv⟩:=zV h0.1;exact⟨p,_,hp,by rw[aRt,hv],ih l' (fun y hy=>hx y (by simp [hy])) hl'⟩
    ·cases h
  refine qD.pure hH (v:= .func (.func f) #[] (caps.map a.eval)) ?_ (.inr ⟨rfl,caps.toList.map a.eval,key _ _ hρ hc,by congr 2;apply aRv.1;simp⟩);simp [execOp,ho,Instr.makeFunc]
end
theorem XM {α:Type}{l:List α}{m n:Int}(h0:0≤m) (h1:m≤n) (h2:n≤(l.length:Int)):(pH l m n).length=n.toNat-m.toNat:=by
  unfold pH;rw[aQM,aQw];omega
theorem a7X {α:Type}{R:α→List Value→Prop}{c:Nat}: ∀{l:List α}{cs:List Value}{i:Nat}{x:α},sC R c l cs→l[i]? =some x→∃c1 c2 c3,cs=c1++c2++c3∧c1.length=i*c∧c2.length=c∧R x c2
  | y::l,_,0,x,⟨c1,c2,e,h1,h2,h3⟩,h=>by
    simp only[aQR,aQk] at h;subst h;exact⟨[],c1,c2,by simpa using e,by simp,h1,h2⟩
  | y::l,_,i+1,x,⟨c1,c2,e,h1,h2,h3⟩,h=>by
    simp only[aQ5] at h;obtain⟨d1,d2,d3,e1,e2,e3,e4⟩:=a7X h3 h;exact⟨c1++d1,d2,d3,by rw[e,e1];simp,by rw[aQm,h1,e2,aRn];omega,e3,e4⟩
theorem aGX {t:Ty}{l:List t.den}{i:Int}(h0:0≤i) (h:i.toNat<l.length):l[i.toNat]? =some (pZ t l i):=by
  unfold pZ;rw[aQI,aQs h];rfl
section
variable {P:Program}{o:Oper}{a:Act}{g:Gh}{w:World}{H:r5}{T:rQ}(hT:vT P T) (hH:rK g w H)
include hT hH
theorem S5 {t:TypeId}{ti:TI}(hty:sB P t ti) {x:ti.ty.den}{b off:Nat}{cs:List Value}(hra:w.rangeAt b off cs) (hR:Rd g w ti.ty x cs):
    ∃v,(Instr.loadAt t (.pointer (some ⟨b,off,none⟩))).run P w= .ok v w∧s9 g w ti.ty x v∧v.cells.toList=cs:=by
  obtain⟨d,hd,hrow⟩:=RZ hty;obtain⟨i,hi,hsz,_⟩:=F3 hty;have hl:=rS hR;by_cases hr:ti.ty.isRow=true
  ·refine⟨.agg cs.toArray,run_loadAt_mid w b off t cs d hra hd (by rw[hrow,hr]) (by rw[hi,Option.map_some,hsz,hl]),.inl ⟨hr,cs,rfl,hR⟩,by simp [Value.cells]⟩
  · have hr':ti.ty.isRow=false:=by simpa using hr
    have h1:ti.ty.cells=1:=by
      obtain⟨ty,el,by',ar,ls⟩:=ti;cases ty<;>first|rfl|(simp [Ty.isRow] at hr')
    obtain⟨v,rfl⟩: ∃v,cs=[v]:=by rw[h1] at hl;exact aRG.1 hl
    have hv1:=AP hR v (by simp);refine⟨v,?_,.inr ⟨hr',hR⟩,by cases v<;>first|rfl|(simp [Value.oneCell'] at hv1)⟩
    have hc:w.cell? ⟨b,off,none⟩=some v:=by simpa using hra 0 v rfl
    have hagg:(isAgg t).run P w= .ok false w:=by
      unfold isAgg;rw[aQB,aQD hd w];rw[hr'] at hrow;cases d<;>simp_all [TypeDesc.isRow]
    simp [Instr.loadAt,Instr.sureAddr,loadVar,aQB,hagg,hc]
theorem NM {b off:Nat}{c1 c2 c3:List Value}(h:w.rangeAt b off (c1++c2++c3)):w.rangeAt b (off+c1.length) c2:=fun j v hj=>by
  have:=h (c1.length+j) v (by
    have hj':=(aQA.1 hj).1;rw[aQt,aQv (by omega),aQ4,aQE hj'];exact hj)
  rw[aQ1];exact this
theorem a7Y {k n c:Nat}{i:Int}{o':Nat}{v:Value}(hx:yZ g w (.elt k n c i o') v) {e:TypeId}{t:Ty}{l:List t.den}{m:Nat}(hk:pC H k=some (.row e t l m)) (hnm:n=m) (hc:c=t.cells):
    ∃ b cap xs c1 c2 c3,v= .pointer (some ⟨b,i.toNat*c+o',none⟩)∧g.cur k m=some (.slice (some ⟨b,0,none⟩) m cap)∧w.ownsRow 0 e t.cells (.slice (some ⟨b,0,none⟩) m cap) m xs∧sC (Rd g w t) t.cells l xs∧l.length=m∧i.toNat<l.length∧0≤i∧
      xs=c1++c2++c3∧c1.length=i.toNat*c∧c2.length=c∧Rd g w t (pZ t l i) c2:=by
  subst hnm;subst hc;obtain⟨b,cap,h1,h2,h3,hv⟩:=hx;obtain⟨hl,v0,xs,hv0,hown,hF,hnone,hseal⟩:=hH.blk k _ hk;rw[h1] at hv0;obtain rfl:=aQo hv0;have hi:i.toNat<l.length:=by rw[hl];omega
  obtain⟨c1,c2,c3,e1,e2,e3,e4⟩:=a7X hF (aGX h2 hi);exact⟨b,cap,xs,c1,c2,c3,hv,h1,hown,hF,hl,hi,h2,e1,e2,e3,e4⟩
theorem aGY {e:TypeId}{c n:Nat}{q cap:Nat}{xs:List Value}(h:w.ownsRow 0 e c (.slice (some ⟨q,0,none⟩) n cap) n xs):w.rangeAt q 0 xs:=fun j u hu=>by
  have:=h.cells (g:=q) rfl j u hu;rwa [aRz] at this
theorem aGZ {t:TypeId}{ti:TI}(hst:qQ T t=some ti) {k n c:Nat}{i:Int}{o':Nat}{vx:Value}(hx:yZ g w (.elt k n c i o') vx) {e:pJ}(hr:N2 ti.ty k n c i o' (pC H k)=some e) (hs: ∀p∈e.side,p):
    ∃v,(Instr.loadAt t vx).run P w= .ok v w∧qJ g w e.slot v∧e.upd=[]:=by
  generalize hk:pC H k=ob at hr;unfold N2 at hr;split at hr
  · rename_i e' t' l m
    split at hr
    · rename_i hc
      generalize hga:pX ti.ty t' (pZ t' l i) o'=oy at hr;cases oy with
      |none=>cases hr
      | some y=>
        cases hr;have hnm:=hs _ (aQx.2 rfl);obtain⟨b,cap,xs,c1,c2,c3,hv,hcur,hown,hF,hl,hi,h0,e1,e2,e3,e4⟩:=a7Y hT hH hx hk hnm hc;obtain⟨d1,d2,d3,f1,f2,f3⟩:=DX e4 hga;have hra:=aGY hT hH hown;rw[e1] at hra;have hra2:=NM hT hH hra;rw[f1] at hra2;have hra3:=NM hT hH hra2;rw[aQV,e2,f2] at hra3;obtain⟨v,h1,h2,_⟩:=S5 hT hH (s5 hT hst) hra3 f3;exact⟨v,by rw[hv];exact h1,⟨h2,trivial⟩,rfl⟩
    ·cases hr
  ·cases hr
theorem XN: ∀{toks:List (Nat×Nat)}{q k:Nat},vR toks q=some k→(q,k)∈toks
  |[],_,_,h=>by simp [vR] at h
  | (q',k')::r,q,k,h=>by
    simp only[vR] at h;split at h
    · rename_i e
      subst e;simp only[aQk] at h;subst h;simp
    ·exact aQy _ (XN h)
theorem a7Z {u v:Ty}: ∀{t:Ty}{x:t.den}{q:Nat}{l:List u.den}{y:v.den},pX (.list u) t x q=some l→pX v t x q=some y→v.isRow=false→∃h:v= .list u,sU h y=l:=by
  intro t
  induction t with
  | pair s t ihs iht=>
    intro x q l y h1 h2 hv
    have key: ∀q,(if q<s.cells then pX (.list u) s x.1 q else pX (.list u) t x.2 (q-s.cells))=some l→(if q<s.cells then pX v s x.1 q else pX v t x.2 (q-s.cells))=some y→∃h:v= .list u,sU h y=l:=by
      intro q h1 h2;by_cases hq:q<s.cells
      ·rw[aQj hq] at h1 h2;exact ihs h1 h2 hv
      ·rw[aQl hq] at h1 h2;exact iht h1 h2 hv
    cases q with
    | zero=>
      have e1:Ty.pair s t≠.list u:=by intro h;cases h
      have e2:Ty.pair s t≠v:=by intro h;subst h;simp [Ty.isRow] at hv
      unfold pX at h1 h2;rw[aR6 e1] at h1;rw[aR6 e2] at h2;exact key 0 (by simpa using h1) (by simpa using h2)
    |succ q=>exact key (q+1) (by simpa[pX] using h1) (by simpa[pX] using h2)
  | _=>
    intro x q l y h1 h2 hv;cases q with
    | zero=>
      unfold pX at h1 h2;split at h1
      · rename_i e1
        split at h2
        · rename_i e2
          first
          |(cases e1;done)
          | (subst e2
             injection e1 with e1'
             subst e1';simp only[sU,aQk] at h1 h2;subst h1;subst h2;exact⟨rfl,rfl⟩)
        ·simp at h2
      ·simp at h1
    |succ q=>simp [pX] at h1
theorem aG0 {t:TypeId}{ti:TI}(hty:sB P t ti) (hr:ti.ty.isRow=false) {b off:Nat}{v:Value}(hc:w.cell? ⟨b,off,none⟩=some v):
    (Instr.loadAt t (.pointer (some ⟨b,off,none⟩))).run P w= .ok v w:=by
  obtain⟨d,hd,hrow⟩:=RZ hty
  have hagg:(isAgg t).run P w= .ok false w:=by
    unfold isAgg;rw[aQB,aQD hd w];rw[hr] at hrow;cases d<;>simp_all [TypeDesc.isRow]
  simp [Instr.loadAt,Instr.sureAddr,loadVar,aQB,hagg,hc]
omit hT hH in
theorem a71 {a b:Option pJ}{e:pJ}(h:orE a b=some e):a=some e∨b=some e:=by
  cases a with
  |some r=>exact .inl h
  |none=>exact .inr h
theorem aG1 {t:TypeId}{ti:TI}{x:Operand}(ho:o.op= .load t x) (hs:qQ T t=some ti) {i off:Nat}(hx:s9 g w .ref (some (i,off)) (a.eval x)) {e:pJ}(hr:QY i off ti (pC H i)=some e):qD P o a g w H e:=by
  have hty:=s5 hT hs;generalize hb:pC H i=ob at hr;unfold QY at hr;split at hr
  · rename_i u el _ _ _ v x' toks
    generalize hga:pX (.rl el u) v x' off=oy at hr;unfold WP at hr;split at hr
    · rename_i k n
      cases hr;obtain⟨p,hp,hv⟩:=zV hx;obtain⟨p',cs,hp',hR,hra,_⟩:=hH.blk i _ hb;rw[hp] at hp';obtain rfl:=aQo hp';obtain⟨c1,c2,c3,rfl,rfl,hR2⟩:=DX hR hga;obtain⟨v0,hcur,rfl,hsh⟩:=hR2;have hc:w.cell? ⟨p.1,p.2+c1.length,none⟩=some v0:=by simpa using NM hT hH hra 0 _ rfl
      have h1:=aG0 (P:=P) hT hH hty rfl hc;exact qD.value (v:=v0) (g':=g) (w':=w) (by simp only[execOp,ho,hv,aQB,h1,aQu,aQN]) (.pure hH ⟨⟨hcur,hsh⟩,trivial⟩)
    ·cases hr
  ·cases hr
theorem aG2 {t:TypeId}{x:Operand}(ho:o.op= .load t x) {sx:pA}(hx:qJ g w sx (a.eval x)) {e:pJ}(hr:QZ H (qQ T t) sx=some e) (hside: ∀p∈e.side,p):qD P o a g w H e:=by
  generalize hs:qQ T t=ot at hr;replace hx:=hx.1;unfold QZ at hr;split at hr
  · rename_i ti k n c i o' _
    obtain⟨v,h1,h2,h3⟩:=aGZ hT hH hs hx hr hside;obtain⟨side,slot,upd,rds⟩:=e;simp only at h2 h3;subst h3;exact qD.value (v:=v) (g':=g) (w':=w) (by simp only[execOp,ho,aQB,h1,aQu,aQN]) (.pure hH h2)
  · rename_i ti u y k
    split at hr
    · rename_i hu
      subst hu;cases hr;have hty:=s5 hT hs;obtain⟨b,off,cs,hv,hra,hS,hR⟩:=hx;obtain⟨v,h1,h2,_⟩:=S5 hT hH hty hra hR;exact qD.pure hH (v:=v) (by simp only[execOp,ho,hv,aQB,h1,aQu,aQN]) h2
    ·cases hr
  · rename_i ti i off k
    rcases a71 hr with hr|hr
    case inr=>exact aG1 hT hH ho hs hx hr
    have hty:=s5 hT hs;generalize hb:pC H i=ob at hr;unfold N1 at hr;split at hr
    · rename_i u z toks
      generalize hga:pX ti.ty u z off=oy at hr;cases oy with
      |none=>cases hr
      | some y=>
        cases hr;obtain⟨p,hp,hv⟩:=zV hx;obtain⟨p',cs,hp',hR,hra,_,_,htk⟩:=hH.blk i _ hb;rw[hp] at hp';obtain rfl:=aQo hp';obtain⟨c1,c2,c3,rfl,rfl,hR2⟩:=DX hR hga;obtain⟨v,h1,h2,h3⟩:=S5 hT hH hty (NM hT hH hra) hR2;refine qD.value (v:=v) (g':=g) (w':=w) (by simp only[execOp,ho,hv,aQB,h1,aQu,aQN]) (.pure hH ⟨h2,?_⟩);obtain⟨ty,el,by',ar,ls⟩:=ti;cases ty with
        | list u'=>
          simp only[ES];generalize htt:vR toks c1.length=ok;cases ok with
          |none=>trivial
          | some k=>
            obtain⟨u2,l,v',g1,g2,g3⟩:=htk _ _ (XN hT hH htt);obtain⟨heq,hl⟩:=a7Z hT hH g1 hga rfl;injection heq with heq'
            subst heq';have hlen:=rS hR2;obtain⟨v2,rfl⟩:=aRG.1 hlen
            have e2:v'=v2:=by
              have e:(c1++[v2]++c3)[c1.length]? =some v2:=by simp
              rw[e] at g2;exact(aQo g2).symm
            have e3:v=v2:=by
              have h4:=BO rfl h2;have hone:=AP h4 v (by simp);have:v.cells= #[v]:=by cases v<;>first|rfl|(simp [Value.oneCell'] at hone)
              rw[this] at h3;simpa using h3
            subst e2;subst e3;have e4:(y:List u'.den)=l:=hl;subst e4;exact g3
        |_=>trivial
    ·cases hr
  ·cases hr
theorem S6 {ρ:Operand→pA}{x:Option Operand}{n m:Int}(hρ: ∀y∈x.toList,qJ g w (ρ y) (a.eval y)) (h:CQ (yB ρ x) n=some m):(x=none∧m=n)∨∃y k,x=some y∧a.eval y= .int k m:=by
  cases x with
  |none=>simp only[yB,CQ,aQk] at h;exact .inl ⟨rfl,h.symm⟩
  | some y=>
    have h0:=hρ y (by simp);simp only[yB] at h;unfold CQ at h;split at h
    ·cases ‹some _=none›
    · rename_i k q kk heq
      simp only[aQk] at heq h;rw[heq] at h0;subst h;exact .inr ⟨y,k,rfl,uM h0.1⟩
    ·cases h
theorem a73 {isSlice:Bool}{len cap:Nat}{lo hi:Option Operand}{m n:Int}(hlo:(lo=none∧m=0)∨∃y k,lo=some y∧a.eval y= .int k m) (hhi:(hi=none∧n=(len:Int))∨∃y k,hi=some y∧a.eval y= .int k n)
    (h0:0≤m) (h1:m≤n) (h2:n≤(len:Int)) (h3:len≤cap):(Instr.sliceBounds isSlice len cap (lo.map a.eval) (hi.map a.eval) none).run P w= .ok (m.toNat,n.toNat,cap) w:=by
  have e1:(n.toNat:Int)=n:=Int.toNat_of_nonneg (by omega);rcases hlo with⟨rfl,rfl⟩ |⟨y,k,rfl,hy⟩<;>rcases hhi with⟨rfl,rfl⟩ |⟨z,k',rfl,hz⟩
  ·simp [Instr.sliceBounds]
  ·simp [Instr.sliceBounds,hz,run_sliceBound,(by omega:0≤n),(by omega:n≤(cap:Int))]
  ·simp [Instr.sliceBounds,hy,run_sliceBound,h0,h1]
  ·simp [Instr.sliceBounds,hy,hz,run_sliceBound,(by omega:0≤n),(by omega:n≤(cap:Int)),e1,h0,h1]
theorem aG3 {t:TypeId}{x:Operand}{lo hi:Option Operand}(ho:o.op= .slice t x lo hi none) {ρ:Operand→pA}(hx:qJ g w (ρ x) (a.eval x)) (hlo: ∀y∈lo.toList,qJ g w (ρ y) (a.eval y)) (hhi: ∀y∈hi.toList,qJ g w (ρ y) (a.eval y)) {e:pJ}
    (hr:AJ (WA (qQ T t) (ρ x) (yB ρ lo) (yB ρ hi))=some e) (hs: ∀p∈e.side,p):qD P o a g w H e:=by
  obtain⟨q,hq,rfl⟩:=II hr;replace hx:=hx.1;generalize hst:qQ T t=ot at hq;generalize hsx:ρ x=sx at hq hx;unfold WA at hq;split at hq
  · rename_i el by' ar ls_ l k
    generalize hb1:CQ (yB ρ lo) 0=o1 at hq;generalize hb2:CQ (yB ρ hi) (List.length l)=o2 at hq;unfold QK at hq;split at hq
    · rename_i m n
      cases hq;obtain⟨k1,k2,k3⟩:=hs _ (aQx.2 rfl);have h2:=(s5 hT hst).2;simp only[xE] at h2;have hv:=xT hx;have hbd:=a73 (P:=P) (isSlice:=false) (cap:=List.length l) hT hH (S6 hT hH hlo hb1) (S6 hT hH hhi hb2) k1 k2 k3 (aQF _);refine qD.pure hH (v:= .string ⟨(pH l m n).toArray⟩) ?_ (F2 _ _ _);have hsz:(⟨List.toArray l⟩:ByteArray).size=List.length l:=by simp [ByteArray.size]
      have hext:(⟨List.toArray l⟩:ByteArray).extract m.toNat n.toNat=⟨(pH l m n).toArray⟩:=by
        apply ByteArray.ext;apply aRv.1;simp [pH]
      simp only[execOp,ho,hv,Option.map_none,Instr.sliceAt,Instr.slice,aQB,aQD h2,aQu,Option.isSome_none,aRC,aSx,hsz,hbd,hext,aQN]
    ·cases hq
  · rename_i u el by' ar ls_ t1 l k
    split at hq
    · rename_i htu
      subst htu;generalize hb1:CQ (yB ρ lo) 0=o1 at hq;generalize hb2:CQ (yB ρ hi) (List.length l)=o2 at hq;unfold QK at hq;split at hq
      · rename_i m n
        cases hq;obtain⟨k1,k2,k3⟩:=hs _ (aQx.2 rfl);obtain⟨h2,h3,_⟩:=(s5 hT hst).2;obtain⟨ei,hei,hz⟩:=aQz.1 h3;simp only[aQQ] at hz;obtain⟨ad,cap,hv,hle,hl⟩:=D0 hx;have hbd:=a73 (P:=P) (isSlice:=true) (cap:=cap) hT hH (S6 hT hH hlo hb1) (S6 hT hH hhi hb2) k1 k2 k3 hle;refine qD.pure hH (v:= .slice (if cap=m.toNat then ad else ad.map (·.add (m.toNat*t1.cells))) (n.toNat-m.toNat) (cap-m.toNat)) ?_ (.inr ⟨rfl,(if cap=m.toNat then ad else ad.map (·.add (m.toNat*t1.cells))),cap-m.toNat,?_,?_,?_⟩)
        ·simp only[execOp,ho,hv,Option.map_none,Instr.sliceAt,Instr.slice,aQB,aQD h2,aQu,hbd,sizeOf,typeInfo,aRp,hei,hz.1,aQN]
        ·rw[XM k1 k2 k3]
        ·rw[XM k1 k2 k3];omega
        · rcases hl with rfl|⟨b,off,rfl,hL⟩
          ·exact .inl (by simp [pH])
          · by_cases hc:cap=m.toNat
            · left
              apply aQS;rw[XM k1 k2 k3];omega
            · right
              rw[aQl hc];refine⟨b,off+m.toNat*t1.cells,by simp [aRz],?_⟩;exact a7O _ (a7N _ hL (by omega))
      ·cases hq
    ·cases hq
  ·cases hq
end
theorem NN {α:Type}{R:α->List Value->Prop}{c:Nat}(hR: ∀x cs,R x cs->∀v∈cs,v.oneCell'=true): ∀{l:List α}{cs:List Value},sC R c l cs->∀v∈cs,v.oneCell'=true
 |[],_,h=>by rw[h];simp
 |_::_,_,⟨c1,c2,e,_,h2,h3⟩=>by
  subst e;intro v hv;rcases aRe.1 hv with h|h
  ·exact hR _ _ h2 v h
  ·exact NN hR h3 v h
theorem XO {α:Type}{R:α->List Value->Prop}{c:Nat}: ∀{l:List α}{cs cy:List Value}{i:Nat}{y:α},sC R c l cs->R y cy->cy.length=c->i<l.length->
  ∃c1 c2 c3,cs=c1++c2++c3/\c1.length=i*c/\c2.length=c/\sC R c (l.set i y) (c1++cy++c3)
 |[],_,_,_,_,_,_,_,h=>by simp at h
 |_::l,_,cy,0,y,⟨c1,c2,e,h1,_,h3⟩,hy,hc,_=>⟨[],c1,c2,by simpa using e,by simp,h1,⟨cy,c2,by simp,hc,hy,h3⟩⟩
 |x::l,_,cy,i+1,y,⟨c1,c2,e,h1,h2,h3⟩,hy,hc,hi=>by
  obtain⟨d1,d2,d3,e1,e2,e3,e4⟩:=XO h3 hy hc (by simpa using hi);refine⟨c1++d1,d2,d3,by rw[e,e1];simp,by rw[aQm,h1,e2,aRn];omega,e3,⟨c1,d1++cy++d3,by simp,h1,h2,e4⟩⟩
theorem KN {α:Type}{R:α->List Value->Prop}{w:World}{S:Nat->Nat->Prop}{c b:Nat}: ∀{l:List α}{o:Nat},xC R w S c b o l->∃cs,sC R c l cs/\w.rangeAt b o cs/\∀j,j<l.length*c->S b (o+j)
 |[],o,_=>⟨[],rfl,fun j v h=>by simp at h,fun j h=>by simp at h⟩
 |x::l,o,⟨⟨c1,h1,h2,h3,h4⟩,h5⟩=>by
  obtain⟨c2,k1,k2,k3⟩:=KN h5;refine⟨c1++c2,⟨c1,c2,rfl,h1,h4,k1⟩,fun j v hv=> ?_,fun j hj=> ?_⟩
  ·by_cases hj:j<c
   ·exact h2 j v (by rwa [aQE (by omega)] at hv)
   ·have:=k2 (j-c) v (by rw[aQv (by omega),h1] at hv;exact hv);rwa [show o+c+(j-c)=o+j from by omega] at this
  ·by_cases hj':j<c
   ·exact h3 j hj'
   ·have:=k3 (j-c) (by rw[aQp,aRn] at hj;omega);rwa [show o+c+(j-c)=o+j from by omega] at this
theorem KO {α:Type}{R:α->List Value->Prop}{w:World}{S:Nat->Nat->Prop}{c b:Nat}: ∀{l:List α}{o:Nat}{cs:List Value},sC R c l cs->w.rangeAt b o cs->(∀j,j<l.length*c->S b (o+j))->xC R w S c b o l
 |[],_,_,_,_,_=>trivial
 |x::l,o,cs,⟨c1,c2,e,h1,h2,h3⟩,hr,hS=>by
  subst e;refine⟨⟨c1,h1,fun j v hv=>hr j v (by rw[aQE (aQA.1 hv).1];exact hv),fun j hj=>hS j (by rw[aQp,aRn];omega),h2⟩,KO h3 (fun j v hv=> ?_) (fun j hj=> ?_)⟩
  ·have:=hr (c+j) v (by rw[aQv (by omega),h1,aQ4];exact hv);rwa [<-aQ1] at this
  ·have:=hS (c+j) (by rw[aQp,aRn];omega);rwa [<-aQ1] at this
theorem a74 {g:Gh}{w:World}{t:Ty}: ∀n,sC (Rd g w t) t.cells (C2 t n) (List.flatten (List.replicate n (sL t)))
 |0=>rfl
 |n+1=>⟨sL t,_,rfl,rS (CZ g w t),CZ g w t,a74 n⟩
theorem a77 (t:Ty): ∀n,(C2 t n).length=n
 |0=>rfl
 |n+1=>by simp [C2,a77 t n]
def Gh.tok (g:Gh) (k n:Nat) (v:Value):Gh:={g with cur:=fun k' n'=>if k'=k/\n'=n then some v else g.cur k' n'}
def Gh.var (g:Gh) (i b:Nat) (k:Option (TypeId×Nat)):Gh:={g with J:=fun i'=>if i'=i then some ⟨b,0,k⟩ else g.J i'}
def Gh.shut (g:Gh) (b m:Nat):Gh:={g with S:=fun b' o=>g.S b' o\/(b'=b/\o<m)}
section
variable {g:Gh}{w:World}{H:r5}(hH:rK g w H)
include hH
theorem qW.nilTok {side:List Prop}{d:DV}{rds:List Nat}{base e c:Nat}{u:Ty}(hd:d= .val (.list u) []) (hf: ∀n,g.cur base n=none):
  qW g w H ⟨side,(d,some base),[(base,.grow e c 0)],rds⟩ (g.tok base 0 (.slice none 0 0)) w (.slice none 0 0):=by
 have le:Le g w (g.tok base 0 (.slice none 0 0)) w:=⟨fun _ _ h=>h,fun _ _ _=>rfl,fun _ _ h=>h,fun k n v h=>by
  show (if k=base/\n=0 then _ else _)=_;rw[aQl (fun⟨e1,_⟩=>by rw[e1,hf] at h;cases h)];exact h⟩
 have fr:Fr (rY g H (pE [(base,p9.grow e c 0)])) w w g.S (g.tok base 0 (.slice none 0 0)).S:= .refl _ _ _;have gho: ∀i,i∉pE [(base,p9.grow e c 0)]->(g.tok base 0 (.slice none 0 0)).J i=g.J i/\(g.tok base 0 (.slice none 0 0)).cur i=g.cur i:=fun i hi=>⟨rfl,by
  funext n;show (if i=base/\n=0 then _ else _)=_;rw[aQl (fun⟨e1,_⟩=>hi (by simp [pE,e1]))]⟩
 have cur0:(g.tok base 0 (.slice none 0 0)).cur base 0=some (.slice none 0 0):=by simp [Gh.tok]
 have own: ∀i blk b o,i∈pE [(base,p9.grow e c 0)]->pC (pO [(base,p9.grow e c 0)] H) i=some blk->¬r7 (g.tok base 0 (.slice none 0 0)) i blk b o:=by
  intro i blk b o hi hg ho;simp only[pE,aQx] at hi;subst hi;simp only[pO,pC,aRZ,aQk] at hg;subst hg;obtain⟨v,hv,hb⟩:=ho;rw[cur0] at hv;obtain rfl:=aQo hv;cases hb
 subst hd;refine⟨le,⟨.inr ⟨rfl,none,0,rfl,aQF _,.inl rfl⟩,cur0⟩,hH.upd le fr (fun i blk b o h1 h2 h3=>absurd h3 (own i blk b o h1 h2)) gho (fun i blk hi hg=> ?_) (fun i j bi bj b o hi hj hij hgi hgj hoi hoj=>own i bi b o hi hgi hoi) hH.sl,fr,fun i blk b o h1 h2 h3=>absurd h3 (own i blk b o h1 h2),gho,fun i u' y us h=>by
  simp only[pO,pC] at h;split at h
  ·cases h
  ·exact .inl ⟨y,us,h⟩⟩
 simp only[pE,aQx] at hi;subst hi;simp only[pO,pC,aRZ,aQk] at hg;subst hg;refine⟨.slice none 0 0,[],cur0,World.ownsRow_nil w 0 e c,fun m hm=> ?_,fun b hb=>by cases hb⟩;show (if i=i/\m=0 then _ else _)=_;rw[aQl (by omega)];exact hf m
theorem qW.row {side:List Prop}{rds:List Nat}{s:pA}{val:Value}{k:Nat}{e:TypeId}{t:Ty}{l:List t.den}{n:Nat}{v:Value}{xs:List Value}{w':World}
  (hl:l.length=n) (hown:w'.ownsRow 0 e t.cells v n xs) (hF:sC (Rd g w t) t.cells l xs) (hnone: ∀m,n<m->g.cur k m=none) (hcur: ∀u,g.cur k n=some u->u=v)
  (hg:w.grownBy w' (v.ownBlock)\/∃q,w.grownBy w' q/\∀b,q=some b->∀o,rY g H [k] b o)
  (hcell: ∀b o,g.S b o->w'.cell? ⟨b,o,none⟩=w.cell? ⟨b,o,none⟩)
  (hseal: ∀b,v.ownBlock=some b->∀o,¬g.S b o)
  (hperm: ∀b,v.ownBlock=some b->w.heap.size<=b\/∀o,rY g H [k] b o)
  (hslot:qJ (g.tok k n v) w' s val):qW g w H ⟨side,s,[(k,.row e t l n)],rds⟩ (g.tok k n v) w' val:=by
 have le:Le g w (g.tok k n v) w':=⟨fun _ _ h=>h,fun b o h=>hcell b o h,fun _ _ h=>h,fun k' n' v' h=>by
  show (if k'=k/\n'=n then _ else _)=_;by_cases hk:k'=k/\n'=n
  ·obtain⟨rfl,rfl⟩:=hk;rw[aQj ⟨rfl,rfl⟩,hcur _ h]
  ·rw[aQl hk];exact h⟩
 have cur1:(g.tok k n v).cur k n=some v:=by simp [Gh.tok]
 have hblk: ∀b,b<w.heap.size->(∀o,¬rY g H (pE [(k,p9.row e t l n)]) b o)->w'.heap[b]? =w.heap[b]? :=by
  intro b hb hno;rcases hg with hg|⟨q,hg,hq⟩
  ·refine hg.block b hb (fun e1=> ?_);rcases hperm b e1.symm with h|h
   ·omega
   ·exact hno 0 (h 0)
  ·exact hg.block b hb (fun e1=>hno 0 (hq b e1.symm 0))
 have hgo:w'.os=w.os/\w'.tape=w.tape/\w'.output=w.output/\w.heap.size<=w'.heap.size:=by
  rcases hg with hg|⟨q,hg,_⟩
  ·exact⟨hg.os,hg.tape,hg.output,hg.size⟩
  ·exact⟨hg.os,hg.tape,hg.output,hg.size⟩
 have hall: ∀b o,rY g H (pE [(k,p9.row e t l n)]) b o->True:=fun _ _ _=>trivial;have hcell2: ∀b o,b<w.heap.size->¬rY g H (pE [(k,p9.row e t l n)]) b o->(w'.cell? ⟨b,o,none⟩=w.cell? ⟨b,o,none⟩/\w'.frozen? ⟨b,o,none⟩=w.frozen? ⟨b,o,none⟩):=by
  intro b o hb hno;have:w'.heap[b]? =w.heap[b]? :=by
   rcases hg with hg|⟨q,hg,hq⟩
   ·refine hg.block b hb (fun e1=> ?_);rcases hperm b e1.symm with h|h
    ·omega
    ·exact hno (h o)
   ·exact hg.block b hb (fun e1=>hno (hq b e1.symm o))
  exact⟨aQK (a:=⟨b,o,none⟩) this,aRi (a:=⟨b,o,none⟩) this⟩
 have hshape: ∀b s,w.shape? b=some s->w'.shape? b=some s\/∀o,rY g H (pE [(k,p9.row e t l n)]) b o:=by
  intro b s hs;rcases hg with hg|⟨q,hg,hq⟩
  ·by_cases e1:v.ownBlock=some b
   ·rcases hperm b e1 with h|h
    ·have:=CX hs;omega
    ·exact .inr h
   ·exact .inl ((CY (hg.block b (CX hs) (fun h=>e1 h.symm))).trans hs)
  ·by_cases e1:q=some b
   ·exact .inr (hq b e1)
   ·exact .inl ((CY (hg.block b (CX hs) (fun h=>e1 h.symm))).trans hs)
 have fr:Fr (rY g H (pE [(k,p9.row e t l n)])) w w' g.S (g.tok k n v).S:=⟨hgo.1,hgo.2.1,hgo.2.2.1,hgo.2.2.2,hblk,hcell2,fun b o h=> .inl h,hshape⟩;have gho: ∀i,i∉pE [(k,p9.row e t l n)]->(g.tok k n v).J i=g.J i/\(g.tok k n v).cur i=g.cur i:=fun i hi=>⟨rfl,by
  funext n';show (if i=k/\n'=n then _ else _)=_;rw[aQl (fun⟨e1,_⟩=>hi (by simp [pE,e1]))]⟩
 have get: ∀i blk,i∈pE [(k,p9.row e t l n)]->pC (pO [(k,p9.row e t l n)] H) i=some blk->i=k/\blk= .row e t l n:=by
  intro i blk hi hg;simp only[pE,aQx] at hi;subst hi;simp only[pO,pC,aRZ,aQk] at hg;exact⟨rfl,hg.symm⟩
 have perm: ∀i blk b o,i∈pE [(k,p9.row e t l n)]->pC (pO [(k,p9.row e t l n)] H) i=some blk->r7 (g.tok k n v) i blk b o->w.heap.size<=b\/rY g H (pE [(k,p9.row e t l n)]) b o:=by
  intro i blk b o hi hgt ho;obtain⟨rfl,rfl⟩:=get i blk hi hgt;obtain⟨v',hv',hb⟩:=ho;rw[cur1] at hv';obtain rfl:=aQo hv';exact(hperm b hb).imp id (fun h=>h o)
 refine⟨le,hslot,hH.upd le fr perm gho (fun i blk hi hgt=> ?_) (fun i j bi bj b o hi hj hij hgi hgj _ _=>hij ((get i bi hi hgi).1.trans (get j bj hj hgj).1.symm)) (fun b o h=>aQZ (hH.sl b o h) hgo.2.2.2),fr,perm,gho,fun i u' y us h=>by
  simp only[pO,pC] at h;split at h
  ·cases h
  ·exact .inl ⟨y,us,h⟩⟩
 obtain⟨rfl,rfl⟩:=get i blk hi hgt;refine⟨hl,v,xs,cur1,hown,C9 (fun _ _ h=>wC le h) hF,fun m hm=> ?_,hseal⟩;show (if i=i/\m=n then _ else _)=_;rw[aQl (by omega)];exact hnone m hm
theorem qW.newVarJ {side:List Prop}{rds:List Nat}{base:Nat}{t:Ty}{x:t.den}{toks:List (Nat×Nat)}{cs:List Value}{e:TypeId}(hR:Rd (g.var base w.heap.size (some (e,cs.length))) w t x cs) (htk:F1 g t x cs toks) (hf:g.J base=none) (hc:g.cur base=fun _=>none):
  qW g w H ⟨side,(.val .ref (some (base,0)),none),[(base,.cells t x toks)],rds⟩ (g.var base w.heap.size (some (e,cs.length))) (w.alloc (.cells cs.toArray e)) (.pointer (some ⟨w.heap.size,0,none⟩)):=by
 have hJ:(g.var base w.heap.size (some (e,cs.length))).J base=some ⟨w.heap.size,0,some (e,cs.length)⟩:=by simp [Gh.var]
 have le:Le g w (g.var base w.heap.size (some (e,cs.length))) (w.alloc (.cells cs.toArray e)):=⟨fun _ _ h=>h,fun b o h=>aQK (a:=⟨b,o,none⟩) (aQP _ _ _ (hH.sl b o h)),fun i p h=>by
  show (if i=base then _ else _)=_;rw[aQl (fun e1=>by rw[e1,hf] at h;cases h)];exact h,fun _ _ _ h=>h⟩
 have le2:Le (g.var base w.heap.size (some (e,cs.length))) w (g.var base w.heap.size (some (e,cs.length))) (w.alloc (.cells cs.toArray e)):=⟨fun _ _ h=>h,fun b o h=>aQK (a:=⟨b,o,none⟩) (aQP _ _ _ (hH.sl b o h)),fun _ _ h=>h,fun _ _ _ h=>h⟩;have fr:Fr (rY g H (pE [(base,p9.cells t x toks)])) w (w.alloc (.cells cs.toArray e)) g.S (g.var base w.heap.size (some (e,cs.length))).S:=
  ⟨rfl,rfl,rfl,by simp,fun b hb _=>aQP _ _ _ hb,fun b o hb _=>⟨aQK (a:=⟨b,o,none⟩) (aQP _ _ _ hb),aRi (a:=⟨b,o,none⟩) (aQP _ _ _ hb)⟩,fun b o h=> .inl h,fun b s h=> .inl ((CY (aQP _ _ _ (CX h))).trans h)⟩
 have gho: ∀i,i∉pE [(base,p9.cells t x toks)]->(g.var base w.heap.size (some (e,cs.length))).J i=g.J i/\(g.var base w.heap.size (some (e,cs.length))).cur i=g.cur i:=fun i hi=>⟨by
  show (if i=base then _ else _)=_;rw[aQl (fun e1=>hi (by simp [pE,e1]))],rfl⟩
 have get: ∀i blk,i∈pE [(base,p9.cells t x toks)]->pC (pO [(base,p9.cells t x toks)] H) i=some blk->i=base/\blk= .cells t x toks:=by
  intro i blk hi hg;simp only[pE,aQx] at hi;subst hi;simp only[pO,pC,aRZ,aQk] at hg;exact⟨rfl,hg.symm⟩
 have perm: ∀i blk b o,i∈pE [(base,p9.cells t x toks)]->pC (pO [(base,p9.cells t x toks)] H) i=some blk->r7 (g.var base w.heap.size (some (e,cs.length))) i blk b o->w.heap.size<=b\/rY g H (pE [(base,p9.cells t x toks)]) b o:=by
  intro i blk b o hi hg ho;obtain⟨rfl,rfl⟩:=get i blk hi hg;obtain⟨p,hp,h1,_⟩:=ho;rw[hJ] at hp;obtain rfl:=aQo hp;exact .inl (aR0 h1.symm)
 have hl:=rS hR;refine⟨le,⟨.inr ⟨rfl,_,hJ,rfl⟩,trivial⟩,hH.upd le fr perm gho (fun i blk hi hg=> ?_) (fun i j bi bj b o hi hj hij hgi hgj _ _=>hij ((get i bi hi hgi).1.trans (get j bj hj hgj).1.symm)) (fun b o h=>aQZ (hH.sl b o h) (by simp)),fr,perm,gho,fun i u' y us h=>by
  simp only[pO,pC] at h;split at h
  ·rename_i e1;subst e1;exact .inr ⟨hf,fun n=>by rw[hc]⟩
  ·exact .inl ⟨y,us,h⟩⟩
 obtain⟨rfl,rfl⟩:=get i blk hi hg;refine⟨_,cs,hJ,wC le2 hR,fun j v hv=> ?_,⟨fun j hj=> ?_,fun _ s hs=> ?_⟩,fun j _ hs=>aSp _ (hH.sl _ _ hs),a7M le.cur htk⟩
 ·simp only[aQV];rw[aRM];simpa using hv
 ·simp only[aQV];rw[aRM,World.frozen?_alloc_new];exact⟨by simp;omega,rfl⟩
 ·cases hs;show (match (w.heap.push (.cells cs.toArray e))[w.heap.size]? with|some (.cells c elem _)=>some (elem,c.size) |_=>none)=_
  rw[aSn];simp only[aRb]
theorem qW.newVar {side:List Prop}{rds:List Nat}{base:Nat}{t:Ty}{x:t.den}{toks:List (Nat×Nat)}{cs:List Value}{e:TypeId}(hR:Rd g w t x cs) (htk:F1 g t x cs toks) (hf:g.J base=none) (hc:g.cur base=fun _=>none):
  qW g w H ⟨side,(.val .ref (some (base,0)),none),[(base,.cells t x toks)],rds⟩ (g.var base w.heap.size (some (e,cs.length))) (w.alloc (.cells cs.toArray e)) (.pointer (some ⟨w.heap.size,0,none⟩)):=
 qW.newVarJ hH (wC (g:=g) (g':=g.var base w.heap.size (some (e,cs.length))) (w:=w) (w':=w) ⟨fun _ _ h=>h,fun _ _ _=>rfl,fun i p h=>by
  show (if i=base then _ else _)=_;rw[aQl (fun e1=>by rw[e1,hf] at h;cases h)];exact h,fun _ _ _ h=>h⟩ hR) htk hf hc
end
theorem XP {P:Program}(w:World) (t ty e:TypeId) (i:TypeInfo) (z:Value) (size bytes:Nat) (ht:P.underlying t=some (.slice e)) (hi:P.info? e=some i) (hz:i.zero=some z)
  (hsize:i.size=size) (hby:i.bytes=bytes) (hzs:z.cells.size=size)
  (v:Value) (n:Nat) (xs:List Value) (hown:w.ownsRow 0 e size v n xs)
  (a:Addr) (m c:Nat) (news:List Value) (hl:news.length=m*size) (hnews: ∀j u,news[j]? =some u->w.cell? (a.add j)=some u) (h1: ∀u∈news,u.oneCell'=true) (hm:0<m)
  (h63:n+m<=maxLen) (hbytes:(n+m)*bytes<=140737488355328):
  ∃q cap w',(Builtin.append_ #[t,t] ty #[v,.slice (some a) m c]).run P w= .ok (.slice (some ⟨q,0,none⟩) (n+m) cap) w'/\w'.ownsRow 0 e size (.slice (some ⟨q,0,none⟩) (n+m) cap) (n+m) (xs++news)/\
   (q=w.heap.size\/v.ownBlock=some q)/\w.grownBy w' v.ownBlock/\n+m<=cap/\
   ∀b o,b<w.heap.size->(v.ownBlock=some b->o<n*size)->w'.cell? ⟨b,o,none⟩=w.cell? ⟨b,o,none⟩:=by
 subst hsize;subst hby;have hsmall:n+m<=9223372036854775807:=by simp only[maxLen] at h63;omega
 have hlen:(xs++news).length=(n+m)*i.size:=by rw[aQm,hown.1,hl,Nat.add_mul]
 have grown: ∀(old:Nat),old<n+m->∀(row:Option Nat),
   (w.drew.alloc (.cells (xs.toArray++news.toArray++Builtin.zeroCells z.cells (grownCap w (n+m) old e- (n+m))) e)).ownsRow 0 e i.size
    (.slice (some ⟨w.heap.size,0,none⟩) (n+m) (grownCap w (n+m) old e)) (n+m) (xs++news)/\
   w.grownBy (w.drew.alloc (.cells (xs.toArray++news.toArray++Builtin.zeroCells z.cells (grownCap w (n+m) old e- (n+m))) e)) row/\n+m<=grownCap w (n+m) old e/\
   ∀b o,b<w.heap.size->(w.drew.alloc (.cells (xs.toArray++news.toArray++Builtin.zeroCells z.cells (grownCap w (n+m) old e- (n+m))) e)).cell? ⟨b,o,none⟩=w.cell? ⟨b,o,none⟩:=by
  intro old ho row;have hge:=grownCap_ge w (n+m) old e;have hcm:grownCap w (n+m) old e<=maxLen:=grownCap_le_maxLen w (n+m) old e h63;refine⟨⟨hlen,.inr ⟨w.heap.size,_,_,rfl,aRc _,aSv w.drew _,hge,hcm,?_,?_⟩⟩,⟨rfl,rfl,rfl,by simp,fun k hk _=>aQP w.drew _ k hk⟩,hge,fun b o hb=>aQK (w:=w) (a:=⟨b,o,none⟩) (aQP w.drew _ b hb)⟩
  ·simp only[aSu,aRb,size_zeroCells,hzs,hown.1,hl,<-Nat.add_mul];congr 1;omega
  ·simp only[Array.toList_append,aQt];rw[<-aQt,<-hlen];exact aRw
 rcases hown.2 with⟨rfl,rfl⟩ |⟨g,cap,cur,rfl,hbg,hg,hnc,hcm,hcs,htake⟩
 ·have hx:xs=[]:=aQS (by simpa using hown.1);subst hx;have hr:=run_append_nil (P:=P) w t ty e i z ht hi hz a m c news hl hnews (by omega) (by omega) (by have hb:=hbytes;simp only[aQV] at hb;omega);have hgr:=grown 0 (by omega) (Value.ownBlock (.slice none 0 0));simp only[aQV,List.nil_append,Array.empty_append] at hgr⊢;exact⟨_,_,_,hr,hgr.1,.inl rfl,hgr.2.1,hgr.2.2.1,fun b o hb _=>hgr.2.2.2 b o hb⟩
 ·by_cases hroom:n+m<=cap
  ·have hfit:n*i.size+news.length<=cur.size:=by rw[hl,hcs,<-Nat.add_mul];exact aSd _ hroom
   have hr:=run_append_room (P:=P) w t ty e i ht hi g n cap cur hg a m c news hl hnews h1 hroom hfit;refine⟨_,_,_,hr,⟨hlen,.inr ⟨g,cap,_,rfl,hbg,aSj w g cur _ e _ hg,hroom,hcm,?_,?_⟩⟩,.inr rfl,⟨rfl,rfl,rfl,by simp,fun k _ hk=>aRU w g k _ (fun e=>hk (by simp [Value.ownBlock,e]))⟩,hroom,fun b o hb hso=> ?_⟩
   ·simp only[aRb,aQm,aQM,aQw,aQT];omega
   ·rw[htake,<-hlen];exact aRw
   ·by_cases hbg':b=g
    ·subst hbg';have ho:=hso rfl;rw[cell_setRow_same w b o cur _ e _ hg,cell_of_row w b o cur e (0,0) hg];have hlt:o<(cur.toList.take (n*i.size)).length:=by rw[aQM,aQT];omega
     rw[aQt,List.getElem?_toArray,aQE hlt,aR8,aQj ho,aRo]
    ·exact aQK (w:=w) (a:=⟨b,o,none⟩) (aRU w g b _ hbg')
  ·have holds: ∀j u,xs[j]? =some u->w.cell? ((⟨g,0,none⟩:Addr).add j)=some u:=hown.cells (g:=g) rfl;have hr:=run_append_grow (P:=P) w t ty e i z ht hi hz ⟨g,0,none⟩ n cap xs hown.1 holds a m c news hl hnews (by omega) (by omega) (growslice_fits (by omega) hbytes);have hgr:=grown cap (by omega) (Value.ownBlock (.slice (some ⟨g,0,none⟩) n cap));exact⟨_,_,_,hr,hgr.1,.inl rfl,hgr.2.1,hgr.2.2.1,fun b o hb _=>hgr.2.2.2 b o hb⟩
theorem XQ {w:World}{e:TypeId}{c n:Nat}{q cap:Nat}{xs:List Value}(h:w.ownsRow 0 e c (.slice (some ⟨q,0,none⟩) n cap) n xs):w.rangeAt q 0 xs:=fun j u hu=>by
 have:=h.cells (g:=q) rfl j u hu;rwa [aRz] at this
theorem aG4 (w:World) (a:Addr) (v:Value) (b:Nat):(w.setCell a v).shape? b=w.shape? b:=by
 unfold World.shape? World.setCell;simp only[aRO];by_cases h:a.block=b
 ·rw[aQj h];cases hb:w.heap[b]? with
  |none=>rfl
  |some x=>
   cases x with
   |cells c e f=>
    simp only[Option.map_some];split<;>simp
   |_=>rfl
 ·rw[aQl h]
theorem XR (b:Nat): ∀(l:List Value) (o:Nat) (w:World) (b':Nat),(w.setCells b o l).shape? b'=w.shape? b'
 |[],_,_,_=>rfl
 |v::l,o,w,b'=>by rw[World.setCells,XR b l,aG4]
section
variable {g:Gh}{w:World}{H:r5}(hH:rK g w H)
include hH
theorem qW.append {side:List Prop}{rds:List Nat}{k e c n:Nat}{u:Ty}{l r:List u.den}{w':World}{q cap:Nat}{v:Value}{xs news:List Value}(hk:pC H k=some (.grow e c n)) (hc:c=u.cells)
  (hln:l.length=n) (hv:g.cur k n=some v) (hown:w.ownsRow 0 e c v n xs) (hnone: ∀m,n<m->g.cur k m=none) (hseal: ∀b,v.ownBlock=some b->∀o,g.S b o->o<n*c) (hl:sC (Rd g w u) c l xs) (hr:sC (Rd g w u) c r news) (hm:0<r.length)
  (ho:w'.ownsRow 0 e c (.slice (some ⟨q,0,none⟩) (n+r.length) cap) (n+r.length) (xs++news)) (hq:q=w.heap.size\/v.ownBlock=some q) (hg:w.grownBy w' v.ownBlock) (hcap:n+r.length<=cap)
  (hcell: ∀b o,b<w.heap.size->(v.ownBlock=some b->o<n*c)->w'.cell? ⟨b,o,none⟩=w.cell? ⟨b,o,none⟩):
  qW g w H ⟨side,(.val (.list u) (l++r),some k),[(k,.grow e c (n+r.length))],rds⟩ ((g.tok k (n+r.length) (.slice (some ⟨q,0,none⟩) (n+r.length) cap)).shut q ((n+r.length)*c)) w' (.slice (some ⟨q,0,none⟩) (n+r.length) cap):=by
 have hnb:=hnone (n+r.length) (by omega);have hownk: ∀o b,v.ownBlock=some b->rY g H (pE [(k,p9.grow e c (n+r.length))]) b o:=fun o b hb=>⟨k,_,by simp [pE],hk,v,hv,hb⟩;have hqlt:q<w'.heap.size:=(ho.lt q rfl).2;have le:Le g w ((g.tok k (n+r.length) (.slice (some ⟨q,0,none⟩) (n+r.length) cap)).shut q ((n+r.length)*c)) w':=⟨fun _ _ h=> .inl h,fun b o h=>hcell b o (hH.sl b o h) (fun hb=>hseal b hb o h),fun _ _ h=>h,fun k' n' v' h=>by
  show (if k'=k/\n'=n+r.length then _ else _)=_;rw[aQl (fun⟨e1,e2⟩=>by rw[e1,e2,hnb] at h;cases h)];exact h⟩
 have fr:Fr (rY g H (pE [(k,p9.grow e c (n+r.length))])) w w' g.S ((g.tok k (n+r.length) (.slice (some ⟨q,0,none⟩) (n+r.length) cap)).shut q ((n+r.length)*c)).S:=by
  have hbk: ∀b,b<w.heap.size->∀o,¬rY g H (pE [(k,p9.grow e c (n+r.length))]) b o->w'.heap[b]? =w.heap[b]? :=fun b hb o hno=>hg.block b hb (fun e1=>hno (hownk o b e1.symm));refine⟨hg.os,hg.tape,hg.output,hg.size,fun b hb hno=>hbk b hb 0 (hno 0),fun b o hb hno=>⟨aQK (a:=⟨b,o,none⟩) (hbk b hb o hno),aRi (a:=⟨b,o,none⟩) (hbk b hb o hno)⟩,fun b o h=> ?_,fun b s hs=> ?_⟩
  rotate_left
  ·by_cases e1:v.ownBlock=some b
   ·exact .inr fun o=>hownk o b e1
   ·exact .inl ((CY (hg.block b (CX hs) (fun h=>e1 h.symm))).trans hs)
  rcases h with h|⟨rfl,_⟩
  ·exact .inl h
  ·rcases hq with h|h
   ·exact .inr (.inl (aR0 h.symm))
   ·exact .inr (.inr (hownk o b h))
 have gho: ∀i,i∉pE [(k,p9.grow e c (n+r.length))]->((g.tok k (n+r.length) (.slice (some ⟨q,0,none⟩) (n+r.length) cap)).shut q ((n+r.length)*c)).J i=g.J i/\((g.tok k (n+r.length) (.slice (some ⟨q,0,none⟩) (n+r.length) cap)).shut q ((n+r.length)*c)).cur i=g.cur i:=fun i hi=>⟨rfl,by
  funext n';show (if i=k/\n'=n+r.length then _ else _)=_;rw[aQl (fun⟨e1,_⟩=>hi (by simp [pE,e1]))]⟩
 have cur1:((g.tok k (n+r.length) (.slice (some ⟨q,0,none⟩) (n+r.length) cap)).shut q ((n+r.length)*c)).cur k (n+r.length)=some (.slice (some ⟨q,0,none⟩) (n+r.length) cap):=by
  show (if k=k/\n+r.length=n+r.length then _ else _)=_;simp
 have get: ∀i blk,i∈pE [(k,p9.grow e c (n+r.length))]->pC (pO [(k,p9.grow e c (n+r.length))] H) i=some blk->i=k/\blk= .grow e c (n+r.length):=by
  intro i blk hi hg;simp only[pE,aQx] at hi;subst hi;simp only[pO,pC,aRZ,aQk] at hg;exact⟨rfl,hg.symm⟩
 have perm: ∀i blk b o,i∈pE [(k,p9.grow e c (n+r.length))]->pC (pO [(k,p9.grow e c (n+r.length))] H) i=some blk->r7 ((g.tok k (n+r.length) (.slice (some ⟨q,0,none⟩) (n+r.length) cap)).shut q ((n+r.length)*c)) i blk b o->w.heap.size<=b\/rY g H (pE [(k,p9.grow e c (n+r.length))]) b o:=by
  intro i blk b o hi hgt ho';obtain⟨rfl,rfl⟩:=get i blk hi hgt;obtain⟨v',hv',hb⟩:=ho';rw[cur1] at hv';obtain rfl:=aQo hv';cases hb;rcases hq with h|h
  ·exact .inl (aR0 h.symm)
  ·exact .inr (hownk o _ h)
 have hF:sC (Rd ((g.tok k (n+r.length) (.slice (some ⟨q,0,none⟩) (n+r.length) cap)).shut q ((n+r.length)*c)) w' u) u.cells (l++r) (xs++news):=hc▸C9 (fun _ _ h=>wC le h) (NE hl hr);have hlr:(l++r).length=n+r.length:=by rw[aQm,hln]
 refine⟨le,⟨.inr ⟨rfl,some ⟨q,0,none⟩,cap,by rw[hlr],by rw[hlr];exact hcap,.inr ⟨q,0,rfl,KO hF (XQ ho) (fun j hj=> ?_)⟩⟩,?_⟩,hH.upd le fr perm gho (fun i blk hi hgt=> ?_) (fun i j bi bj b o hi hj hij hgi hgj _ _=>hij ((get i bi hi hgi).1.trans (get j bj hj hgj).1.symm)) (fun b o h=> ?_),fr,perm,gho,fun i u' y us h=>by
  simp only[pO,pC] at h;split at h
  ·cases h
  ·exact .inl ⟨y,us,h⟩⟩
 ·right;rw[hlr] at hj;exact⟨rfl,by rw[hc];omega⟩
 ·show _=_;rw[hlr];exact cur1
 ·obtain⟨rfl,rfl⟩:=get i blk hi hgt;refine⟨_,_,cur1,ho,fun m hm'=> ?_,fun b hb o h=> ?_⟩
  ·show (if i=i/\m=n+r.length then _ else _)=_;rw[aQl (by omega)];exact hnone m (by omega)
  ·cases hb;rcases h with h|⟨_,h⟩
   ·rcases hq with h2|h2
    ·have:q<w.heap.size:=hH.sl _ _ h;omega
    ·have:=hseal _ h2 o h;rw[Nat.add_mul];omega
   ·exact h
 ·rcases h with h|⟨rfl,_⟩
  ·exact aQZ (hH.sl b o h) hg.size
  ·exact hqlt
theorem qW.lit {side:List Prop}{rds:List Nat}{base e c n:Nat}{u:Ty}{l:List u.den}{cs:List Value}(hc:c=u.cells) (hln:l.length=n) (hl:sC (Rd g w u) c l cs) (hn:n<=maxLen) (hf: ∀m,g.cur base m=none):
  qW g w H ⟨side,(.val (.list u) l,some base),[(base,.grow e c n)],rds⟩ ((g.tok base n (.slice (some ⟨w.heap.size,0,none⟩) n n)).shut w.heap.size (n*c)) (w.alloc (.cells cs.toArray e)) (.slice (some ⟨w.heap.size,0,none⟩) n n):=by
 have hlen:=GJ hl;have le:Le g w ((g.tok base n (.slice (some ⟨w.heap.size,0,none⟩) n n)).shut w.heap.size (n*c)) (w.alloc (.cells cs.toArray e)):=⟨fun _ _ h=> .inl h,fun b o h=>aQK (a:=⟨b,o,none⟩) (aQP _ _ _ (hH.sl b o h)),fun _ _ h=>h,fun k' n' v' h=>by
  show (if k'=base/\n'=n then _ else _)=_;rw[aQl (fun⟨e1,e2⟩=>by rw[e1,hf] at h;cases h)];exact h⟩
 have fr:Fr (rY g H (pE [(base,p9.grow e c n)])) w (w.alloc (.cells cs.toArray e)) g.S ((g.tok base n (.slice (some ⟨w.heap.size,0,none⟩) n n)).shut w.heap.size (n*c)).S:=
  ⟨rfl,rfl,rfl,by simp,fun b hb _=>aQP _ _ _ hb,fun b o hb _=>⟨aQK (a:=⟨b,o,none⟩) (aQP _ _ _ hb),aRi (a:=⟨b,o,none⟩) (aQP _ _ _ hb)⟩,fun b o h=>h.imp id fun h=> .inl (aR0 h.1.symm),fun b s h=> .inl ((CY (aQP _ _ _ (CX h))).trans h)⟩
 have gho: ∀i,i∉pE [(base,p9.grow e c n)]->((g.tok base n (.slice (some ⟨w.heap.size,0,none⟩) n n)).shut w.heap.size (n*c)).J i=g.J i/\((g.tok base n (.slice (some ⟨w.heap.size,0,none⟩) n n)).shut w.heap.size (n*c)).cur i=g.cur i:=fun i hi=>⟨rfl,by
  funext n';show (if i=base/\n'=n then _ else _)=_;rw[aQl (fun⟨e1,_⟩=>hi (by simp [pE,e1]))]⟩
 have cur1:((g.tok base n (.slice (some ⟨w.heap.size,0,none⟩) n n)).shut w.heap.size (n*c)).cur base n=some (.slice (some ⟨w.heap.size,0,none⟩) n n):=by
  show (if base=base/\n=n then _ else _)=_;simp
 have get: ∀i blk,i∈pE [(base,p9.grow e c n)]->pC (pO [(base,p9.grow e c n)] H) i=some blk->i=base/\blk= .grow e c n:=by
  intro i blk hi hg;simp only[pE,aQx] at hi;subst hi;simp only[pO,pC,aRZ,aQk] at hg;exact⟨rfl,hg.symm⟩
 have perm: ∀i blk b o,i∈pE [(base,p9.grow e c n)]->pC (pO [(base,p9.grow e c n)] H) i=some blk->r7 ((g.tok base n (.slice (some ⟨w.heap.size,0,none⟩) n n)).shut w.heap.size (n*c)) i blk b o->w.heap.size<=b\/rY g H (pE [(base,p9.grow e c n)]) b o:=by
  intro i blk b o hi hgt ho';obtain⟨rfl,rfl⟩:=get i blk hi hgt;obtain⟨v',hv',hb⟩:=ho';rw[cur1] at hv';obtain rfl:=aQo hv';cases hb;exact .inl (aQF _)
 have hF:sC (Rd ((g.tok base n (.slice (some ⟨w.heap.size,0,none⟩) n n)).shut w.heap.size (n*c)) (w.alloc (.cells cs.toArray e)) u) u.cells l cs:=hc▸C9 (fun _ _ h=>wC le h) hl;have hra:(w.alloc (.cells cs.toArray e)).rangeAt w.heap.size 0 cs:=fun j v hv=>by
  rw[aQV,aRM];simpa using hv
 refine⟨le,⟨.inr ⟨rfl,some ⟨w.heap.size,0,none⟩,n,by rw[hln],by rw[hln];exact aQF _,.inr ⟨w.heap.size,0,rfl,KO hF hra (fun j hj=> ?_)⟩⟩,?_⟩,hH.upd le fr perm gho (fun i blk hi hgt=> ?_) (fun i j bi bj b o hi hj hij hgi hgj _ _=>hij ((get i bi hi hgi).1.trans (get j bj hj hgj).1.symm)) (fun b o h=> ?_),fr,perm,gho,fun i u' y us h=>by
  simp only[pO,pC] at h;split at h
  ·cases h
  ·exact .inl ⟨y,us,h⟩⟩
 ·right;rw[hln] at hj;exact⟨rfl,by rw[hc];omega⟩
 ·show _=_;rw[hln];exact cur1
 ·obtain⟨rfl,rfl⟩:=get i blk hi hgt;refine⟨_,cs,cur1,⟨by rw[hlen,hln],.inr ⟨w.heap.size,n,cs.toArray,rfl,aRc _,aSv w _,aQF _,hn,by simp [hlen,hln],by simp [<-hln,<-hlen]⟩⟩,fun m hm'=> ?_,fun b hb o h=> ?_⟩
  ·show (if i=i/\m=n then _ else _)=_;rw[aQl (by omega)];exact hf m
  ·cases hb;rcases h with h|⟨_,h⟩
   ·exact absurd (hH.sl _ _ h) (aSp _)
   ·exact h
 ·rcases h with h|⟨rfl,_⟩
  ·exact aQZ (hH.sl b o h) (by simp)
  ·simp
theorem XS: ∀{toks:List (Nat×Nat)}{off n q k:Nat},(q,k)∈tX toks off n->(q,k)∈toks/\¬(off<=q/\q<off+n)
 |[],_,_,_,_,h=>by simp [tX] at h
 |(q',k')::r,off,n,q,k,h=>by
  simp only[tX] at h;split at h
  ·obtain⟨h1,h2⟩:=XS h;exact⟨aQy _ h1,h2⟩
  ·rename_i hn;rcases aQC.1 h with h|h
   ·cases h;exact⟨by simp,hn⟩
   ·obtain⟨h1,h2⟩:=XS h;exact⟨aQy _ h1,h2⟩
theorem aG5 {u:Ty}{y:u.den}: ∀{t:Ty}{x z:t.den}{o:Nat},u.isRow=false->rO u y t x o=some z->pX u t z o=some y:=by
 intro t
 induction t with
 |pair a b iha ihb=>
  intro x z o hu h;have hne:u≠.pair a b:=by intro e;rw[e] at hu;cases hu
  have key: ∀o,(if o<a.cells then(rO u y a x.1 o).map (fun q=>(q,x.2)) else(rO u y b x.2 (o-a.cells)).map (fun q=>(x.1,q)))=some z->
    (if o<a.cells then pX u a z.1 o else pX u b z.2 (o-a.cells))=some y:=by
   intro o h;by_cases ho:o<a.cells
   ·rw[aQj ho] at h⊢;obtain⟨q,hq,rfl⟩:=aQz.1 h;exact iha hu hq
   ·rw[aQl ho] at h⊢;obtain⟨q,hq,rfl⟩:=aQz.1 h;exact ihb hu hq
  cases o with
  |zero=>
   unfold rO at h;unfold pX;rw[aR6 hne] at h;rw[aR6 (Ne.symm hne)];have:=key 0 (by simpa using h);simpa using this
  |succ o=>
   have:=key (o+1) (by simpa[rO] using h);simpa[pX] using this
 |_=>
  intro x z o hu h;cases o with
  |zero=>
   unfold rO at h;split at h
   ·rename_i e;subst e;simp only[sU,aQk] at h
    try subst h
    unfold pX;simp [sU]
   ·simp at h
  |succ o=>simp [rO] at h
theorem a78 {u v:Ty}{y:u.den}: ∀{t:Ty}{x z:t.den}{o q:Nat}{l:(Ty.list v).den},rO u y t x o=some z->pX (.list v) t x q=some l->¬(o<=q/\q<o+u.cells)->pX (.list v) t z q=some l:=by
 intro t
 induction t with
 |pair a b iha ihb=>
  intro x z o q l h g hq;by_cases hu:o=0/\u= .pair a b
  ·obtain⟨rfl,rfl⟩:=hu;exfalso;apply hq;have: ∀(t:Ty) (x:t.den) (q:Nat) (l:(Ty.list v).den),pX (.list v) t x q=some l->q<t.cells:=by
    intro t
    induction t with
    |pair s t ihs iht=>
     intro x q l g;have key: ∀q,(if q<s.cells then pX (.list v) s x.1 q else pX (.list v) t x.2 (q-s.cells))=some l->q<s.cells+t.cells:=by
      intro q g;by_cases h:q<s.cells
      ·omega
      ·rw[aQl h] at g;have:=iht _ _ _ g;omega
     cases q with
     |zero=>
      unfold pX at g;rw[aR6 (by intro e;cases e)] at g;exact key 0 (by simpa using g)
     |succ q=>exact key (q+1) (by simpa[pX] using g)
    |_=>
     intro x q l g;cases q with
     |zero=>first|(simp [Ty.cells];done) |(unfold pX at g;simp at g)
     |succ q=>simp [pX] at g
   exact⟨aRc _,by simpa using this _ _ _ _ g⟩
  ·have keyh:(if o<a.cells then(rO u y a x.1 o).map (fun q=>(q,x.2)) else(rO u y b x.2 (o-a.cells)).map (fun q=>(x.1,q)))=some z:=by
    cases o with
    |zero=>
     unfold rO at h;rw[aR6 (fun e=>hu ⟨rfl,e⟩)] at h;simpa using h
    |succ o=>simpa[rO] using h
   have keyg: ∀x:(Ty.pair a b).den,pX (.list v) (.pair a b) x q=(if q<a.cells then pX (.list v) a x.1 q else pX (.list v) b x.2 (q-a.cells)):=by
    intro x;cases q with
    |zero=>
     conv=>lhs;unfold pX
     rw[aR6 (by intro e;cases e),Nat.zero_sub]
    |succ q=>simp [pX]
   rw[keyg] at g⊢;by_cases ho:o<a.cells
   ·rw[aQj ho] at keyh;obtain⟨z',hz',rfl⟩:=aQz.1 keyh;by_cases hqa:q<a.cells
    ·rw[aQj hqa] at g⊢;exact iha hz' g hq
    ·rw[aQl hqa] at g⊢;exact g
   ·rw[aQl ho] at keyh;obtain⟨z',hz',rfl⟩:=aQz.1 keyh;by_cases hqa:q<a.cells
    ·rw[aQj hqa] at g⊢;exact g
    ·rw[aQl hqa] at g⊢;exact ihb hz' g (by omega)
 |unit=>
  intro x z o q l h g hq;cases q with
  |zero=>
   unfold pX at g;rw[aR6 (by intro e;cases e)] at g;cases g
  |succ q=>simp [pX] at g
 |_=>
  intro x z o q l h g hq;cases o with
  |zero=>
   unfold rO at h;split at h
   ·rename_i e;subst e;cases q with
    |zero=>exact absurd ⟨aQF _,Nat.zero_lt_one⟩ hq
    |succ q=>simp [pX] at g
   ·simp at h
  |succ o=>simp [rO] at h
theorem qW.store {side:List Prop}{rds:List Nat}{i:Nat}{u t:Ty}{x z:u.den}{y:t.den}{off:Nat}{toks:List (Nat×Nat)}{k:Option Nat}{p:Pl}{cy:List Value}{v:Value}(hb:pC H i=some (.cells u x toks)) (hp:g.J i=some p)
  (hset:rO t y u x off=some z) (hy:Rd g w t y cy) (hk:C8 g t y v k) (hk2: ∀a b,t= .pair a b->k=none) (hv:t.isRow=false->cy=[v]):
  qW g w H ⟨side,(.any,none),[(i,.cells u z (pO (w5 k off) (tX toks off t.cells)))],rds⟩ g (w.setCells p.1 (p.2+off) cy) undef/\w.there p.1 (p.2+off) cy.length:=by
 obtain⟨p',cs,hp',hR,hra,hth,hns,htk⟩:=hH.blk i _ hb;rw[hp] at hp';obtain rfl:=aQo hp';obtain⟨c1,c2,c3,hcs,hl1,hl2,hz⟩:=RW hy hR hset;subst hcs;subst hl1;have hcl:=rS hR;have hyl:=rS hy;simp only[aQm] at hcl;have hthere:w.there p.1 (p.2+c1.length) cy.length:=fun j hj=>by
  have:=hth.1 (c1.length+j) (by omega);rwa [<-aQ1] at this
 have hout: ∀b o,(b=p.1->o<p.2+c1.length\/p.2+c1.length+cy.length<=o)->(w.setCells p.1 (p.2+c1.length) cy).cell? ⟨b,o,none⟩=w.cell? ⟨b,o,none⟩:=fun b o h=>World.cell?_setCells_out p.1 cy _ w ⟨b,o,none⟩ (fun e _=>h e);have hin: ∀b o,b=p.1->p.2+c1.length<=o->o<p.2+c1.length+cy.length->r7 g i (.cells u x toks) b o:=fun b o e h1 h2=>⟨p,hp,e,by omega,by omega⟩;have hsz:(w.setCells p.1 (p.2+c1.length) cy).heap.size=w.heap.size:=by
  have: ∀(l:List Value) (o:Nat) (w:World),(w.setCells p.1 o l).heap.size=w.heap.size:=by
   intro l
   induction l with
   |nil=>intro o w;rfl
   |cons v l ih=>intro o w;rw[World.setCells,ih];simp [World.setCell]
  exact this _ _ _
 have hbk: ∀b,b≠p.1->(w.setCells p.1 (p.2+c1.length) cy).heap[b]? =w.heap[b]? :=by
  intro b hb;have: ∀(l:List Value) (o:Nat) (w:World),(w.setCells p.1 o l).heap[b]? =w.heap[b]? :=by
   intro l
   induction l with
   |nil=>intro o w;rfl
   |cons v l ih=>intro o w;rw[World.setCells,ih];exact Below.heap_setCell _ _ _ _ hb
  exact this _ _ _
 have hos:(w.setCells p.1 (p.2+c1.length) cy).os=w.os/\(w.setCells p.1 (p.2+c1.length) cy).tape=w.tape/\(w.setCells p.1 (p.2+c1.length) cy).output=w.output:=by
  have: ∀(l:List Value) (o:Nat) (w:World),(w.setCells p.1 o l).os=w.os/\(w.setCells p.1 o l).tape=w.tape/\(w.setCells p.1 o l).output=w.output:=by
   intro l
   induction l with
   |nil=>intro o w;exact⟨rfl,rfl,rfl⟩
   |cons v l ih=>intro o w;rw[World.setCells];exact ih _ _
  exact this _ _ _
 have hiS: ∀b o,g.S b o->¬(b=p.1/\p.2<=o/\o<p.2+u.cells):=fun b o hs ⟨e,h1,h2⟩=>hns (o-p.2) (by omega) (by rw[show p.2+(o-p.2)=o from by omega,<-e];exact hs);have le:Le g w g (w.setCells p.1 (p.2+c1.length) cy):=⟨fun _ _ h=>h,fun b o h=>hout b o (fun e=>by
  have:=hiS b o h;rcases aRV o (p.2+c1.length) with h1|h1
  ·exact .inl h1
  ·rcases aRV o (p.2+c1.length+cy.length) with h2|h2
   ·exact absurd ⟨e,by omega,by omega⟩ this
   ·exact .inr h2),fun _ _ h=>h,fun _ _ _ h=>h⟩
 have hofI: ∀b o,r7 g i (.cells u x toks) b o->rY g H (pE [(i,p9.cells u z (pO (w5 k c1.length) (tX toks c1.length t.cells)))]) b o:=fun b o h=>⟨i,_,by simp [pE],hb,h⟩;have fr:Fr (rY g H (pE [(i,p9.cells u z (pO (w5 k c1.length) (tX toks c1.length t.cells)))])) w (w.setCells p.1 (p.2+c1.length) cy) g.S g.S:=by
  refine⟨hos.1,hos.2.1,hos.2.2,aR0 hsz.symm,fun b hb' hno=> ?_,fun b o hb' hno=>⟨hout b o (fun e=> ?_),World.frozen?_setCells _ _ _ _ _⟩,fun b o h=> .inl h,fun b s hs=> .inl ((XR _ _ _ _ _).trans hs)⟩
  ·by_cases e:b=p.1
   ·cases hcy:cy with
    |nil=>rfl
    |cons q l=>exact absurd (hofI b (p.2+c1.length) (hin b _ e (aQF _) (by rw[hcy];simp))) (hno _)
   ·exact hbk b e
  ·rcases aRV o (p.2+c1.length) with h1|h1
   ·exact .inl h1
   ·rcases aRV o (p.2+c1.length+cy.length) with h2|h2
    ·exact absurd (hofI b o (hin b o e h1 h2)) hno
    ·exact .inr h2
 have gho: ∀j,j∉pE [(i,p9.cells u z (pO (w5 k c1.length) (tX toks c1.length t.cells)))]->g.J j=g.J j/\g.cur j=g.cur j:=fun _ _=>⟨rfl,rfl⟩;have get: ∀j blk,j∈pE [(i,p9.cells u z (pO (w5 k c1.length) (tX toks c1.length t.cells)))]->pC (pO [(i,p9.cells u z (pO (w5 k c1.length) (tX toks c1.length t.cells)))] H) j=some blk->j=i/\blk= .cells u z (pO (w5 k c1.length) (tX toks c1.length t.cells)):=by
  intro j blk hi hg;simp only[pE,aQx] at hi;subst hi;simp only[pO,pC,aRZ,aQk] at hg;exact⟨rfl,hg.symm⟩
 have perm: ∀j blk b o,j∈pE [(i,p9.cells u z (pO (w5 k c1.length) (tX toks c1.length t.cells)))]->pC (pO [(i,p9.cells u z (pO (w5 k c1.length) (tX toks c1.length t.cells)))] H) j=some blk->r7 g j blk b o->w.heap.size<=b\/rY g H (pE [(i,p9.cells u z (pO (w5 k c1.length) (tX toks c1.length t.cells)))]) b o:=by
  intro j blk b o hi hg ho;obtain⟨rfl,rfl⟩:=get j blk hi hg;exact .inr (hofI b o ho)
 refine⟨⟨le,⟨trivial,trivial⟩,hH.upd le fr perm gho (fun j blk hi hg=> ?_) (fun i j bi bj b o hi hj hij hgi hgj _ _=>hij ((get i bi hi hgi).1.trans (get j bj hj hgj).1.symm)) (fun b o h=>by rw[hsz];exact hH.sl b o h),fr,perm,gho,fun j u' y' us h=>by
  simp only[pO,pC] at h;split at h
  ·rename_i e1;subst e1;simp only[aQk,p9.cells.injEq] at h;obtain⟨rfl,_⟩:=h;exact .inl ⟨x,toks,hb⟩
  ·exact .inl ⟨y',us,h⟩⟩,hthere⟩
 obtain⟨rfl,rfl⟩:=get j blk hi hg;refine⟨p,_,hp,wC le hz,fun q v hq=> ?_,⟨fun q hq=> ?_,fun h0 s hs=>(XR _ _ _ _ _).trans (hth.2 h0 s hs)⟩,hns,?_⟩
 ·by_cases h1:q<c1.length
  ·rw[hout _ _ (fun _=> .inl (by omega))];refine hra q v ?_;rw[aQt,aQE h1] at hq⊢;exact hq
  ·by_cases h2:q<c1.length+cy.length
   ·have:=aSo p.1 cy (p.2+c1.length) w (fun j hj=>(hthere j hj).1) (q-c1.length) (by omega);rw[show p.2+c1.length+(q-c1.length)=p.2+q from by omega] at this;rw[this];rw[aQt,aQv (by omega),aQE (by omega)] at hq;rw[<-hq,aQs (by omega)]
   ·rw[hout _ _ (fun _=> .inr (by omega))];refine hra q v ?_;rw[aQt,aQv (by omega),aQv (by omega)] at hq⊢;rw[hl2];rw[hyl] at hq;exact hq
 ·have hh:=hth.1 q hq;refine⟨?_,by rw[World.frozen?_setCells];exact hh.2⟩;by_cases h1:q<c1.length\/c1.length+cy.length<=q
  ·rw[hout _ _ (fun _=>by omega)];exact hh.1
  ·have:=aSo p.1 cy (p.2+c1.length) w (fun j hj=>(hthere j hj).1) (q-c1.length) (by omega);rw[show p.2+c1.length+(q-c1.length)=p.2+q from by omega] at this;rw[this];rfl
 ·intro q kk hm;have hsplit:(q,kk)∈w5 k c1.length\/(q,kk)∈tX toks c1.length t.cells:=by
   cases k with
   |none=>exact .inr (by simpa[w5,pO] using hm)
   |some k=>
    simp only[w5,pO,aQC] at hm;rcases hm with hm|hm
    ·exact .inl (by simp [w5,hm])
    ·exact .inr hm
  rcases hsplit with hm|hm
  ·cases k with
   |none=>simp [w5] at hm
   |some k=>
    simp only[w5,aQx,aQQ] at hm;obtain⟨rfl,rfl⟩:=hm;cases t with
    |list t=>
     obtain rfl:=hv rfl;exact⟨t,y,v,aG5 hH rfl hset,by simp,hk⟩
    |pair a b=>cases hk2 a b rfl
    |_=>exact hk.elim
  ·obtain⟨h1,h2⟩:=XS hH hm;obtain⟨v',l,v1,g1,g2,g3⟩:=htk q kk h1;refine⟨v',l,v1,a78 hH hset g1 h2,?_,g3⟩;rcases aRV q c1.length with h3|h3
   ·rw[aQt,aQE h3] at g2⊢;exact g2
   ·have h4:c1.length+t.cells<=q:=by omega
    rw[aQt,aQv (by omega),aQv (by omega)] at g2⊢;rw[hyl];rw[hl2] at g2;exact g2
end
def z7 (g:Gh) (base:Nat) (e:pJ):Prop:= ∀i,i∈pE e.upd->base<=i->g.J i=none/\∀n,g.cur i n=none
section
variable {P:Program}{o:Oper}{a:Act}{g:Gh}{w:World}{H:r5}{T:rQ}(hT:vT P T) (hH:rK g w H)
include hT hH
theorem a79 {x:Operand}(ho:o.op= .move x\/o.op= .assign x) {sx:pA}(hx:qJ g w sx (a.eval x)) {base:Nat}{e:pJ}(hr:WG base (qQ T o.type) sx=some e) (hf:z7 g base e):qD P o a g w H e:=by
 have hrun:(execOp a.eval o).run P w= .ok (.value (a.eval x)) w:=by rcases ho with ho|ho<;>simp [execOp,ho]
 generalize hst:qQ T o.type=ot at hr;unfold WG at hr;split at hr
 ·cases hr;have hv:a.eval x= .slice none 0 0:=hx.1;have hfr:=(hf base (by simp [pE]) (aQF _)).2;refine qD.value (v:= .slice none 0 0) (by rw[hrun,hv]) (qW.row (v:= .slice none 0 0) (xs:=[]) hH rfl (World.ownsRow_nil w 0 _ _) rfl (fun m _=>hfr m) (fun u hu=>by rw[hfr] at hu;cases hu) (.inl ⟨rfl,rfl,rfl,aQF _,fun _ _ _=>rfl⟩) (fun _ _ _=>rfl) (fun b hb=>by cases hb) (fun b hb=>by cases hb) ⟨⟨by simp [Gh.tok],.inl ⟨rfl,rfl⟩⟩,trivial⟩)
 ·cases hr;have hv:a.eval x= .slice none 0 0:=hx.1;refine qD.value (v:= .slice none 0 0) (by rw[hrun,hv]) (qW.nilTok hH rfl (hf base (by simp [pE]) (aQF _)).2)
 ·cases hr
 ·cases hr;exact qD.value hrun (.pure hH hx)
theorem aG6 {u:Ty}{y:List u.den}{k:Option Nat}{v:Value}{cs:List Value}(h:C8 g (.list u) y v k) (hc:cs=[v]):F1 g (.list u) y cs (w5 k 0):=by
 intro q kk hm;cases k with
 |none=>simp [w5] at hm
 |some k=>
  simp only[w5,aQx,aQQ] at hm;obtain⟨rfl,rfl⟩:=hm;exact⟨u,y,v,by unfold pX;simp [sU],by rw[hc];rfl,h⟩
omit hT hH in
theorem KP {α:Type}: ∀(l m n:List α),pO (pO l m) n=pO l (pO m n)
 |[],_,_=>rfl
 |x::l,m,n=>by simp only[pO,KP l m n]
omit hT hH in
theorem D1 {i:Nat}: ∀{l m:List (Nat×p9)},i∈pE (pO l m)↔i∈pE l\/i∈pE m
 |[],m=>by simp [pO,pE]
 |(k,b)::l,m=>by simp only[pO,pE,aQC,D1 (l:=l),or_assoc]
omit hT hH in
theorem qW.trans {H:r5}{e1 e2:pJ}{g1 g2:Gh}{w1 w2:World}{v1 v2:Value}{side:List Prop}{rds:List Nat}(h:qW g w H e1 g1 w1 v1) (k:qW g1 w1 (pO e1.upd H) e2 g2 w2 v2):qW g w H ⟨side,e2.slot,pO e2.upd e1.upd,rds⟩ g2 w2 v2:=by
 have hB: ∀b o,rY g1 (pO e1.upd H) (pE e2.upd) b o->w.heap.size<=b\/rY g H (pE (pO e2.upd e1.upd)) b o:=by
  rintro b o ⟨i,blk,hi,hg,ho⟩;by_cases h1:i∈pE e1.upd
  ·refine(h.perm i blk b o h1 hg ho).imp id fun⟨j,bj,hj,q⟩=>⟨j,bj,D1.2 (.inr hj),q⟩
  ·exact .inr ⟨i,blk,D1.2 (.inl hi),(BN h1).symm.trans hg,(yD (h.gho i h1).1 (h.gho i h1).2).1 ho⟩
 have mono: ∀b o,rY g H (pE e1.upd) b o->rY g H (pE (pO e2.upd e1.upd)) b o:=fun b o ⟨j,bj,hj,q⟩=>⟨j,bj,D1.2 (.inr hj),q⟩;refine⟨h.le.trans k.le,k.slot,by simp only[KP];exact k.heap,?_,fun i blk b o hi hg ho=> ?_,fun i hi=> ?_,fun i u y us hg=> ?_⟩
 ·have h1:Fr (rY g H (pE (pO e2.upd e1.upd))) w w1 g.S g1.S:=⟨h.fr.os,h.fr.tape,h.fr.output,h.fr.size,fun b hb hn=>h.fr.blk b hb (fun o ho=>hn o (mono b o ho)),fun b o hb hn=>h.fr.cell b o hb (fun ho=>hn (mono b o ho)),fun b o hs=>(h.fr.new b o hs).imp id (Or.imp id (mono b o)),fun b s hs=>(h.fr.shape b s hs).imp id fun h o=>mono b o (h o)⟩;exact h1.trans k.fr hB
 ·simp only[KP] at hg;by_cases h2:i∈pE e2.upd
  ·rcases k.perm i blk b o h2 hg ho with h3|h3
   ·exact .inl (aRj h.fr.size h3)
   ·exact hB b o h3
  ·have hi1:i∈pE e1.upd:=(D1.1 hi).resolve_left h2;rw[BN h2] at hg;exact(h.perm i blk b o hi1 hg ((yD (k.gho i h2).1 (k.gho i h2).2).1 ho)).imp id (mono b o)
 ·have h2:i∉pE e2.upd:=fun q=>hi (D1.2 (.inl q));have h1:i∉pE e1.upd:=fun q=>hi (D1.2 (.inr q));exact⟨(k.gho i h2).1.trans (h.gho i h1).1,(k.gho i h2).2.trans (h.gho i h1).2⟩
 ·simp only[KP] at hg;rcases k.ty i u y us hg with⟨x,ts,h3⟩ |⟨h3,h4⟩
  ·exact h.ty i u x ts h3
  ·right;refine⟨?_,fun n=> ?_⟩
   ·cases hj:g.J i with
    |none=>rfl
    |some p=>rw[h.le.J i p hj] at h3;cases h3
   ·cases hj:g.cur i n with
    |none=>rfl
    |some p=>rw[<-h4 n,h.le.cur i n p hj]
omit hT hH in
theorem qW.congrH {H H':r5}{e:pJ}{g':Gh}{w':World}{v:Value}(h:qW g w H e g' w' v) (hH:H=H'):qW g w H' e g' w' v:=hH▸h
omit hT hH in
theorem XT {w:World}: ∀(ls:List (Nat×TypeId×Nat)) (i:Nat) (g:Gh) (H:r5),rK g w H->(∀j,i<=j->j<i+ls.length->∀n,g.cur j n=none)->
  ∃g1,qW g w H ⟨[],(.any,none),CT ls i,[]⟩ g1 w undef/\g1.J=g.J/\(∀o k,(o,k)∈BK ls i->g1.cur k 0=some (.slice none 0 0))/\(∀k,k<i->g1.cur k=g.cur k)
 |[],i,g,H,hH,_=>⟨g,.pure hH ⟨trivial,trivial⟩,rfl,fun _ _ h=>by simp [BK] at h,fun _ _=>rfl⟩
 |(o,e,c)::r,i,g,H,hH,hf=>by
  have e1:=qW.nilTok (side:=[]) (d:= .val (.list .bool) []) (rds:=[]) (base:=i) (e:=e) (c:=c) (u:= .bool) hH rfl (hf i (aQF _) (by simp));have hc1: ∀k n,k≠i->(g.tok i 0 (.slice none 0 0)).cur k n=g.cur k n:=fun k n hk=>by
   show (if k=i/\n=0 then _ else _)=_;rw[aQl (fun h=>hk h.1)]
  obtain⟨g1,k1,k2,k3,k4⟩:=XT r (i+1) (g.tok i 0 (.slice none 0 0)) (pO [(i,p9.grow e c 0)] H) e1.heap (fun j h1 h2 n=>by rw[hc1 j n (by omega)];exact hf j (by omega) (by simp only[aQp];omega) n);refine⟨g1,e1.trans k1,k2.trans rfl,fun o' k hm=> ?_,fun k hk=> ?_⟩
  ·simp only[BK,aQC,aQQ] at hm;rcases hm with⟨rfl,rfl⟩ |hm
   ·rw[k4 _ (by omega)];show (if k=k/\0=0 then _ else _)=_;simp
   ·exact k3 o' k hm
  ·rw[k4 k (by omega)];funext n;exact hc1 k n (by omega)
omit hT hH in
theorem XU: ∀{ls:List (Nat×TypeId×Nat)}{i o k:Nat},(o,k)∈BK ls i->∃q∈ls,q.1=o
 |[],_,_,_,h=>by simp [BK] at h
 |(o',e,c)::r,i,o,k,h=>by
  simp only[BK,aQC,aQQ] at h;rcases h with⟨h1,_⟩ |h
  ·exact⟨(o',e,c),by simp,h1.symm⟩
  ·obtain⟨q,h1,h2⟩:=XU h;exact⟨q,by simp [h1],h2⟩
omit hT hH in
theorem XV {t:Ty}: ∀{ls:List (Nat×TypeId×Nat)},DS t ls=true->∀q∈ls,DR t q.1=true
 |[],_,_,h=>by cases h
 |(o,e,c)::r,h,q,hq=>by
  simp only[DS,aQr] at h;rcases aQC.1 hq with rfl|hq
  ·exact h.1
  ·exact XV h.2 q hq
omit hT hH in
theorem NO: ∀(ls:List (Nat×TypeId×Nat)) (i j:Nat),j∈pE (CT ls i)↔i<=j/\j<i+ls.length
 |[],i,j=>by simp only[CT,pE,aSh,aQG,false_iff];omega
 |(o,e,c)::r,i,j=>by
  simp only[CT,D1,NO r (i+1) j,pE,aQx,aQp];omega
omit hT hH in
theorem a8a {w:World}: ∀(R:List (Nat×Nat×Ty)) (i:Nat) (g:Gh) (H:r5),rK g w H->(∀j,i<=j->j<i+R.length->∀n,g.cur j n=none)->
  ∃g1,qW g w H ⟨[],(.any,none),IA R i,[]⟩ g1 w undef/\g1.J=g.J/\(∀j,j<R.length->g1.cur (i+j) 0=some (.slice none 0 0))/\(∀k,k<i->g1.cur k=g.cur k)
 |[],i,g,H,hH,_=>⟨g,.pure hH ⟨trivial,trivial⟩,rfl,fun _ h=>by simp at h,fun _ _=>rfl⟩
 |(o,e,u)::r,i,g,H,hH,hf=>by
  have hfr:=hf i (aQF _) (by simp);have e1:=qW.row (side:=[]) (rds:=[]) (k:=i) (e:=e) (t:=u) (l:=[]) (n:=0) (s:=(.any,none)) (val:=undef) (v:= .slice none 0 0) (xs:=[]) hH rfl (World.ownsRow_nil w 0 _ _) rfl (fun m _=>hfr m) (fun u hu=>by rw[hfr] at hu;cases hu) (.inl ⟨rfl,rfl,rfl,aQF _,fun _ _ _=>rfl⟩) (fun _ _ _=>rfl) (fun b hb=>by cases hb) (fun b hb=>by cases hb) ⟨trivial,trivial⟩;have hc1: ∀k n,k≠i->(g.tok i 0 (.slice none 0 0)).cur k n=g.cur k n:=fun k n hk=>by
   show (if k=i/\n=0 then _ else _)=_;rw[aQl (fun h=>hk h.1)]
  obtain⟨g1,k1,k2,k3,k4⟩:=a8a r (i+1) (g.tok i 0 (.slice none 0 0)) (pO [(i,p9.row e u [] 0)] H) e1.heap (fun j h1 h2 n=>by rw[hc1 j n (by omega)];exact hf j (by omega) (by simp only[aQp];omega) n);refine⟨g1,e1.trans k1,k2.trans rfl,fun j hj=> ?_,fun k hk=> ?_⟩
  ·cases j with
   |zero=>
    rw[aRW,k4 _ (by omega)];show (if i=i/\0=0 then _ else _)=_;simp
   |succ j=>
    have:=k3 j (by simpa using hj);rwa [show i+1+j=i+(j+1) by omega] at this
  ·rw[k4 k (by omega)];funext n;exact hc1 k n (by omega)
omit hT hH in
theorem a8b: ∀(R:List (Nat×Nat×Ty)) (i j:Nat),j∈pE (IA R i)↔i<=j/\j<i+R.length
 |[],i,j=>by simp only[IA,pE,aSh,aQG,false_iff];omega
 |(o,e,c)::r,i,j=>by
  simp only[IA,D1,a8b r (i+1) j,pE,aQx,aQp];omega
omit hT hH in
theorem XW {α:Type}: ∀l:List α,N0 l=l.length
 |[]=>rfl
 |_::l=>by simp only[N0,XW l,aQp]
omit hT hH in
theorem NP {α:Type}{x:α}: ∀{l m:List α},x∈pO l m↔x∈l\/x∈m
 |[],m=>by simp [pO]
 |y::l,m=>by simp only[pO,aQC,NP (l:=l),or_assoc]
omit hT hH in
theorem aG7 {g:Gh}{w:World}: ∀{t:Ty}{x:t.den}{cs:List Value}{o:Nat},Rd g w t x cs->∀q∈DT t x o,o<=q.1/\cs[q.1-o]? =some (.slice none 0 0):=by
 intro t
 induction t with
 |pair a b iha ihb=>
  intro x cs o r q hq;obtain⟨c1,c2,rfl,r1,r2⟩:=r;simp only[DT,NP] at hq;have hl:=rS r1;rcases hq with hq|hq
  ·obtain⟨h1,h2⟩:=iha r1 q hq;exact⟨h1,by rw[aQE (aQA.1 h2).1];exact h2⟩
  ·obtain⟨h1,h2⟩:=ihb r2 q hq;refine⟨by omega,?_⟩;rw[aQv (by omega),hl,show q.1-o-a.cells=q.1- (o+a.cells) by omega];exact h2
 |rl e u=>
  intro x cs o r q hq;cases x with
  |none=>
   simp only[DT,WI,aQx] at hq;subst hq;refine⟨aQF _,?_⟩;rw[show cs=[.slice none 0 0] from r];simp
  |some z=>simp [DT,WI] at hq
 |_=>intro x cs o r q hq;simp [DT] at hq
omit hT hH in
theorem aG8 {g:Gh}{w:World}: ∀{t:Ty}{x:t.den}{cs:List Value}{o:Nat},Rd g w t x cs->∀q∈EW t x o,o<=q/\cs[q-o]? =some (.pointer none):=by
 intro t
 induction t with
 |pair a b iha ihb=>
  intro x cs o r q hq;obtain⟨c1,c2,rfl,r1,r2⟩:=r;simp only[EW,NP] at hq;have hl:=rS r1;rcases hq with hq|hq
  ·obtain⟨h1,h2⟩:=iha r1 q hq;exact⟨h1,by rw[aQE (aQA.1 h2).1];exact h2⟩
  ·obtain⟨h1,h2⟩:=ihb r2 q hq;refine⟨by omega,?_⟩;rw[aQv (by omega),hl,show q-o-a.cells=q- (o+a.cells) by omega];exact h2
 |mref=>
  intro x cs o r q hq;cases x with
  |none=>
   simp only[EW,WJ,aQx] at hq;subst hq;refine⟨aQF _,?_⟩;rw[show cs=[.pointer none] from r];simp
  |some z=>simp [EW,WJ] at hq
 |_=>intro x cs o r q hq;simp [EW] at hq
omit hT hH in
theorem a8c {g:Gh}{w:World}{t u:Ty}{x z:t.den}{y:u.den}{cs:List Value}{o:Nat}{v:Value}(h:rO u y t x o=some z) (hy:Rd g w u y [v]) (hR:Rd g w t x cs) (hv:cs[o]? =some v):Rd g w t z cs:=by
 obtain⟨c1,c2,c3,rfl,rfl,h2,h3⟩:=RW hy hR h;have hu:=rS hy;simp only[aQ0] at hu;rw[<-hu] at h2;obtain⟨v',rfl⟩:=aRG.1 h2;have:(c1++[v']++c3)[c1.length]? =some v':=by simp
 rw[this] at hv;obtain rfl:=aQo hv;exact h3
omit hT hH in
theorem a8d {g:Gh}{w:World}{t:Ty}{cs:List Value}: ∀{R:List (Nat×Nat×Ty)}{i:Nat}{x z:t.den},I9 t i R (some x)=some z->Rd g w t x cs->(∀q∈R,cs[q.1]? =some (.slice none 0 0))->(∀j,j<R.length->g.cur (i+j) 0=some (.slice none 0 0))->Rd g w t z cs
 |[],i,x,z,h,hR,_,_=>by simp only[I9,aQk] at h;exact h▸hR
 |(o,e,u)::r,i,x,z,h,hR,hc,hg=>by
  simp only[I9] at h;cases hs:rO (.rl e u) (some (i,0)) t x o with
  |none=>rw[hs] at h;cases r<;>simp [I9] at h
  |some x'=>
   rw[hs] at h;refine a8d h (a8c (v:= .slice none 0 0) hs ⟨_,by simpa using hg 0 (by simp),rfl,.inl ⟨rfl,rfl⟩⟩ hR (hc _ aQH)) (fun q hq=>hc q (aQy _ hq)) (fun j hj=> ?_);have:=hg (j+1) (by simpa using hj);rwa [show i+(j+1)=i+1+j by omega] at this
omit hT hH in
theorem a8e {g:Gh}{w:World}{t:Ty}{cs:List Value}{i:Nat}{p:Pl}(hp:g.J i=some p) (hp2:p.2=0): ∀{M:List Nat}{x z:t.den},GC t i M (some x)=some z->Rd g w t x cs->(∀q∈M,cs[q]? =some (.pointer none)/\X8 p.3 q)->Rd g w t z cs
 |[],x,z,h,hR,_=>by simp only[GC,aQk] at h;exact h▸hR
 |q::r,x,z,h,hR,hc=>by
  simp only[GC] at h;cases hs:rO .mref (some (i,q)) t x q with
  |none=>rw[hs] at h;cases r<;>simp [GC] at h
  |some x'=>
   rw[hs] at h;exact a8e hp hp2 h (a8c (v:= .pointer none) hs ⟨p,hp,by rw[hp2,aQV];exact(hc _ aQH).2,.inl rfl⟩ hR (hc _ aQH).1) (fun q hq=>hc q (aQy _ hq))
omit hT in
theorem a8f {t:Ty}{y:t.den}{ls:List (Nat×TypeId×Nat)}{base:Nat}{e:pJ}{cs:List Value}{el:TypeId}(hr:QW base el t y ls (DS t ls)=some e) (hf:z7 g base e) (hR:Rd g w t y cs) (hn:ls≠[]->wB t cs):
  ∃g',qW g w H e g' (w.alloc (.cells cs.toArray el)) (.pointer (some ⟨w.heap.size,0,none⟩)):=by
 cases hl:DS t ls with
 |false=>rw[hl] at hr;cases hr
 |true=>
  rw[hl] at hr;simp only[QW,XW] at hr;have cR:=fun q hq=>aG7 (o:=0) hR q hq;have cM: ∀q∈QV el t y,cs[q]? =some (.pointer none)/\X8 (some (el,cs.length)) q:=by
   intro q hq;unfold QV at hq;split at hq
   ·rename_i hb;have h0:=fun q hq=>aG8 (o:=0) hR q hq;have hl:=rS hR;generalize EW t y 0=M at hq h0;rw[<-hl] at hq;unfold a7k at hq;split at hq
    ·rename_i h2;simp only[aQx] at hq;subst hq;exact⟨by simpa using(h0 0 (by simp)).2,rfl,el,hb,by rw[h2]⟩
    ·cases hq
   ·cases hq
  generalize DT t y 0=R at hr cR;generalize QV el t y=M at hr cM;cases hz1:I9 t (base+1+ls.length) R (some y) with
  |none=>
   rw[hz1] at hr;have:GC t base M none=none:=by cases M<;>rfl
   rw[this] at hr;cases hr
  |some z1=>
   rw[hz1] at hr;cases hz2:GC t base M (some z1) with
   |none=>rw[hz2] at hr;cases hr
   |some z=>
    rw[hz2] at hr;simp only[a7l,XW] at hr;obtain rfl:=(aQo hr);have hfr: ∀j,base+1<=j->j<base+1+ls.length+R.length->g.J j=none/\∀n,g.cur j n=none:=fun j h1 h2=>hf j (by
     simp only[pE,aQC];right;rw[D1];by_cases h3:j<base+1+ls.length
     ·exact .inr ((NO ls (base+1) j).2 ⟨h1,h3⟩)
     ·exact .inl ((a8b R (base+1+ls.length) j).2 ⟨by omega,h2⟩)) (by omega)
    have hf0:=hf base (by simp [pE]) (aQF _);obtain⟨g1,k1,k2,k3,k4⟩:=XT ls (base+1) g H hH (fun j h1 h2=>(hfr j h1 (by omega)).2);have hfr1: ∀j,base+1+ls.length<=j->j<base+1+ls.length+R.length->∀n,g1.cur j n=none:=by
     intro j h1 h2 n;have:=(k1.gho j (by simp only;rw[NO];omega)).2;rw[this];exact(hfr j (by omega) h2).2 n
    obtain⟨g2,m1,m2,m3,m4⟩:=a8a R (base+1+ls.length) g1 _ k1.heap hfr1;have hJ:(g2.var base w.heap.size (some (el,cs.length))).J base=some ⟨w.heap.size,0,some (el,cs.length)⟩:=by simp [Gh.var]
    have hle:Le g w (g2.var base w.heap.size (some (el,cs.length))) w:=by
     refine((k1.le.trans m1.le).trans ⟨fun _ _ h=>h,fun _ _ _=>rfl,fun i p h=> ?_,fun _ _ _ h=>h⟩);show (if i=base then _ else _)=_;rw[aQl (fun e1=>by rw[e1,m2,k2,hf0.1] at h;cases h)];exact h
    have hRz:Rd (g2.var base w.heap.size (some (el,cs.length))) w t z cs:=a8e hJ rfl hz2 (a8d hz1 (wC hle hR) (fun q hq=>by simpa using(cR q hq).2) (fun j hj=>m3 j hj)) cM;have htk:F1 g2 t z cs (BK ls (base+1)):=by
     intro o k hm;obtain⟨q,hq,rfl⟩:=XU hm;obtain⟨u,h1,h2⟩:=a7U (hn (fun e=>by rw[e] at hq;cases hq)) hRz (XV hl q hq);exact⟨u,[],_,h1,h2,m1.le.cur _ _ _ (k3 _ _ hm)⟩
    have e3:=qW.newVarJ (side:=[]) (rds:=[]) (base:=base) (toks:=BK ls (base+1)) (e:=el) m1.heap hRz htk (by rw[m2,k2];exact hf0.1) (by rw[m4 base (by omega),k4 base (by omega)];exact funext hf0.2);have e4:=qW.trans (side:=[]) (rds:=[]) k1 m1;exact⟨_,qW.trans (side:=[]) (rds:=[]) e4 (e3.congrH (H':=pO (pO (IA R (base+1+ls.length)) (CT ls (base+1))) H) (by simp only[KP]))⟩
theorem XX {t:Ty}{y:t.den}{k:Option Nat}{v:Value}(h:qJ g w (.val t y,k) v):s9 g w t y v/\C8 g t y v k:=by
 refine⟨h.1,?_⟩;cases k with
 |none=>trivial
 |some k=>exact h.2
theorem aG9 {t:TypeId}{x:Operand}(ho:o.op= .box t x) {sx:pA}(hx:qJ g w sx (a.eval x)) {base:Nat}{e:pJ}(hr:WL base t (qQ T t) sx=some e) (hf:z7 g base e):qD P o a g w H e:=by
 generalize hst:qQ T t=ot at hr;have hrun:(execOp a.eval o).run P w= .ok (.value (.pointer (some ⟨w.heap.size,0,none⟩))) (w.alloc (.cells (a.eval x).cells.toList.toArray t)):=by
  unfold execOp;rw[ho];simp only[Instr.box,Go.newVar,newRow,aQB,run_newObj,aQu,aQN,aRS];rfl
 have one: ∀{u:Ty}{y:u.den},s9 g w u y (a.eval x)->u.isRow=false->(a.eval x).cells.toList=[a.eval x]:=fun hv hrow=>by
  have h1:=AP (BO hrow hv) _ (aQx.2 rfl);cases h:a.eval x<;>first|rfl|(rw[h] at h1;simp [Value.oneCell'] at h1)
 unfold WL at hr;split at hr
 ·rename_i ti u y k;split at hr
  ·obtain⟨hv,hk⟩:=XX hT hH hx;have hR:=DY hv;unfold a7m at hr;split at hr
   ·rename_i a' b' y' k' _;have hn:wB (.pair a' b') (a.eval x).cells.toList:=hk;obtain⟨g',h⟩:=a8f (el:=t) hH hr hf hR (fun _=>hn);exact qD.value hrun h
   ·rename_i u' y' k';cases hr;have hfr:=hf base (by simp [pE]) (aQF _);exact qD.value hrun (qW.newVar hH hR (aG6 hT hH hk (one hv rfl)) hfr.1 (funext hfr.2))
   ·cases hr;have hfr:=hf base (by simp [pE]) (aQF _);exact qD.value hrun (qW.newVar hH hR (fun q k hm=>by cases hm) hfr.1 (funext hfr.2))
  ·cases hr
 ·cases hr
theorem aHa {t:TypeId}(ho:o.op= .alloc t) {base:Nat}{e:pJ}(hr:WK base t (qQ T t)=some e) (hf:z7 g base e):qD P o a g w H e:=by
 generalize hst:qQ T t=ot at hr;have run: ∀ti,qQ T t=some ti->(execOp a.eval o).run P w= .ok (.value (.pointer (some ⟨w.heap.size,0,none⟩))) (w.alloc (.cells (sL ti.ty).toArray t)):=by
  intro ti hti;obtain⟨i,hi,hsz,hz⟩:=F3 (s5 hT hti);have hc:(vS ti.ty).cells=(sL ti.ty).toArray:=by
   have:=DY (NJ g w ti.ty);unfold vS;cases h:ti.ty<;>simp [Ty.isRow,sL,Value.cells]
  unfold execOp;rw[ho];simp only[Instr.alloc,zeroValue,typeInfo,Go.newVar,newRow,aQB,aRp,hi,hz,hc,run_newObj,aQu,aQN];rfl
 unfold WK at hr;split at hr
 ·rename_i u el by' ar ls_;cases hr;have hf0:=hf base (by simp [pE]) (aQF _);have hf1:=hf (base+1) (by simp [pE]) (by omega);have hty:=s5 hT hst;have e1:=qW.nilTok (side:=[]) (d:= .val (.list u) []) (rds:=[]) (base:=base+1) (e:=el) (c:=u.cells) (u:=u) hH rfl hf1.2;have hH1:=e1.heap;have htk:F1 (g.tok (base+1) 0 (.slice none 0 0)) (.list u) [] [.slice none 0 0] [(0,base+1)]:=by
   intro q kk hm;simp only[aQx,aQQ] at hm;obtain⟨rfl,rfl⟩:=hm;exact⟨u,[],.slice none 0 0,by unfold pX;simp [sU],rfl,by simp [Gh.tok]⟩
  have e2:=qW.newVar (side:=[]) (rds:=[]) (base:=base) (toks:=[(0,base+1)]) (e:=t) hH1 (CZ (g.tok (base+1) 0 (.slice none 0 0)) w (.list u)) htk hf0.1 (by
   funext n;show (if base=base+1/\n=0 then _ else _)=_;rw[aQl (by omega)];exact hf0.2 n)
  exact qD.value (run _ hst) (qW.trans (side:=[]) (rds:=[]) e1 e2)
 ·rename_i ti hno;obtain⟨g',h⟩:=a8f (el:=t) hH hr hf (CZ g w ti.ty) (fun _=>S1 _);exact qD.value (run _ hst) h
 ·cases hr
omit hT hH in
theorem aHb {t:Ty}{y:t.den}{k:Option Nat}{v:Value}(h:C8 g t y v k):C8 g t y v (ES t k):=by
 cases t with
 |list u=>exact h
 |_=>trivial
omit hT hH in
theorem a8g {off:Nat}: ∀{l:List (Nat×Nat)}{o k:Nat},(o,k)∈KA off l->∃q,o=off+q/\(q,k)∈l
 |[],_,_,h=>by cases h
 |(q,k')::r,o,k,h=>by
  simp only[KA,aQC,aQQ] at h;rcases h with⟨rfl,rfl⟩ |h
  ·exact⟨q,rfl,aQH⟩
  ·obtain⟨q',h1,h2⟩:=a8g h;exact⟨q',h1,aQy _ h2⟩
omit hT hH in
theorem a8h {v t:Ty}{y:t.den}: ∀{u:Ty}{x z:u.den}{o q:Nat}{l:(Ty.list v).den},rO t y u x o=some z->pX (.list v) t y q=some l->q<t.cells->pX (.list v) u z (o+q)=some l:=by
 intro u
 induction u with
 |pair a b iha ihb=>
  intro x z o q l h g hq;by_cases hu:o=0/\t= .pair a b
  ·obtain⟨rfl,rfl⟩:=hu;unfold rO at h;rw[aSw rfl] at h;simp only[sU,aQk] at h;subst h;simpa using g
  ·have keyh:(if o<a.cells then(rO t y a x.1 o).map (fun q=>(q,x.2)) else(rO t y b x.2 (o-a.cells)).map (fun q=>(x.1,q)))=some z:=by
    cases o with
    |zero=>
     unfold rO at h;rw[aR6 (fun e=>hu ⟨rfl,e⟩)] at h;simpa using h
    |succ o=>simpa[rO] using h
   have keyg: ∀m,pX (.list v) (.pair a b) z m=(if m<a.cells then pX (.list v) a z.1 m else pX (.list v) b z.2 (m-a.cells)):=by
    intro m;cases m with
    |zero=>
     conv=>lhs;unfold pX
     rw[aR6 (by intro e;cases e),Nat.zero_sub]
    |succ m=>simp [pX]
   rw[keyg];by_cases ho:o<a.cells
   ·rw[aQj ho] at keyh;obtain⟨z',hz',rfl⟩:=aQz.1 keyh;have hfit:o+t.cells<=a.cells:=by
     have: ∀{u:Ty}{x z:u.den}{o:Nat},rO t y u x o=some z->o+t.cells<=u.cells:=by
      intro u
      induction u with
      |pair a b iha ihb=>
       intro x z o h;have key: ∀o,(if o<a.cells then(rO t y a x.1 o).map (fun q=>(q,x.2)) else(rO t y b x.2 (o-a.cells)).map (fun q=>(x.1,q)))=some z->o+t.cells<=a.cells+b.cells:=by
        intro o h;by_cases ho:o<a.cells
        ·rw[aQj ho] at h;obtain⟨z',hz',_⟩:=aQz.1 h;have:=iha hz';omega
        ·rw[aQl ho] at h;obtain⟨z',hz',_⟩:=aQz.1 h;have:=ihb hz';omega
       cases o with
       |zero=>
        unfold rO at h;split at h
        ·rename_i e;subst e;simp
        ·exact key 0 (by simpa using h)
       |succ o=>exact key (o+1) (by simpa[rO] using h)
      |_=>
       intro x z o h;cases o with
       |zero=>
        unfold rO at h;split at h
        ·rename_i e;subst e;simp
        ·simp at h
       |succ o=>simp [rO] at h
     exact this hz'
    rw[aQj (by omega)];exact iha hz' g hq
   ·rw[aQl ho] at keyh;obtain⟨z',hz',rfl⟩:=aQz.1 keyh;rw[aQl (by omega),show o+q-a.cells=o-a.cells+q from by omega];exact ihb hz' g hq
 |_=>
  intro x z o q l h g hq;cases o with
  |zero=>
   unfold rO at h;split at h
   ·rename_i e;subst e;simp only[sU,aQk] at h
    try subst h
    simpa using g
   ·simp at h
  |succ o=>simp [rO] at h
omit hT hH in
theorem a8i {v:Ty}: ∀{t:Ty}{x:t.den}{q:Nat}{l:(Ty.list v).den},pX (.list v) t x q=some l->q<t.cells:=by
 intro t
 induction t with
 |pair s t ihs iht=>
  intro x q l g;have key: ∀q,(if q<s.cells then pX (.list v) s x.1 q else pX (.list v) t x.2 (q-s.cells))=some l->q<s.cells+t.cells:=by
   intro q g;by_cases h:q<s.cells
   ·omega
   ·rw[aQl h] at g;have:=iht g;omega
  cases q with
  |zero=>
   unfold pX at g;rw[aR6 (by intro e;cases e)] at g;exact key 0 (by simpa using g)
  |succ q=>exact key (q+1) (by simpa[pX] using g)
 |unit=>
  intro x q l g;cases q with
  |zero=>unfold pX at g;rw[aR6 (by intro e;cases e)] at g;cases g
  |succ q=>simp [pX] at g
 |_=>
  intro x q l g;cases q with
  |zero=>simp [Ty.cells]
  |succ q=>simp [pX] at g
omit hT in
theorem qW.retok {i:Nat}{u:Ty}{z:u.den}{toks nt:List (Nat×Nat)}{p:Pl}(hb:pC H i=some (.cells u z toks)) (hp:g.J i=some p)
  (hn: ∀cs,Rd g w u z cs->w.rangeAt p.1 p.2 cs->F1 g u z cs nt):qW g w H ⟨[],(.any,none),[(i,.cells u z (pO nt toks))],[]⟩ g w undef:=by
 obtain⟨p',cs,hp',hR,hra,hth,hns,htk⟩:=hH.blk i _ hb;rw[hp] at hp';obtain rfl:=aQo hp';have get: ∀j blk,j∈pE [(i,p9.cells u z (pO nt toks))]->pC (pO [(i,p9.cells u z (pO nt toks))] H) j=some blk->j=i/\blk= .cells u z (pO nt toks):=by
  intro j blk hi hg;simp only[pE,aQx] at hi;subst hi;simp only[pO,pC,aRZ,aQk] at hg;exact⟨rfl,hg.symm⟩
 have perm: ∀j blk b o,j∈pE [(i,p9.cells u z (pO nt toks))]->pC (pO [(i,p9.cells u z (pO nt toks))] H) j=some blk->r7 g j blk b o->w.heap.size<=b\/rY g H (pE [(i,p9.cells u z (pO nt toks))]) b o:=by
  intro j blk b o hi hg ho;obtain⟨rfl,rfl⟩:=get j blk hi hg;exact .inr ⟨j,_,hi,hb,ho⟩
 have le:Le g w g w:=⟨fun _ _ h=>h,fun _ _ _=>rfl,fun _ _ h=>h,fun _ _ _ h=>h⟩;have fr:Fr (rY g H (pE [(i,p9.cells u z (pO nt toks))])) w w g.S g.S:=⟨rfl,rfl,rfl,aQF _,fun _ _ _=>rfl,fun _ _ _ _=>⟨rfl,rfl⟩,fun _ _ h=> .inl h,fun _ _ h=> .inl h⟩;refine⟨le,⟨trivial,trivial⟩,hH.upd le fr perm (fun _ _=>⟨rfl,rfl⟩) (fun j blk hi hg=> ?_) (fun i j bi bj b o hi hj hij hgi hgj _ _=>hij ((get i bi hi hgi).1.trans (get j bj hj hgj).1.symm)) (fun b o h=>hH.sl b o h),fr,perm,fun _ _=>⟨rfl,rfl⟩,fun j u' y' us h=> ?_⟩
 ·obtain⟨rfl,rfl⟩:=get j blk hi hg;refine⟨p,cs,hp,hR,hra,hth,hns,fun q kk hm=> ?_⟩;rcases(NP.1 hm) with hm|hm
  ·exact hn cs hR hra q kk hm
  ·exact htk q kk hm
 ·simp only[pO,pC] at h;split at h
  ·rename_i e1;subst e1;simp only[aQk,p9.cells.injEq] at h;obtain⟨rfl,_⟩:=h;exact .inl ⟨z,toks,hb⟩
  ·exact .inl ⟨y',us,h⟩
omit hT hH in
theorem aHc {g:Gh}{t a b:Ty}{y:t.den}{v:Value}{k:Option Nat}(h:k.isSome=true) (ht:t= .pair a b) (hk:C8 g t y v k):wB t v.cells.toList:=by
 subst ht;cases k with
 |none=>cases h
 |some k=>exact hk
omit hT hH in
theorem aHd {base i off:Nat}{b:Option p9}{ls:List (Nat×TypeId×Nat)}{t:Ty}{y:t.den}{k:Option Nat}{e:pJ}(h:R3 base i off b ls t y k=some e):
  (∃(s:Ty) (x:s.den) (toks:List (Nat×Nat)) (z:s.den),b=some (.cells s x toks)/\rO t y s x off=some z/\k.isSome=true/\(∃a c,t= .pair a c)/\DS t ls=true/\
   e=⟨[],(.any,none),(i,.cells s z (pO (KA off (BK ls base)) (tX toks off t.cells)))::pO (CT ls base) [(i,.cells s z (tX toks off t.cells))],[i]⟩)\/R1 t y k i off b=some e:=by
 unfold R3 at h;split at h
 ·rename_i q r a c y' k';cases hok:DS (.pair a c) (q::r) with
  |false=>rw[hok] at h;unfold R2 at h;split at h<;>first|cases h|(rename_i h2;cases h2)
  |true=>
   rw[hok] at h;unfold R2 at h;split at h
   ·rename_i s x toks _;cases hset:rO (.pair a c) y' s x off with
    |none=>rw[hset] at h;cases h
    |some z=>
     rw[hset] at h;exact .inl ⟨s,x,toks,z,rfl,hset,rfl,⟨a,c,rfl⟩,rfl,(aQo h).symm⟩
   ·cases h
 ·exact .inr h
theorem aHe {t:TypeId}{x y:Operand}(ho:o.op= .store t x y) {sx sy:pA}(hx:qJ g w sx (a.eval x)) (hy:qJ g w sy (a.eval y)) {base:Nat}{e:pJ}(hr:R5 base H (qQ T t) sx sy=some e) (hside: ∀p∈e.side,p) (hf:z7 g base e):qD P o a g w H e:=by
 generalize hst:qQ T t=ot at hr;unfold R5 at hr;split at hr
 ·rename_i ti i off k kk n k2;generalize hb:pC H i=ob at hr;unfold WQ at hr;split at hr
  ·rename_i u el _ _ _ v x' toks;generalize hset:rO (.rl el u) (some (kk,n)) v x' off=oz at hr;cases oz with
   |none=>cases hr
   |some z'=>
    cases hr;have hty:=s5 hT hst;obtain⟨p,hp,hv⟩:=zV hx.1;obtain⟨h1,h2⟩:=hy.1;have hR:Rd g w (.rl el u) (some (kk,n)) [a.eval y]:=⟨_,h1,rfl,h2⟩;obtain⟨heff,hth⟩:=qW.store (side:=[]) (rds:=[i]) (k:=none) (v:=a.eval y) hH hb hp hset hR trivial (fun _ _ _=>rfl) (fun _=>rfl);have hce:(a.eval y).cells= #[a.eval y]:=by rcases h2 with⟨h2,_⟩ |⟨_,_,h2,_⟩<;>(rw[h2];rfl)
    refine qD.skip (w':=w.setCells p.1 (p.2+off) [a.eval y]) ?_ heff;obtain⟨inf,hi,hsz,_⟩:=F3 hty;have hcells:=run_storeCells_cells (P:=P) p.1 (p.2+off) [a.eval y] 0 w (fun j hj=>by simpa using(hth j hj).1) (fun j hj=>by simpa using(hth j hj).2) (fun v hv=>AP hR v hv);simp only[aRW] at hcells;have hs2:(a.eval y).cells.size=inf.size:=by rw[hsz,hce];rfl
    have hcl:(a.eval y).cells.toList=[a.eval y]:=by rw[hce]
    simp only[execOp,ho,hv,Instr.storeAt,Instr.sureAddr,storeVar,aQB,aQN,aQu,sizeOf,typeInfo,aRp,hi,hs2,ne_eq,not_true_eq_false,aSx,hcl,hcells]
  ·cases hr
 ·rename_i ti k n c i o' _ u z kk;split at hr
  ·rename_i hu;subst hu;generalize hk:pC H k=ob at hr;unfold R4 at hr;split at hr
   ·rename_i e' t' l m;split at hr
    ·rename_i hc;generalize hset:rO ti.ty z t' (pZ t' l i) o'=oz at hr;cases oz with
     |none=>cases hr
     |some z'=>
      cases hr;have hnm:=hside _ (aQx.2 rfl);obtain⟨b,cap,xs,c1,c2,c3,hv,hcur,hown,hF,hl,hi,h0,e1,e2,e3,e4⟩:=a7Y hT hH hx.1 hk hnm hc;subst hnm;have hty:=s5 hT hst;obtain⟨hvy,hky⟩:=XX hT hH hy;have hR:=DY hvy;have hRl:=rS hR;obtain⟨d1,d2,d3,f1,f2,f3,f4⟩:=RW hR e4 hset;obtain⟨_,_,_,_,hv0,hown0,_,hnone,hseal⟩: ∃(_:True) (_:True) (v0:Value) (xs0:List Value),g.cur k n=some v0/\w.ownsRow 0 e' t'.cells v0 n xs0/\sC (Rd g w t') t'.cells l xs0/\(∀m,n<m->g.cur k m=none)/\∀b,v0.ownBlock=some b->∀o,¬g.S b o:=by
       obtain⟨_,v0,xs0,q1,q2,q3,q4,q5⟩:=hH.blk k _ hk;exact⟨trivial,trivial,v0,xs0,q1,q2,q3,q4,q5⟩
      rw[hcur] at hv0;obtain rfl:=aQo hv0;rcases hown.2 with⟨h5,_⟩ |⟨q,cap',cur,h5,_,hg,hnc,hcm,hcs,htake⟩
      ·cases h5
      simp only[aSs,aQk,Addr.mk.injEq,and_true,true_and] at h5;obtain⟨rfl,rfl⟩:=h5;have hxl:=hown.1;have hnew:=rS f4;simp only[aQm] at hnew;have hc2l:c2.length=t'.cells:=by rw[e3,hc]
      have hd:d1.length+d2.length+d3.length=t'.cells:=by rw[<-hc2l,f1];simp only[aQm]
      have hx1:c1.length+c2.length+c3.length=n*t'.cells:=by rw[<-hxl,e1];simp only[aQm]
      have hall:cur.toList=(c1++(d1++d2++d3)++c3)++cur.toList.drop (n*t'.cells):=by
       conv=>lhs;rw[<-aRy (n*t'.cells) cur.toList,htake,e1,f1]
      obtain⟨D,hD⟩: ∃D,D=cur.toList.drop (n*t'.cells):=⟨_,rfl⟩;rw[<-hD] at hall;have hall2:cur.toList=(c1++d1)++(d2++(d3++c3++D)):=by rw[hall];simp only[aQt]
      have hpos:i.toNat*c+o'=(c1++d1).length:=by rw[aQm,e2,f2]
      have hD2:(a.eval y).cells.toList.length=d2.length:=by rw[hRl,f3]
      have hfit:i.toNat*c+o'+0+(a.eval y).cells.toList.length<=cur.size:=by
       have:cur.size=cur.toList.length:=by simp
       rw[this,hall2,aRW,hpos,hD2];simp only[aQm];omega
      have hst2:=run_storeCells_at P b (i.toNat*c+o') e' (a.eval y).cells.toList 0 cur w hg hfit (fun v hv=>AP hR v hv);have hrow:cur.toList.take (i.toNat*c+o'+0)++(a.eval y).cells.toList++cur.toList.drop (i.toNat*c+o'+0+(a.eval y).cells.toList.length)=(c1++(d1++(a.eval y).cells.toList++d3)++c3)++D:=by
       rw[aRW,hpos,hD2,hall2,aRw,List.drop_append,List.drop_of_length_le (by omega),List.nil_append,aQ4,aRY];simp only[aQt]
      rw[hrow] at hst2;obtain⟨inf,hinf,hsz,_⟩:=F3 hty;have hs2:(a.eval y).cells.size=inf.size:=by rw[hsz,<-hRl,aQT]
      have hnewlen:((c1++(d1++(a.eval y).cells.toList++d3)++c3)++D).length=cur.size:=by
       have:cur.size=cur.toList.length:=by simp
       rw[this,hall];simp only[aQm];omega
      have hxs':(c1++(d1++(a.eval y).cells.toList++d3)++c3).length=n*t'.cells:=by
       rw[<-hx1];simp only[aQm];rw[f1];simp only[aQm];omega
      have hown':(w.setRow b ((c1++(d1++(a.eval y).cells.toList++d3)++c3)++D).toArray).ownsRow 0 e' t'.cells (.slice (some ⟨b,0,none⟩) n cap) n (c1++(d1++(a.eval y).cells.toList++d3)++c3):=
       ⟨hxs',.inr ⟨b,cap,_,rfl,aRc _,aSj w b cur _ e' _ hg,hnc,hcm,by rw[aRb,hnewlen,hcs],by rw[<-hxs'];exact aRw⟩⟩
      have hF':sC (Rd g w t') t'.cells (l.set i.toNat z') (c1++(d1++(a.eval y).cells.toList++d3)++c3):=by
       obtain⟨q1,q2,q3,r1,r2,r3,r4⟩:=XO hF f4 (rS f4) hi;have s1:q1=c1/\q2=c2/\q3=c3:=by
        have h6:q1++(q2++q3)=c1++(c2++c3):=by rw[<-aQt,<-r1,e1,aQt]
        obtain⟨h7,h8⟩:=aSq h6 (by rw[r2,e2,hc]);obtain⟨h9,h10⟩:=aSq h8 (by rw[r3,e3,hc]);exact⟨h7,h9,h10⟩
       obtain⟨rfl,rfl,rfl⟩:=s1;exact r4
      have hownk: ∀o,rY g H [k] b o:=fun o=>⟨k,_,by simp,hk,_,hcur,rfl⟩;refine qD.skip (w':=w.setRow b ((c1++(d1++(a.eval y).cells.toList++d3)++c3)++D).toArray) ?_ (qW.row (v:= .slice (some ⟨b,0,none⟩) n cap) hH (by rw[List.length_set];exact hl) hown' hF' hnone (fun u hu=>by rw[hcur] at hu;exact(aQo hu).symm)
       (.inr ⟨some b,⟨rfl,rfl,rfl,by simp,fun q _ hq=>aRU w b q _ (fun e=>hq (by rw[e]))⟩,fun b' hb' o=>by cases hb';exact hownk o⟩) (fun b' o hS=> ?_) hseal (fun b' hb'=>by cases hb';exact .inr hownk) ⟨trivial,trivial⟩)
      ·simp only[execOp,ho,hv,Instr.storeAt,Instr.sureAddr,storeVar,aQB,aQN,aQu,sizeOf,typeInfo,aRp,hinf,hs2,ne_eq,not_true_eq_false,aSx,hst2]
      ·have hne:b'≠b:=fun e=>hseal b rfl o (e▸hS);exact aQK (a:=⟨b',o,none⟩) (aRU w b b' _ hne)
    ·cases hr
   ·cases hr
  ·cases hr
 ·rename_i ti i off k u z kk;split at hr
  ·rename_i hu;subst hu;generalize hb:pC H i=ob at hr;have hty:=s5 hT hst;obtain⟨p,hp,hv⟩:=zV hx.1;obtain⟨hvy,hky⟩:=XX hT hH hy;have hR:=DY hvy;have hone:ti.ty.isRow=false->(a.eval y).cells.toList=[a.eval y]:=fun hrow=>by
    have h1:=AP (BO hrow hvy) _ (aQx.2 rfl);cases h:a.eval y<;>first|rfl|(rw[h] at h1;simp [Value.oneCell'] at h1)
   have hrun:w.there p.1 (p.2+off) (a.eval y).cells.toList.length->(execOp a.eval o).run P w= .ok .skip (w.setCells p.1 (p.2+off) (a.eval y).cells.toList):=by
    intro hth;obtain⟨inf,hi,hsz,_⟩:=F3 hty;have hlen:=rS hR;have hcells:=run_storeCells_cells (P:=P) p.1 (p.2+off) (a.eval y).cells.toList 0 w (fun j hj=>by simpa using(hth j hj).1) (fun j hj=>by simpa using(hth j hj).2) (fun v hv=>AP hR v hv);simp only[aRW] at hcells;have hs2:(a.eval y).cells.size=inf.size:=by rw[hsz,<-hlen,aQT]
    simp only[execOp,ho,hv,Instr.storeAt,Instr.sureAddr,storeVar,aQB,aQN,aQu,sizeOf,typeInfo,aRp,hi,hs2,ne_eq,not_true_eq_false,aSx,hcells]
   rcases aHd hr with⟨s,x',toks,z',hb',hset,hsome,⟨pa,pb,hpair⟩,hok,rfl⟩ |hr
   ·rw[hb'] at hb;have hn:wB ti.ty (a.eval y).cells.toList:=aHc hsome hpair hky;obtain⟨heff,hth⟩:=qW.store (side:=[]) (rds:=[i]) (k:=none) (v:=undef) hH hb hp hset hR trivial (fun _ _ _=>rfl) (fun h=>by rw[hpair] at h;cases h);have hfr: ∀j,base<=j->j<base+ti.ls.length->∀n,g.cur j n=none:=fun j h1 h2=>(hf j (by
     simp only[pE,aQC];right;rw[D1];exact .inl ((NO _ base j).2 ⟨h1,h2⟩)) h1).2
    obtain⟨g1,k1,k2,k3,k4⟩:=XT ti.ls base g _ heff.heap hfr;have e2:=qW.trans (side:=[]) (rds:=[]) heff k1;have hib:i<base:=by
     rcases aRV i base with h|h
     ·exact h
     ·have:=(hf i (by simp [pE]) h).1;rw[hp] at this;cases this
    have hiN:i∉pE (CT ti.ls base):=fun h=>by
     have:=(NO _ base i).1 h;omega
    have hb3:pC (pO (pO (CT ti.ls base) [(i,p9.cells s z' (tX toks off ti.ty.cells))]) H) i=some (.cells s z' (tX toks off ti.ty.cells)):=by
     rw[KP,BN hiN];simp [pO,pC]
    have hyl:=rS hR;have e3:=qW.retok (p:=p) (nt:=KA off (BK ti.ls base)) e2.heap hb3 (by rw[k2];exact hp) (fun cs hRz hra o k hm=>by
     obtain⟨q,rfl,hq⟩:=a8g hm;obtain⟨en,he,rfl⟩:=XU hq;obtain⟨u,h1,h2⟩:=a7U hn hR (XV hok en he);have hql:en.1<(a.eval y).cells.toList.length:=(aQA.1 h2).1;have h3:=a8h hset h1 (by omega);refine⟨u,[],.slice none 0 0,h3,?_,k3 _ _ hq⟩;have hlen:=rS hRz;have hlt:=a8i h3;have hc:cs[off+en.1]? =some cs[off+en.1]:=aQs (by omega);have hr1:=hra _ _ hc;have hr2:=aSo p.1 (a.eval y).cells.toList (p.2+off) w (fun j hj=>(hth j hj).1) en.1 hql;rw[aQ1] at hr2;rw[hr2] at hr1;rw[hc,<-hr1,<-h2,aQs hql])
    exact qD.skip (w':=w.setCells p.1 (p.2+off) (a.eval y).cells.toList) (hrun hth) (qW.trans (side:=[]) (rds:=[i]) e2 e3)
   ·unfold R1 at hr;split at hr
    ·rename_i s q toks _;generalize hset:rO ti.ty z s q off=oz at hr;cases oz with
     |none=>cases hr
     |some z'=>
      cases hr;obtain⟨heff,hth⟩:=qW.store (side:=[]) (rds:=[i]) hH hb hp hset hR (aHb hky) (fun a b e=>by rw[e];rfl) hone;exact qD.skip (w':=w.setCells p.1 (p.2+off) (a.eval y).cells.toList) (hrun hth) heff
    ·cases hr
  ·cases hr
 ·cases hr
theorem a8j {t:Ty}{n:Nat}{ev:Operand->Value}{ρ:Operand->pA}: ∀(ps:List (Nat×Operand)) (l z:List t.den) (cs:List Value),sC (Rd g w t) t.cells l cs->l.length=n->(∀q∈ps,qJ g w (ρ q.2) (ev q.2))->AK t n (some l) (sZ ρ ps)=some z->
  ∃cs',Instr.fill (fun i=>some (i*t.cells,t.cells)) cs.toArray (ps.map fun q=>(q.1,ev q.2))=some cs'.toArray/\sC (Rd g w t) t.cells z cs'/\z.length=n
 |[],l,z,cs,r,hl,_,h=>by
  simp only[sZ,AK,aQk] at h;subst h;exact⟨cs,rfl,r,hl⟩
 |(i,q)::ps,l,z,cs,r,hl,hq,h=>by
  have h0:=hq (i,q) (by simp);generalize hs:ρ q=s at h0;simp only[sZ,hs] at h;obtain⟨d,k⟩:=s;cases d with
  |val u y=>
   simp only[AK,a69] at h;by_cases hc:u=t/\i<n
   ·rw[aSw hc] at h;obtain⟨rfl,hi⟩:=hc;simp only[sU] at h;have hR:=DY h0.1;obtain⟨c1,c2,c3,rfl,h2,h3,h4⟩:=XO (i:=i) r hR (rS hR) (by omega);obtain⟨cs',k1,k2,k3⟩:=a8j ps (l.set i y) z _ h4 (by simpa using hl) (fun q hq'=>hq q (by simp [hq'])) h;refine⟨cs',?_,k2,k3⟩;simp only[aRt];rw[a7T rfl (by have:=rS hR;simpa using this) (c1:=c1) (c2:=c2) (c3:=c3) (by simp) h2 h3];exact k1
   ·rw[aR6 hc] at h;cases ps with
    |nil=>simp [sZ,AK] at h
    |cons p ps=>simp [sZ,AK] at h
  |_=>simp [AK] at h
theorem XY {t:TypeId}{n:Nat}{ps:Array (Nat×Operand)}(ho:o.op= .buildSlice t n ps) {ρ:Operand->pA}(hρ: ∀q∈ps.toList,qJ g w (ρ q.2) (a.eval q.2)) {u:Ty}{el:TypeId}{by':Nat}{ar:Bool}{ls:List (Nat×TypeId×Nat)}(hst:qQ T t=some ⟨.list u,el,by',ar,ls⟩) {l:List u.den}
  (hb:AK u n (some (C2 u n)) (sZ ρ ps.toList)=some l) (hn:n<=16777216/\n*u.cells<=16777216):
  ∃cs':List Value,sC (Rd g w u) u.cells l cs'/\l.length=n/\(execOp a.eval o).run P w= .ok (.value (.slice (some ⟨w.heap.size,0,none⟩) n n)) (w.alloc (.cells cs'.toArray el)):=by
    obtain⟨h2,h3,_⟩:=(s5 hT hst).2;obtain⟨ei,hei,hz⟩:=aQz.1 h3;simp only[aQQ] at hz;obtain⟨cs',k1,k2,k3⟩:=a8j hT hH ps.toList (C2 u n) l _ (a74 n) (a77 u n) hρ hb;refine⟨cs',k2,k3,?_⟩;have hzc:(vS u).cells=(sL u).toArray:=by
     unfold vS;cases h:u<;>simp [Ty.isRow,sL,Value.cells]
    have hmap:(ps.map fun(q:Nat×Operand)=>(q.1,a.eval q.2)).toList=ps.toList.map fun q=>(q.1,a.eval q.2):=by simp
    have hzl:(sL u).length=u.cells:=rS (CZ g w u);have hrow: ∀z:Array Value,(n*u.cells≠0->z=(sL u).toArray)->(Array.range (n*u.cells)).map (fun i=>z[i%z.size]!)=(List.flatten (List.replicate n (sL u))).toArray:=by
     intro z hz0;by_cases h0:n*u.cells=0
     ·rw[h0];have:List.flatten (List.replicate n (sL u))=[]:=aQS (by simp [hzl,h0]);rw[this];simp
     ·rw[hz0 h0];have hpos:0<u.cells:=Nat.pos_of_ne_zero (fun h=>h0 (by rw[h];simp));apply aRv.1;apply List.ext_getElem?;intro j;have key: ∀(m j:Nat),j<m*u.cells->(List.flatten (List.replicate m (sL u)))[j]? =(sL u)[j%u.cells]? :=by
       intro m
       induction m with
       |zero=>intro j h;simp at h
       |succ m ih=>
        intro j h;rw[List.replicate_succ,aRI];by_cases hj:j<u.cells
        ·rw[aQE (by omega),Nat.mod_eq_of_lt hj]
        ·rw[aQv (by omega),hzl,ih (j-u.cells) (by rw[aRn] at h;omega)];congr 1
         conv=>rhs;rw[<-Nat.sub_add_cancel (Nat.le_of_not_lt hj),Nat.add_mod_right]
      by_cases hj:j<n*u.cells
      ·have hm:j%u.cells<(sL u).length:=by rw[hzl];exact Nat.mod_lt _ hpos
       simp only[Array.toList_map,Array.toList_range,List.getElem?_map,List.getElem?_range hj,Option.map_some,aRb,hzl];rw[key n j hj,aQs hm];simp [getElem!_pos,hm]
      ·rw[aRu (by simp;omega),aRu (by simp [hzl];omega)]
    have hlim: ¬(n*u.cells>2^24):=by have:=hn.2;omega
    by_cases h0:n*u.cells=0
    ·simp only[execOp,ho,Instr.buildSlice,aQB,aQD h2,aQu,sizeOf,typeInfo,aRp,hei,hz.1,aQN,aQl hlim,aQj h0];rw[hrow #[] (fun h=>absurd h0 h),hmap,k1];simp only[newRow,aQB,run_newObj,aQu,aQN];rfl
    ·simp only[execOp,ho,Instr.buildSlice,aQB,aQD h2,aQu,sizeOf,typeInfo,aRp,hei,hz.1,aQN,aQl hlim,aQl h0,zeroValue,hz.2.2,hzc];rw[hrow (sL u).toArray (fun _=>rfl),hmap,k1];simp only[newRow,aQB,run_newObj,aQu,aQN];rfl
theorem aHf {t:TypeId}{n:Nat}{ps:Array (Nat×Operand)}(ho:o.op= .buildSlice t n ps) {ρ:Operand->pA}(hρ: ∀q∈ps.toList,qJ g w (ρ q.2) (a.eval q.2)) {base:Nat}{e:pJ}(hr:WO base n (sZ ρ ps.toList) (qQ T t)=some e) (hf:z7 g base e):qD P o a g w H e:=by
 generalize hst:qQ T t=ot at hr;unfold WO at hr;split at hr
 ·rename_i u el by' ls_;split at hr
  ·rename_i hn0;generalize hb:AK u n (some (C2 u n)) (sZ ρ ps.toList)=ol at hr;cases ol with
   |none=>cases hr
   |some l=>
    simp only[a7n] at hr;split at hr
    ·rename_i hn;cases hr;obtain⟨cs',k2,k3,hrun⟩:=XY hT hH ho hρ hst hb hn.2;have hfr:=(hf base (by simp [pE]) (aQF _)).2;have hlen:=GJ k2;have hown:(w.alloc (.cells cs'.toArray el)).ownsRow 0 el u.cells (.slice (some ⟨w.heap.size,0,none⟩) n n) n cs':=⟨by rw[hlen,k3],.inr ⟨w.heap.size,n,cs'.toArray,rfl,aRc _,aSv w _,aQF _,by unfold maxLen;omega,by simp [hlen,k3],by simp [<-k3,<-hlen]⟩⟩;refine qD.value hrun (qW.row (v:= .slice (some ⟨w.heap.size,0,none⟩) n n) (xs:=cs') hH k3 hown k2 (fun m _=>hfr m) (fun u hu=>by rw[hfr] at hu;cases hu) (.inl (World.grownBy_alloc w _ _)) (fun b o h=>aQK (a:=⟨b,o,none⟩) (aQP _ _ _ (hH.sl b o h))) (fun b hb o hs=> ?_) (fun b hb=> ?_) ⟨⟨by simp [Gh.tok],.inr ⟨_,_,rfl,aQF _⟩⟩,trivial⟩)
     ·cases hb;exact aSp _ (hH.sl _ _ hs)
     ·cases hb;exact .inl (aQF _)
    ·cases hr
  ·rename_i hn0;generalize hb:AK u n (some (C2 u n)) (sZ ρ ps.toList)=ol at hr;cases ol with
   |none=>cases hr
   |some l=>
    simp only[QX] at hr;split at hr
    ·rename_i hn;cases hr;obtain⟨cs',k2,k3,hrun⟩:=XY hT hH ho hρ hst hb hn;have hfr:=hf base (by simp [pE]) (aQF _);exact qD.value (v:= .slice (some ⟨w.heap.size,0,none⟩) n n) (w':=w.alloc (.cells cs'.toArray el)) hrun (qW.lit hH rfl k3 k2 (by unfold maxLen;omega) hfr.2)
    ·cases hr
 ·rename_i u el by' ls_;generalize hb:AK u n (some (C2 u n)) (sZ ρ ps.toList)=ol at hr;cases ol with
  |none=>cases hr
  |some l=>
   simp only[QX] at hr;split at hr
   ·rename_i hn;cases hr;obtain⟨cs',k2,k3,hrun⟩:=XY hT hH ho hρ hst hb hn;have hfr:=hf base (by simp [pE]) (aQF _);exact qD.value (v:= .slice (some ⟨w.heap.size,0,none⟩) n n) (w':=w.alloc (.cells cs'.toArray el)) hrun (qW.lit hH rfl k3 k2 (by unfold maxLen;omega) hfr.2)
   ·cases hr
 ·cases hr
theorem aHg {args:Array Operand}{tys:Array TypeId}(ho:o.op= .call ⟨.builtin .append,args,tys⟩) {ρ:Operand->pA}(hρ: ∀x∈args.toList,qJ g w (ρ x) (a.eval x)) {e:pJ}
  {t:TypeId}(htt:tys= #[t,t]) (hr:RD H (qQ T t) (tY ρ args.toList)=some e) (hs: ∀p∈e.side,p):qD P o a g w H e:=by
 subst htt;generalize hst:qQ T t=ot at hr;generalize hss:tY ρ args.toList=ss at hr;unfold RD at hr;split at hr
 ·rename_i u el by' ar ls_ k n _ b1 r _;split at hr
  ·rename_i hbu;subst hbu;generalize hk:pC H k=ob at hr;unfold RC at hr;split at hr
   ·rename_i e' t' l m;split at hr
    ·rename_i hbt;subst hbt;split at hr
     ·rename_i hec;obtain⟨rfl,hpos,hb1⟩:=hec;simp only[sU] at hr;cases hr;have hnm:=hs _ (by simp:(n=m)∈_);subst hnm;have hby:=hs _ (by simp:((n+List.length r)*by'<=140737488355328)∈_);obtain⟨v,vr,hv,hs1,hs2⟩:=S4 hT hH hρ hss;obtain⟨h2,h3,_⟩:=(s5 hT hst).2;obtain⟨ei,hei,hz⟩:=aQz.1 h3;simp only[aQQ] at hz;obtain⟨cs,hx⟩:=F4 (a:=a) hT hH ho;obtain⟨hl,v0,xs,hv0,hown,hF0,hnone,hseal⟩:=hH.blk k _ hk;obtain⟨hcur,hshape⟩:=hs1.1;rw[hv0] at hcur;obtain rfl:=aQo hcur;obtain⟨adr,capr,hvr,hler,hlr⟩:=D0 hs2.1;have hlen2:(l++r).length=n+List.length r:=by rw[aQm,hl]
      rw[hlen2];have hownk: ∀q,v0.ownBlock=some q->∀o,rY g H [k] q o:=fun q hq o=>⟨k,_,by simp,hk,v0,hv0,hq⟩;by_cases hm:List.length r=0
      ·obtain rfl:r=[]:=aQS hm;refine qD.value (v:=v0) (w':=w) ?_ (qW.row (v:=v0) (xs:=xs) hH hlen2 hown (by rw[List.append_nil];exact hF0) hnone (fun u hu=>by
        have h5:g.cur k n=some u:=hu;rw[hv0] at h5;exact(aQo h5).symm) (.inl ⟨rfl,rfl,rfl,aQF _,fun _ _ _=>rfl⟩) (fun _ _ _=>rfl) hseal (fun q hq=> .inr (hownk q hq)) ⟨⟨by simp [Gh.tok],hshape⟩,trivial⟩)
       obtain⟨adl,capl,hvl,hlel⟩: ∃adl capl,v0= .slice adl n capl/\n<=capl:=by
        rcases hshape with⟨h,rfl⟩ |⟨b,cap,h,h'⟩
        ·exact⟨_,_,h,aQF _⟩
        ·exact⟨_,_,h,h'⟩
       rw[hx,hv,hvr,hvl];have ha0:(#[Value.slice adl n capl,Value.slice adr (List.length ([]:List b1.den)) capr]:Array Value)[0]? =some (.slice adl n capl):=rfl;have ha1:(#[Value.slice adl n capl,Value.slice adr (List.length ([]:List b1.den)) capr]:Array Value)[1]? =some (.slice adr 0 capr):=rfl;have ht0:(#[t,t]:Array TypeId)[0]? =some t:=rfl;have ht1:(#[t,t]:Array TypeId)[1]? =some t:=rfl;simp only[builtin,Builtin.append_,ht0,ht1,ha0,ha1,aQB,aQD h2,aQu,aQN,sizeOf,typeInfo,aRp,hei];cases adr<;>cases adl<;>simp [Builtin.lenOf,Builtin.firstCells,loadCells,loadCellsFrom,storeCells,hlel]
      ·obtain⟨b,off,rfl,hL⟩: ∃b o,adr=some ⟨b,o,none⟩/\xC (Rd g w b1) w g.S b1.cells b o r:=by
        rcases hlr with rfl|h
        ·exact absurd rfl hm
        ·exact h
       obtain⟨news,hF,hra,_⟩:=KN hL;obtain⟨q,cap,w',hrun,hown',hq,hg,hcap,hcell⟩:=XP (P:=P) w t o.type e' ei (vS b1) b1.cells by' h2 hei hz.2.2 hz.1 hz.2.1 (by
        have:=rS (DY (NJ g w b1));simpa using this) v0 n xs hown ⟨b,off,none⟩ (List.length r) capr news (GJ hF) (fun j u hu=>by rw[aRz];exact hra j u hu) (NN (fun _ _ h=>AP h) hF) (by omega)
        (by
         have:=Nat.mul_le_mul_left (n+List.length r) hb1;unfold maxLen;omega) hby
       refine qD.value (v:= .slice (some ⟨q,0,none⟩) (n+List.length r) cap) (w':=w') ?_ (qW.row (v:= .slice (some ⟨q,0,none⟩) (n+List.length r) cap) (xs:=xs++news) hH hlen2 hown' (NE hF0 hF) (fun m hm'=>hnone m (by omega)) (fun u hu=>by
        rw[hnone _ (by omega)] at hu;cases hu) (.inr ⟨v0.ownBlock,hg,fun b hb o=>hownk b hb o⟩) (fun b o hS=>hcell b o (hH.sl b o hS) (fun hb=>absurd hS (hseal b hb o))) (fun b hb o hS=> ?_) (fun b hb=> ?_) ⟨⟨by simp [Gh.tok],.inr ⟨q,cap,rfl,hcap⟩⟩,trivial⟩)
       ·rw[hx,hv,hvr];simp only[builtin,aQB,hrun,aQu,aQN]
       ·cases hb;rcases hq with h|h
        ·rw[h] at hS;exact aSp _ (hH.sl _ _ hS)
        ·exact hseal _ h o hS
       ·cases hb;rcases hq with h|h
        ·exact .inl (aR0 h.symm)
        ·exact .inr (hownk _ h)
     ·cases hr
    ·cases hr
   ·cases hr
  ·cases hr
 ·rename_i u el by' ar ls_ a1 l k b1 r k2;split at hr
  ·rename_i hab;obtain⟨rfl,rfl⟩:=hab;simp only[sU] at hr;generalize hk:pC H k=ob at hr;unfold RB at hr;split at hr
   ·rename_i e' c n;split at hr
    ·rename_i hec;obtain⟨rfl,hcc,hpos,hb1⟩:=hec;cases hr;rw[aQm];have hln:=hs _ (by simp:(List.length l=n)∈_);have hby:=hs _ (by simp:((List.length l+List.length r)*by'<=140737488355328)∈_);obtain⟨v,vr,hv,hs1,hs2⟩:=S4 hT hH hρ hss;obtain⟨h2,h3,_⟩:=(s5 hT hst).2;obtain⟨ei,hei,hz⟩:=aQz.1 h3;simp only[aQQ] at hz;obtain⟨cs,hx⟩:=F4 (a:=a) hT hH ho;obtain⟨v0,xs,hv0,hown,hnone,hseal⟩:=hH.blk k _ hk;have hcur:g.cur k (List.length l)=some v:=hs1.2;rw[hln,hv0] at hcur;obtain rfl:=aQo hcur;obtain⟨adr,capr,hvr,hler,hlr⟩:=D0 hs2.1;obtain⟨adl,capl,hvl,hlel,hll⟩:=D0 hs1.1;by_cases hm:List.length r=0
     ·
      obtain rfl:r=[]:=aQS hm;have hlr:List.length l+List.length ([]:List b1.den)=n:=by rw[hln];rfl
      have hget: ∀i,pC (pO [(k,p9.grow e' c (List.length l+List.length ([]:List b1.den)))] H) i=pC H i:=by
       intro i;simp only[pO,pC];by_cases hi:k=i
       ·subst hi;rw[aQj rfl,hlr];exact hk.symm
       ·rw[aQl hi]
      have hkeep:qW g w H ⟨[List.length l=n,(List.length l+List.length ([]:List b1.den))*by'<=140737488355328],(.val (.list b1) (l++[]),some k),[(k,.grow e' c (List.length l+List.length ([]:List b1.den)))],[k]⟩ g w v0:=by
       refine⟨.refl _ _,?_,⟨fun i b h=>hH.blk i b ((hget i).symm.trans h),fun i j bi bj b o' hij h1 h2=>hH.dis i j bi bj b o' hij ((hget i).symm.trans h1) ((hget j).symm.trans h2),hH.sl,hH.tab.1,fun i blk b o' h ho'=>hH.tab.2 i blk b o' ((hget i).symm.trans h) ho'⟩,.refl _ _ _,fun i blk b o' hi hg ho'=> .inr ⟨i,blk,hi,(hget i).symm.trans hg,ho'⟩,fun _ _=>⟨rfl,rfl⟩,fun i u' y us h=> .inl ⟨y,us,(hget i).symm.trans h⟩⟩;rw[List.append_nil];exact hs1
      refine qD.value (v:=v0) (w':=w) ?_ hkeep;rw[hx,hv,hvr,hvl];have ha0:(#[Value.slice adl (List.length l) capl,Value.slice adr (List.length ([]:List b1.den)) capr]:Array Value)[0]? =some (.slice adl (List.length l) capl):=rfl;have ha1:(#[Value.slice adl (List.length l) capl,Value.slice adr (List.length ([]:List b1.den)) capr]:Array Value)[1]? =some (.slice adr 0 capr):=rfl;have ht0:(#[t,t]:Array TypeId)[0]? =some t:=rfl;have ht1:(#[t,t]:Array TypeId)[1]? =some t:=rfl;simp only[builtin,Builtin.append_,ht0,ht1,ha0,ha1,aQB,aQD h2,aQu,aQN,sizeOf,typeInfo,aRp,hei];cases adr<;>cases adl<;>simp [Builtin.lenOf,Builtin.firstCells,loadCells,loadCellsFrom,storeCells,hlel]
     ·obtain⟨b,off,rfl,hL⟩: ∃b o,adr=some ⟨b,o,none⟩/\xC (Rd g w b1) w g.S b1.cells b o r:=by
       rcases hlr with rfl|h
       ·exact absurd rfl hm
       ·exact h
      obtain⟨news,hF,hra,_⟩:=KN hL;have hxs:sC (Rd g w b1) b1.cells l xs:=by
       by_cases h0:List.length l=0
       ·obtain rfl:l=[]:=aQS h0;have:xs=[]:=aQS (by rw[hown.1,<-hln];simp);exact this
       ·rcases hll with rfl|⟨b0,off0,rfl,hL0⟩
        ·exact absurd rfl h0
        ·obtain⟨ls,hF0,hra0,_⟩:=KN hL0;rcases hown.2 with⟨e1,e2⟩ |⟨q,cap,cur,e1,e2⟩
         ·exact absurd (hln.trans e2) h0
         ·rw[hvl] at e1;simp only[aSs,aQk,Addr.mk.injEq] at e1;obtain⟨⟨rfl,rfl,_⟩,_,rfl⟩:=e1;have hvn:v0= .slice (some ⟨b0,0,none⟩) n capl:=by rw[hvl,hln]
          have hrx:=XQ (hvn▸hown);have:ls=xs:=by
           have hl1:=GJ hF0;have hl2:=hown.1;apply List.ext_getElem?;intro j;by_cases hj:j<ls.length
           ·have h1:=hra0 j ls[j] (aQs hj);have hj':j<xs.length:=by rw[hl2,hcc,<-hln,<-hl1];exact hj
            have h2:=hrx j xs[j] (aQs hj');rw[h1] at h2;rw[aQs hj,aQs hj',aQo h2]
           ·rw[aRu (by omega),aRu (by rw[hl2,hcc,<-hln,<-hl1];omega)]
          rw[<-this];exact hF0
      obtain⟨q,cap,w',hrun,hown',hq,hg,hcap,hcell⟩:=XP (P:=P) w t o.type e' ei (vS b1) c by' h2 hei hz.2.2 (by rw[hz.1,hcc]) hz.2.1 (by
       have:=rS (DY (NJ g w b1));rw[hcc];simpa using this) v0 n xs hown ⟨b,off,none⟩ (List.length r) capr news (by rw[GJ hF,hcc]) (fun j u hu=>by rw[aRz];exact hra j u hu) (NN (fun _ _ h=>AP h) hF) (by omega)
       (by
        have:=Nat.mul_le_mul_left (List.length l+List.length r) hb1;unfold maxLen;omega) (by rw[<-hln];exact hby)
      refine qD.value (v:= .slice (some ⟨q,0,none⟩) (n+List.length r) cap) (w':=w') ?_ (by
       have:=qW.append (side:=[List.length l=n,(List.length l+List.length r)*by'<=140737488355328]) (rds:=[k]) hH hk hcc hln hv0 hown hnone hseal (hcc▸hxs) (hcc▸hF) (by omega) hown' hq hg hcap hcell;rw[hln];rw[hln] at this;exact this)
      rw[hx,hv,hvr];simp only[builtin,aQB,hrun,aQu,aQN]
    ·cases hr
   ·cases hr
  ·cases hr
 ·cases hr
end
def z8:Ty->TypeDesc
 | .int k=> .int k
 | .str=> .string
 |_=> .bool
theorem a8k {P:Program}{t:TypeId}{ti:TI}(h:sB P t ti) (hk:DU ti.ty=true):P.underlying t=some (z8 ti.ty):=by
 have h2:=h.2;unfold xE at h2;obtain⟨ty,el,by',ar,ls⟩:=ti;cases ty<;>simp only[DU,aRC] at hk<;>exact h2
theorem aHh {g:Gh}{w:World}{k:Ty}(hk:DU k=true) {a x:k.den}{v u:Value}(ha:s9 g w k a v) (hx:s9 g w k x u):Instr.sameNow (z8 k) v u=some (EY k a x)/\(EY k a x=true->u=v):=by
 cases k with
 |int k=>
  rw[uM ha,uM hx];simp only[z8,Instr.sameNow,aRZ,EY];refine⟨?_,fun h=> ?_⟩
  ·congr 1
  ·rw[aRa h]
 |str=>
  rw[xT ha,xT hx];simp only[z8,Instr.sameNow,EY];refine⟨?_,fun h=> ?_⟩
  ·congr 1;rw[aRr,MapKept.bytes_beq,aQq];constructor
   ·intro h;have:=aQW (fun z:ByteArray=>z.data.toList) h;simpa using this
   ·intro h;rw[h]
  ·rw[aRa h]
 |bool=>
  rw[vU ha,vU hx];simp only[z8,Instr.sameNow,EY];refine⟨trivial,fun h=> ?_⟩;rw[aSz.1 h]
 |_=>simp [DU] at hk
theorem XZ {g:Gh}{w:World}{k v:Ty}(hk:DU k=true) {a:k.den}{key:Value}(ha:s9 g w k a key): ∀{l:List (k.den×v.den)}{es:List MapEntry}(i:Nat),CW g w k v l es->
  (wL k v l a=false->Instr.findNow (z8 k) key es i=some none/\rN k v l a=v.zero/\∀b val born,s9 g w v b val->CW g w k v (sG k v a b l) (es++[⟨key,val,born⟩]))/\
  (wL k v l a=true->∃j e,es[j]? =some e/\Instr.findNow (z8 k) key es i=some (some (i+j,e.val))/\s9 g w v (rN k v l a) e.val/\e.key=key/\∀b val,s9 g w v b val->CW g w k v (sG k v a b l) (es.modify j fun e=>{e with key:=key,val:=val}))
 |[],es,i,h=>by
  rw[show es=[] from h];exact⟨fun _=>⟨rfl,rfl,fun b val born hb=>⟨_,[],rfl,ha,hb,rfl⟩⟩,fun h=>by simp [wL] at h⟩
 |(x,y)::l,_,i,⟨e,es',rfl,h1,h2,h3⟩=>by
  obtain⟨s1,s2⟩:=aHh hk ha h1;cases hq:EY k a x with
  |true=>
   rw[hq] at s1;refine⟨fun h=>by simp [wL,hq] at h,fun _=>⟨0,e,rfl,?_,?_,s2 hq,fun b val hb=> ?_⟩⟩
   ·simp only[Instr.findNow,s1,aRW]
   ·simp only[rN,hq,aRZ];exact h2
   ·simp only[sG,hq,aRZ];exact⟨_,es',rfl,ha,hb,h3⟩
  |false=>
   rw[hq] at s1;obtain⟨f1,f2⟩:=XZ (v:=v) hk ha (i+1) h3;refine⟨fun h=> ?_,fun h=> ?_⟩
   ·simp only[wL,hq] at h;obtain⟨g1,g2,g3⟩:=f1 (by simpa using h);refine⟨by simp only[Instr.findNow,s1];exact g1,by simp only[rN,hq];simpa using g2,fun b val born hb=> ?_⟩;simp only[sG,hq];exact⟨e,_,rfl,h1,h2,g3 b val born hb⟩
   ·simp only[wL,hq] at h;obtain⟨j,e',g1,g2,g3,g4,g5⟩:=f2 (by simpa using h);refine⟨j+1,e',by simpa using g1,by simp only[Instr.findNow,s1];rw[g2];congr 3;omega,by simp only[rN,hq];simpa using g3,g4,fun b val hb=> ?_⟩;simp only[sG,hq];exact⟨e,_,rfl,h1,h2,g5 b val hb⟩
def S7 (ok:Bool) (z:Value):Option (Nat×Value)->Value
 |some (_,v)=>if ok then .tuple #[v,.bool true] else v
 |none=>if ok then .tuple #[z,.bool false] else z
section
variable {P:Program}{o:Oper}{a:Act}{g:Gh}{w:World}{H:r5}{T:rQ}(hT:vT P T) (hH:rK g w H)
include hT hH
theorem qW.newMap {side:List Prop}{rds:List Nat}{base:Nat}{k v:Ty}(hf:g.J base=none) (hc:g.cur base=fun _=>none):
  qW g w H ⟨side,(.val .mp (some base),none),[(base,.map k v [])],rds⟩ (g.var base w.heap.size none) (w.alloc (.map #[] 0)) (.map (some w.heap.size)):=by
 have hJ:(g.var base w.heap.size none).J base=some ⟨w.heap.size,0,none⟩:=by simp [Gh.var]
 have le:Le g w (g.var base w.heap.size none) (w.alloc (.map #[] 0)):=⟨fun _ _ h=>h,fun b o h=>aQK (a:=⟨b,o,none⟩) (aQP _ _ _ (hH.sl b o h)),fun i p h=>by
  show (if i=base then _ else _)=_;rw[aQl (fun e1=>by rw[e1,hf] at h;cases h)];exact h,fun _ _ _ h=>h⟩
 have fr:Fr (rY g H (pE [(base,p9.map k v [])])) w (w.alloc (.map #[] 0)) g.S (g.var base w.heap.size none).S:=
  ⟨rfl,rfl,rfl,by simp,fun b hb _=>aQP _ _ _ hb,fun b o hb _=>⟨aQK (a:=⟨b,o,none⟩) (aQP _ _ _ hb),aRi (a:=⟨b,o,none⟩) (aQP _ _ _ hb)⟩,fun b o h=> .inl h,fun b s h=> .inl ((CY (aQP _ _ _ (CX h))).trans h)⟩
 have gho: ∀i,i∉pE [(base,p9.map k v [])]->(g.var base w.heap.size none).J i=g.J i/\(g.var base w.heap.size none).cur i=g.cur i:=fun i hi=>⟨by
  show (if i=base then _ else _)=_;rw[aQl (fun e1=>hi (by simp [pE,e1]))],rfl⟩
 have get: ∀i blk,i∈pE [(base,p9.map k v [])]->pC (pO [(base,p9.map k v [])] H) i=some blk->i=base/\blk= .map k v []:=by
  intro i blk hi hg;simp only[pE,aQx] at hi;subst hi;simp only[pO,pC,aRZ,aQk] at hg;exact⟨rfl,hg.symm⟩
 have perm: ∀i blk b o,i∈pE [(base,p9.map k v [])]->pC (pO [(base,p9.map k v [])] H) i=some blk->r7 (g.var base w.heap.size none) i blk b o->w.heap.size<=b\/rY g H (pE [(base,p9.map k v [])]) b o:=by
  intro i blk b o hi hg ho;obtain⟨rfl,rfl⟩:=get i blk hi hg;obtain⟨p,hp,h1⟩:=ho;rw[hJ] at hp;obtain rfl:=aQo hp;exact .inl (aR0 h1.symm)
 refine⟨le,⟨.inr ⟨rfl,_,hJ,rfl⟩,trivial⟩,hH.upd le fr perm gho (fun i blk hi hg=> ?_) (fun i j bi bj b o hi hj hij hgi hgj _ _=>hij ((get i bi hi hgi).1.trans (get j bj hj hgj).1.symm)) (fun b o h=>aQZ (hH.sl b o h) (by simp)),fr,perm,gho,fun i u' y us h=>by
  simp only[pO,pC] at h;split at h
  ·cases h
  ·exact .inl ⟨y,us,h⟩⟩
 obtain⟨rfl,rfl⟩:=get i blk hi hg;refine⟨⟨w.heap.size,0,none⟩,#[],0,hJ,rfl,?_,rfl,fun o hs=>aSp _ (hH.sl _ _ hs)⟩;show (w.heap.push (.map #[] 0))[w.heap.size]? =_;rw[aSn]
theorem aHi {t:TypeId}{r:Option Operand}(ho:o.op= .makeMap t r) {base:Nat}{e:pJ}(hr:X1 T base (qQ T t) r=some e) (hf:z7 g base e):qD P o a g w H e:=by
 generalize hst:qQ T t=ot at hr;unfold X1 at hr;split at hr
 ·rename_i el fl ar ls_;unfold a7v at hr;split at hr
  ·split at hr
   ·cases hr;have hfr:=hf base (by simp [pE]) (aQF _);refine qD.value (v:= .map (some w.heap.size)) (w':=w.alloc (.map #[] 0)) ?_ (qW.newMap hT hH hfr.1 (funext hfr.2));unfold execOp;rw[ho];simp only[Instr.makeMap,aQB,run_newObj,aQu,aQN,Option.map_none];rfl
   ·cases hr
  ·cases hr
 ·cases hr
theorem aHj {xt el fl:TypeId}{ok:Bool}{r:Nat}{es:Array MapEntry}{cl:Nat}{key z res:Value}{kd:TypeDesc}(hm:P.underlying xt=some (.map el fl)) (hb:w.heap[r]? =some (.map es cl)) (hkd:P.underlying el=some kd) (hsim: ∀ty,kd≠.interface ty) (hna: ∀n t,kd≠.array n t) (hns: ∀f,kd≠.struct f)
  {q:Option (Nat×Value)}(hq:Instr.findNow kd key es.toList 0=some q) (hz:(zeroValue fl).run P w= .ok z w)
  (hres:res=S7 ok z q):(Instr.lookup xt (.map (some r)) key ok).run P w= .ok res w:=by
 have hck: ∀em,(Instr.checkKey em 10000 el key).run P w= .ok () w:=by
  intro em;unfold Instr.checkKey;simp only[aQB,aQD hkd,aQu];cases kd<;>first|rfl|(exact absurd rfl (hsim _)) |(exact absurd rfl (hna _ _)) |(exact absurd rfl (hns _))
 have hfk:(Instr.findKey el key es.toList).run P w= .ok q w:=by
  unfold Instr.findKey;simp only[aQB,aQD hkd,aQu,hq,aQN]
 subst hres;unfold Instr.lookup;simp only[aQB,aQD hm,aQu,MapKept.run_getObj_map hb,aQN,hck,hfk];cases q with
 |none=>cases ok<;>simp [hz,aQB,aQu,S7]
 |some q=>cases ok<;>simp [aQB,aQu,S7]
theorem qW.updMap {side:List Prop}{rds:List Nat}{i:Nat}{k v:Ty}{l l':List (k.den×v.den)}{p:Pl}{es es':Array MapEntry}{cl cl':Nat}(hi:pC H i=some (.map k v l)) (hp:g.J i=some p) (hp0:p.2=0) (hb:w.heap[p.1]? =some (.map es cl)) (hS: ∀o,¬g.S p.1 o) (hM:CW g w k v l' es'.toList):
  qW g w H ⟨side,(.any,none),[(i,.map k v l')],rds⟩ g {w with heap:=w.heap.setIfInBounds p.1 (.map es' cl')} undef:=by
 have hlt:p.1<w.heap.size:=(aQJ.1 hb).1;have hoth: ∀b,b≠p.1->(w.heap.setIfInBounds p.1 (.map es' cl'))[b]? =w.heap[b]? :=fun b hne=>by rw[aRK (Ne.symm hne)]
 have hown: ∀o,rY g H (pE [(i,p9.map k v l')]) p.1 o:=fun o=>⟨i,_,by simp [pE],hi,p,hp,rfl⟩;have le:Le g w g {w with heap:=w.heap.setIfInBounds p.1 (.map es' cl')}:=⟨fun _ _ h=>h,fun b o h=>aQK (a:=⟨b,o,none⟩) (hoth b (fun e=>hS o (e▸h))),fun _ _ h=>h,fun _ _ _ h=>h⟩
 have fr:Fr (rY g H (pE [(i,p9.map k v l')])) w {w with heap:=w.heap.setIfInBounds p.1 (.map es' cl')} g.S g.S:=
  ⟨rfl,rfl,rfl,by simp,fun b _ hn=>hoth b (fun e=>hn 0 (e▸hown 0)),fun b o _ hn=>⟨aQK (a:=⟨b,o,none⟩) (hoth b (fun e=>hn (e▸hown o))),aRi (a:=⟨b,o,none⟩) (hoth b (fun e=>hn (e▸hown o)))⟩,fun b o h=> .inl h,fun b s h=>(by
   by_cases e:b=p.1
   ·exact .inr fun o=>e▸hown o
   ·exact .inl ((CY (hoth b e)).trans h))⟩
 have get: ∀j blk,j∈pE [(i,p9.map k v l')]->pC (pO [(i,p9.map k v l')] H) j=some blk->j=i/\blk= .map k v l':=by
  intro j blk hj hg;simp only[pE,aQx] at hj;subst hj;simp only[pO,pC,aRZ,aQk] at hg;exact⟨rfl,hg.symm⟩
 have perm: ∀j blk b o,j∈pE [(i,p9.map k v l')]->pC (pO [(i,p9.map k v l')] H) j=some blk->r7 g j blk b o->w.heap.size<=b\/rY g H (pE [(i,p9.map k v l')]) b o:=by
  intro j blk b o hj hg ho;obtain⟨rfl,rfl⟩:=get j blk hj hg;obtain⟨q,hq,rfl⟩:=ho;rw[hp] at hq;obtain rfl:=aQo hq;exact .inr (hown o)
 refine⟨le,⟨trivial,trivial⟩,hH.upd le fr perm (fun _ _=>⟨rfl,rfl⟩) (fun j blk hj hg=> ?_) (fun j j' bi bj b o hj hj' hij hgi hgj _ _=>hij ((get j bi hj hgi).1.trans (get j' bj hj' hgj).1.symm)) (fun b o h=>by simpa using hH.sl b o h),fr,perm,fun _ _=>⟨rfl,rfl⟩,fun j u' y us h=>by
  simp only[pO,pC] at h;split at h
  ·cases h
  ·exact .inl ⟨y,us,h⟩⟩
 obtain⟨rfl,rfl⟩:=get j blk hj hg;exact⟨p,es',cl',hp,hp0,by simp [aR9,hlt],XB le hM,hS⟩
theorem a8l {i:Nat}{k:Option Nat}{v:Value}(h:qJ g w (.val .mp (some i),k) v): ∃p,g.J i=some p/\v= .map (some p.1):=by
 obtain⟨p,h1,e⟩:=BO rfl h.1;simp only[aRf,and_true] at e;exact⟨p,h1,e⟩
theorem a8m {k:Ty}:(∀ty,z8 k≠.interface ty)/\(∀n t,z8 k≠.array n t)/\(∀f,z8 k≠.struct f):=by
 cases k<;>exact⟨fun _ h=>by simp [z8] at h,fun _ _ h=>by simp [z8] at h,fun _ h=>by simp [z8] at h⟩
theorem aHk {t:TypeId}{x y:Operand}{ok:Bool}(ho:o.op= .lookup t x y ok) {sx sy:pA}(hx:qJ g w sx (a.eval x)) (hy:qJ g w sy (a.eval y)) {e:pJ}(hr:RK T H ok (qQ T t) sx sy=some e):qD P o a g w H e:=by
 generalize hst:qQ T t=ot at hr;unfold RK at hr;split at hr
 ·rename_i el fl ar ls_ i kk;generalize hk:qQ T el=ok1 at hr;generalize hv:qQ T fl=ok2 at hr;unfold X2 at hr;split at hr
  ·rename_i kt vt k a' _;split at hr
   ·rename_i hkt;unfold RJ at hr;split at hr
    ·rename_i k' v' l hb;split at hr
     ·rename_i hkv;obtain⟨rfl,rfl⟩:=hkv;split at hr
      ·rename_i hkey;obtain⟨p,es,cl,hp,hp0,hh,hM,hS⟩:=hH.blk i _ hb;obtain⟨p',hp',hxv⟩:=a8l hT hH hx;rw[hp] at hp';obtain rfl:=aQo hp';have hm:=(s5 hT hst).2;simp only[xE] at hm;have hkd:=a8k (s5 hT hk) (hkt▸hkey);obtain⟨iv,hi1,hi2,hi3⟩:=F3 (s5 hT hv);have hz:(zeroValue fl).run P w= .ok (vS vt.ty) w:=by
        simp only[zeroValue,typeInfo,aQB,aRp,hi1,hi3,aQu,aQN]
       obtain⟨f1,f2⟩:=XZ (v:=vt.ty) hkey hy.1 0 hM;rw[<-hkt] at hkd;obtain⟨p1,p2,p3⟩:=a8m hT hH (k:=k);have go: ∀{q res},Instr.findNow (z8 k) (a.eval y) es.toList 0=some q->res=S7 ok (vS vt.ty) q->(execOp a.eval o).run P w= .ok (.value res) w:=by
        intro q res h1 h2;unfold execOp;rw[ho];simp only[hxv,aQB,aHj hT hH hm hh hkd p1 p2 p3 h1 hz h2,aQu,aQN]
       cases hmh:wL k vt.ty l a' with
       |false=>
        obtain⟨g1,g2,_⟩:=f1 hmh;cases ok with
        |true=>
         cases hr;refine qD.pure hH (v:= .tuple #[vS vt.ty,.bool false]) (go g1 rfl) ?_;simp only[K2,hmh,g2];exact⟨[_,_],rfl,_,[_],rfl,NJ g w _,trivial,_,[],rfl,vC g w false,trivial,rfl⟩
        |false=>
         cases hr;refine qD.pure hH (v:=vS vt.ty) (go g1 rfl) ?_;simp only[K2,g2];exact NJ g w _
       |true=>
        obtain⟨j,e',g1,g2,g3,g4,g5⟩:=f2 hmh;cases ok with
        |true=>
         cases hr;refine qD.pure hH (v:= .tuple #[e'.val,.bool true]) (go g2 rfl) ?_;simp only[K2,hmh];exact⟨[_,_],rfl,_,[_],rfl,g3,trivial,_,[],rfl,vC g w true,trivial,rfl⟩
        |false=>
         cases hr;refine qD.pure hH (v:=e'.val) (go g2 rfl) ?_;simp only[K2];exact g3
      ·cases hr
     ·cases hr
    ·cases hr
   ·cases hr
  ·cases hr
 ·cases hr
theorem aHl {g:Gh}{w:World}{k:Ty}(hk:DU k=true) {x:k.den}{v:Value}(h:s9 g w k x v) (n:Nat):Instr.sameBits n v v=true:=by
 cases k with
 |int k=>rw[uM h];cases n<;>simp [Instr.sameBits]
 |str=>rw[xT h];cases n<;>simp [Instr.sameBits,MapKept.bytes_beq]
 |bool=>rw[vU h];cases n<;>simp [Instr.sameBits]
 |_=>simp [DU] at hk
omit hT hH in
theorem a8n {T:rQ}{ti:Option TI}{s:pA}{v:Value}(h:qJ g w s v):qJ g w (RM T ti s) v:=by
 unfold RM;split
 ·unfold a7w;split
  ·rename_i f x _;refine⟨.inr ⟨rfl,?_⟩,trivial⟩;rcases h.1 with⟨h1,_⟩ |⟨h1,vs,h2,h3⟩
   ·cases h1
   ·rw[show vs=[] from h2] at h3;exact h3
  ·exact h
 ·exact h
theorem a8o {t:TypeId}{m x y:Operand}(ho:o.op= .mapUpdate t m x y\/o.op= .insert t m x y) {sm sx sy:pA}(hm:qJ g w sm (a.eval m)) (hx:qJ g w sx (a.eval x)) (hy:qJ g w sy (a.eval y)) {e:pJ}(hr:KD T H (qQ T t) sm sx sy=some e):qD P o a g w H e:=by
 generalize hst:qQ T t=ot at hr;unfold KD at hr;split at hr
 ·rename_i el fl ar ls_ i kk;generalize hk:qQ T el=ok1 at hr;unfold RL at hr;split at hr
  ·rename_i kt k a' _ u b _;split at hr
   ·rename_i hkt;unfold KC at hr;split at hr
    ·rename_i k' v' l hb;split at hr
     ·rename_i hkv;obtain⟨rfl,rfl⟩:=hkv;split at hr
      ·rename_i hkey;cases hr;obtain⟨p,es,cl,hp,hp0,hh,hM,hS⟩:=hH.blk i _ hb;obtain⟨p',hp',hxv⟩:=a8l hT hH hm;rw[hp] at hp';obtain rfl:=aQo hp';have hmt:=(s5 hT hst).2;simp only[xE] at hmt;have hkd:=a8k (s5 hT hk) (hkt▸hkey);rw[<-hkt] at hkd;obtain⟨p1,p2,p3⟩:=a8m hT hH (k:=k);have hck:(Instr.checkKey false 10000 el (a.eval x)).run P w= .ok () w:=by
        unfold Instr.checkKey;simp only[aQB,aQD hkd,aQu];generalize z8 k=kd at p1 p2 p3;cases kd<;>first|rfl|(exact absurd rfl (p1 _)) |(exact absurd rfl (p2 _ _)) |(exact absurd rfl (p3 _))
       have hfk: ∀{q},Instr.findNow (z8 k) (a.eval x) es.toList 0=some q->(Instr.findKey el (a.eval x) es.toList).run P w= .ok q w:=by
        intro q hq;unfold Instr.findKey;simp only[aQB,aQD hkd,aQu,hq,aQN]
       obtain⟨f1,f2⟩:=XZ (v:=u) hkey hx.1 0 hM;cases hmh:wL k u l a' with
       |false=>
        obtain⟨g1,_,g3⟩:=f1 hmh;refine qD.skip (w':={w with heap:=w.heap.setIfInBounds p.1 (.map (es.push ⟨a.eval x,a.eval y,cl⟩) (cl+1))}) ?_ (qW.updMap hT hH hb hp hp0 hh hS ?_)
        ·unfold execOp;rcases ho with ho|ho<;>rw[ho]<;>
          simp only[Instr.mapUpdate,hxv,aQB,aQD hmt,aQu,MapKept.run_getObj_map hh,hck,hfk g1,MapKept.run_setObj_map _ hh,aQN]
        ·simp only[K2,Array.toList_push];exact g3 b _ _ hy.1
       |true=>
        obtain⟨j,e',g1,g2,g3,g4,g5⟩:=f2 hmh;rw[aQV] at g2;refine qD.skip (w':={w with heap:=w.heap.setIfInBounds p.1 (.map (es.modify j fun e=>{e with key:=a.eval x,val:=a.eval y}) cl)}) ?_ (qW.updMap hT hH hb hp hp0 hh hS ?_)
        ·have hj:es[j]? =some e':=by rw[<-aRo];exact g1
         unfold execOp;rcases ho with ho|ho<;>rw[ho]<;>
          simp only[Instr.mapUpdate,hxv,aQB,aQD hmt,aQu,MapKept.run_getObj_map hh,hck,hfk g2,hj,Option.map_some,aRQ,g4,Instr.keyThatStays,aHl hT hH hkey hx.1,aRZ,MapKept.run_setObj_map _ hh,aQN]
        ·simp only[K2,Array.toList_modify];exact g5 b _ hy.1
      ·cases hr
     ·cases hr
    ·cases hr
   ·cases hr
  ·cases hr
 ·cases hr
end
theorem a8p {P:Program}{w:World}{r:Nat}{s:ByteArray}{n:Nat}(hb:w.heap[r]? =some (.stringIter s n)):(getObj r).run P w= .ok (.stringIter s n) w:=by
 simp [getObj,Sem.run,hb]
theorem aHm {P:Program}{w:World}{r:Nat}{s:ByteArray}{n:Nat}(o:Obj) (hb:w.heap[r]? =some (.stringIter s n)):(setObj r o).run P w= .ok () {w with heap:=w.heap.setIfInBounds r o}:=by
 simp [setObj,Sem.run,hb]
section
variable {P:Program}{o:Oper}{a:Act}{g:Gh}{w:World}{H:r5}{T:rQ}(hT:vT P T) (hH:rK g w H)
include hT hH
theorem qW.newIter {side:List Prop}{rds:List Nat}{base:Nat}{s:List UInt8}(hf:g.J base=none) (hc:g.cur base=fun _=>none):
  qW g w H ⟨side,(.val .ref (some (base,0)),none),[(base,.iter s 0)],rds⟩ (g.var base w.heap.size none) (w.alloc (.stringIter ⟨s.toArray⟩ 0)) (.pointer (some ⟨w.heap.size,0,none⟩)):=by
 have hJ:(g.var base w.heap.size none).J base=some ⟨w.heap.size,0,none⟩:=by simp [Gh.var]
 have le:Le g w (g.var base w.heap.size none) (w.alloc (.stringIter ⟨s.toArray⟩ 0)):=⟨fun _ _ h=>h,fun b o h=>aQK (a:=⟨b,o,none⟩) (aQP _ _ _ (hH.sl b o h)),fun i p h=>by
  show (if i=base then _ else _)=_;rw[aQl (fun e1=>by rw[e1,hf] at h;cases h)];exact h,fun _ _ _ h=>h⟩
 have fr:Fr (rY g H (pE [(base,p9.iter s 0)])) w (w.alloc (.stringIter ⟨s.toArray⟩ 0)) g.S (g.var base w.heap.size none).S:=
  ⟨rfl,rfl,rfl,by simp,fun b hb _=>aQP _ _ _ hb,fun b o hb _=>⟨aQK (a:=⟨b,o,none⟩) (aQP _ _ _ hb),aRi (a:=⟨b,o,none⟩) (aQP _ _ _ hb)⟩,fun b o h=> .inl h,fun b s h=> .inl ((CY (aQP _ _ _ (CX h))).trans h)⟩
 have gho: ∀i,i∉pE [(base,p9.iter s 0)]->(g.var base w.heap.size none).J i=g.J i/\(g.var base w.heap.size none).cur i=g.cur i:=fun i hi=>⟨by
  show (if i=base then _ else _)=_;rw[aQl (fun e1=>hi (by simp [pE,e1]))],rfl⟩
 have get: ∀i blk,i∈pE [(base,p9.iter s 0)]->pC (pO [(base,p9.iter s 0)] H) i=some blk->i=base/\blk= .iter s 0:=by
  intro i blk hi hg;simp only[pE,aQx] at hi;subst hi;simp only[pO,pC,aRZ,aQk] at hg;exact⟨rfl,hg.symm⟩
 have perm: ∀i blk b o,i∈pE [(base,p9.iter s 0)]->pC (pO [(base,p9.iter s 0)] H) i=some blk->r7 (g.var base w.heap.size none) i blk b o->w.heap.size<=b\/rY g H (pE [(base,p9.iter s 0)]) b o:=by
  intro i blk b o hi hg ho;obtain⟨rfl,rfl⟩:=get i blk hi hg;obtain⟨p,hp,h1⟩:=ho;rw[hJ] at hp;obtain rfl:=aQo hp;exact .inl (aR0 h1.symm)
 refine⟨le,⟨.inr ⟨rfl,_,hJ,rfl⟩,trivial⟩,hH.upd le fr perm gho (fun i blk hi hg=> ?_) (fun i j bi bj b o hi hj hij hgi hgj _ _=>hij ((get i bi hi hgi).1.trans (get j bj hj hgj).1.symm)) (fun b o h=>aQZ (hH.sl b o h) (by simp)),fr,perm,gho,fun i u' y us h=>by
  simp only[pO,pC] at h;split at h
  ·cases h
  ·exact .inl ⟨y,us,h⟩⟩
 obtain⟨rfl,rfl⟩:=get i blk hi hg;refine⟨⟨w.heap.size,0,none⟩,hJ,rfl,?_,fun o hs=>aSp _ (hH.sl _ _ hs)⟩;show (w.heap.push (.stringIter ⟨s.toArray⟩ 0))[w.heap.size]? =_;rw[aSn]
theorem qW.updIter {side:List Prop}{rds:List Nat}{i:Nat}{s:List UInt8}{n n':Nat}{d:pA}{val:Value}{p:Pl}(hi:pC H i=some (.iter s n)) (hp:g.J i=some p) (hp0:p.2=0) (hb:w.heap[p.1]? =some (.stringIter ⟨s.toArray⟩ n)) (hS: ∀o,¬g.S p.1 o) (hd:qJ g {w with heap:=w.heap.setIfInBounds p.1 (.stringIter ⟨s.toArray⟩ n')} d val):
  qW g w H ⟨side,d,[(i,.iter s n')],rds⟩ g {w with heap:=w.heap.setIfInBounds p.1 (.stringIter ⟨s.toArray⟩ n')} val:=by
 have hlt:p.1<w.heap.size:=(aQJ.1 hb).1;have hoth: ∀b,b≠p.1->(w.heap.setIfInBounds p.1 (.stringIter ⟨s.toArray⟩ n'))[b]? =w.heap[b]? :=fun b hne=>by rw[aRK (Ne.symm hne)]
 have hown: ∀o,rY g H (pE [(i,p9.iter s n')]) p.1 o:=fun o=>⟨i,_,by simp [pE],hi,p,hp,rfl⟩;have le:Le g w g {w with heap:=w.heap.setIfInBounds p.1 (.stringIter ⟨s.toArray⟩ n')}:=⟨fun _ _ h=>h,fun b o h=>aQK (a:=⟨b,o,none⟩) (hoth b (fun e=>hS o (e▸h))),fun _ _ h=>h,fun _ _ _ h=>h⟩
 have fr:Fr (rY g H (pE [(i,p9.iter s n')])) w {w with heap:=w.heap.setIfInBounds p.1 (.stringIter ⟨s.toArray⟩ n')} g.S g.S:=
  ⟨rfl,rfl,rfl,by simp,fun b _ hn=>hoth b (fun e=>hn 0 (e▸hown 0)),fun b o _ hn=>⟨aQK (a:=⟨b,o,none⟩) (hoth b (fun e=>hn (e▸hown o))),aRi (a:=⟨b,o,none⟩) (hoth b (fun e=>hn (e▸hown o)))⟩,fun b o h=> .inl h,fun b s h=>(by
   by_cases e:b=p.1
   ·exact .inr fun o=>e▸hown o
   ·exact .inl ((CY (hoth b e)).trans h))⟩
 have get: ∀j blk,j∈pE [(i,p9.iter s n')]->pC (pO [(i,p9.iter s n')] H) j=some blk->j=i/\blk= .iter s n':=by
  intro j blk hj hg;simp only[pE,aQx] at hj;subst hj;simp only[pO,pC,aRZ,aQk] at hg;exact⟨rfl,hg.symm⟩
 have perm: ∀j blk b o,j∈pE [(i,p9.iter s n')]->pC (pO [(i,p9.iter s n')] H) j=some blk->r7 g j blk b o->w.heap.size<=b\/rY g H (pE [(i,p9.iter s n')]) b o:=by
  intro j blk b o hj hg ho;obtain⟨rfl,rfl⟩:=get j blk hj hg;obtain⟨q,hq,rfl⟩:=ho;rw[hp] at hq;obtain rfl:=aQo hq;exact .inr (hown o)
 refine⟨le,hd,hH.upd le fr perm (fun _ _=>⟨rfl,rfl⟩) (fun j blk hj hg=> ?_) (fun j j' bi bj b o hj hj' hij hgi hgj _ _=>hij ((get j bi hj hgi).1.trans (get j' bj hj' hgj).1.symm)) (fun b o h=>by simpa using hH.sl b o h),fr,perm,fun _ _=>⟨rfl,rfl⟩,fun j u' y us h=>by
  simp only[pO,pC] at h;split at h
  ·cases h
  ·exact .inl ⟨y,us,h⟩⟩
 obtain⟨rfl,rfl⟩:=get j blk hj hg;exact⟨p,hp,hp0,by simp [aR9,hlt],hS⟩
theorem aHn {t:TypeId}{x:Operand}(ho:o.op= .range t x) {sx:pA}(hx:qJ g w sx (a.eval x)) {base:Nat}{e:pJ}(hr:X4 base (qQ T t) sx=some e) (hf:z7 g base e):qD P o a g w H e:=by
 generalize hst:qQ T t=ot at hr;unfold X4 at hr;split at hr
 ·rename_i el b ar ls s k;cases hr;have hfr:=hf base (by simp [pE]) (aQF _);have hv:=xT hx.1;have hu:=(s5 hT hst).2;simp only[xE] at hu;refine qD.value (v:= .pointer (some ⟨w.heap.size,0,none⟩)) (w':=w.alloc (.stringIter ⟨s.toArray⟩ 0)) ?_ (qW.newIter hT hH hfr.1 (funext hfr.2));unfold execOp;rw[ho];simp only[Instr.range,hv,aQB,aQD hu,run_newObj,aQu,aQN];rfl
 ·cases hr
theorem aHo {x:Operand}{b:Bool}(ho:o.op= .next x b) {sx:pA}(hx:qJ g w sx (a.eval x)) {e:pJ}(hr:RN H b sx=some e):qD P o a g w H e:=by
 unfold RN at hr;split at hr
 ·rename_i i k;unfold X5 at hr;split at hr
  ·rename_i s n hb;cases hr;obtain⟨p,hp,hp0,hh,hS⟩:=hH.blk i _ hb;obtain⟨q,hq,hv⟩:=zV hx.1;rw[hp] at hq;obtain rfl:=aQo hq;rw[hp0] at hv;by_cases hl:n<s.length
   ·have hsz:n<(⟨s.toArray⟩:ByteArray).size:=by simpa[ByteArray.size] using hl
    refine qD.value (v:= .tuple #[.bool true,.int .i64 (n:Int),.int .i32 (tJ s n)]) (w':={w with heap:=w.heap.setIfInBounds p.1 (.stringIter ⟨s.toArray⟩ (yX s n))}) ?_ (qW.updIter hT hH hb hp hp0 hh hS ⟨⟨fun _=>rfl,fun h=>absurd hl (of_decide_eq_false h)⟩,trivial⟩)
    unfold execOp;rw[ho];have hrn:yX s n=n+(Utf8.decode ⟨s.toArray⟩ n).2:=by unfold yX X3;rw[aQj hl]
    simp only[Instr.next,hv,aQB,a8p hh,aQu,hsz,aRZ,aHm _ hh,aQN,hrn];rfl
   ·have hsz: ¬n<(⟨s.toArray⟩:ByteArray).size:=by simpa[ByteArray.size] using hl
    have hrn:yX s n=n:=by unfold yX;rw[aQl hl]
    have hw:({w with heap:=w.heap.setIfInBounds p.1 (.stringIter ⟨s.toArray⟩ (yX s n))}:World)=w:=by
     rw[hrn];have:w.heap.setIfInBounds p.1 (.stringIter ⟨s.toArray⟩ n)=w.heap:=by
      obtain⟨h1,h2⟩:=aQJ.1 hh;apply Array.ext_getElem?;intro j;rw[aR9];split
      ·rename_i hj;subst hj;first|rw[hh] |rw[aQj h1,hh]
      ·rfl
     rw[this]
    refine qD.value (v:= .tuple #[.bool false]) (w':={w with heap:=w.heap.setIfInBounds p.1 (.stringIter ⟨s.toArray⟩ (yX s n))}) ?_ (qW.updIter hT hH hb hp hp0 hh hS ⟨⟨fun h=>absurd (aRa h) hl,fun _=>rfl⟩,trivial⟩)
    rw[hw];unfold execOp;rw[ho];simp only[Instr.next,hv,aQB,a8p hh,aQu,hsz,aSx,aQN]
  ·cases hr
 ·cases hr
end
def pM:Nat->List p9->r5
 |_,[]=>[]
 |c,b::L=>(c,b)::pM (c+1) L
theorem S8: ∀(L:List p9) (c i:Nat),pC (pM c L) i=if c<=i then L[i-c]? else none
 |[],c,i=>by simp [pM,pC]
 |b::L,c,i=>by
  simp only[pM,pC];by_cases h:c=i
  ·subst h;simp
  ·rw[aQl h,S8 L (c+1) i];by_cases h2:c<=i
   ·rw[aQj h2,aQj (by omega)];obtain⟨d,hd⟩: ∃d,i-c=d+1:=⟨i-c-1,by omega⟩;rw[hd,aQ5];congr 1;omega
   ·rw[aQl h2,aQl (by omega)]
theorem wN (L:List p9) (i:Nat):pC (pM 0 L) i=L[i]? :=by rw[S8];simp
def yE (g:Gh) (H:r5) (b o:Nat):Prop:= ∃i blk,pC H i=some blk/\r7 g i blk b o
def tZ (g:Gh) (w:World):List pA->List Value->Prop
 |[],vs=>vs=[]
 |s::ss,vs=> ∃v vs',vs=v::vs'/\qJ g w s v/\tZ g w ss vs'
def NQ (g:Gh) (w:World):List pA->Value->Prop
 |[s],v=>qJ g w s v
 |l,v=> ∃vs:List Value,v= .tuple vs.toArray/\tZ g w l vs
structure IJ (g:Gh) (w:World) (L:List p9) (r:pF) (g':Gh) (w':World) (v:Value):Prop where
 shut: ∀b o,g.S b o->g'.S b o/\w'.cell? ⟨b,o,none⟩=w.cell? ⟨b,o,none⟩
 heap:rK g' w' (pM 0 r.H)
 ret:NQ g' w' r.ret v
 fr:Fr (yE g (pM 0 L)) w w' g.S g'.S
 perm: ∀i blk b o,r.H[i]? =some blk->r7 g' i blk b o->w.heap.size<=b\/yE g (pM 0 L) b o
 J: ∀(i:Nat) t x ts,L[i]? =some (.cells t x ts)->g'.J i=g.J i
 ty: ∀(i:Nat) t x ts u y us,L[i]? =some (.cells t x ts)->r.H[i]? =some (.cells u y us)->u=t
 Jt: ∀i p,i<L.length->g.J i=some p->g'.J i=some p
 cur: ∀i n u,i<L.length->g.cur i n=some u->g'.cur i n=some u
def zA (P:Program) (f:FuncId) (C:List pA->List p9->Option pF):Prop:=
 (∀args w,(callFunc f args).run P w= .ok (.enter f args) w)/\
 ∀(g:Gh) (w:World) (args:List pA) (vals:List Value) (L:List p9) (r:pF),rK g w (pM 0 L)->tZ g w args vals->C args L=some r->(∀p∈r.side,p)->
  Calls P f vals.toArray w (fun e w'=> ∃v g',e= .returned v/\IJ g w L r g' w' v)
def SA (P:Program) (f:FuncId) (F:(t:Ty)->List t.den->Option (List t.den)):Prop:=
 ∀(g:Gh) (w:World) (e:TypeId) (t:Ty) (l l':List t.den) (v:Value) (n:Nat) (xs:List Value),HZ w->w.ownsRow 0 e t.cells v n xs->sC (Rd g w t) t.cells l xs->l.length=n->n<4611686018427387904->F t l=some l'->
  Calls P f #[v] w (fun en w'=>en= .returned (.tuple #[])/\l'.length=n/\∃xs',w'.ownsRow 0 e t.cells v n xs'/\sC (Rd g w t) t.cells l' xs'/\w.grownBy w' v.ownBlock)
def D2 (P:Program) (Γ:tG):Prop:= ∀f s,Γ f=some s->zA P f s.C/\∀F,s.row=some F->SA P f F
theorem a8q {g:Gh}{w:World}{t:Ty}{x:t.den}{v:Value}{k:Option Nat}(h:qJ g w (.val t x,k) v):qJ g w (.val t x,ES t k) v:=by
 refine⟨h.1,?_⟩;cases t with
 |list u=>exact h.2
 |_=>trivial
theorem SB {g g':Gh}{w:World}(hS:g'.S=g.S) {t:Ty}(hp:t.pure=true) {x:t.den}{v:Value}{k k':Option Nat}(h:qJ g w (.val t x,k) v) (hk: ∀c,k=some c->∃c',k'=some c'/\∀n u,g.cur c n=some u->g'.cur c' n=some u) (hk0:k=none->k'=none):qJ g' w (.val t x,k') v:=by
 have hv:s9 g' w t x v:=h.1.imp (fun⟨a,cs,e,q⟩=>⟨a,cs,e,uF hS hp q⟩) (fun⟨a,q⟩=>⟨a,uF hS hp q⟩);refine⟨hv,?_⟩;cases k with
 |none=>rw[hk0 rfl];trivial
 |some c=>
  obtain⟨c',rfl,h2⟩:=hk c rfl;have h1:=h.2;cases t with
  |list u=>exact h2 _ _ h1
  |pair a b=>exact h1
  |_=>exact h1.elim
section
variable {P:Program}{o:Oper}{a:Act}{g:Gh}{w:World}{H:r5}{T:rQ}{Γ:tG}(hT:vT P T) (hΓ:D2 P Γ) (hH:rK g w H)
include hT hΓ hH
theorem Y0 {ti:Option TI}{s:pA}{v:Value}(h:qJ g w s v):qJ g w (MR ti s) v:=by
 unfold MR;split
 ·have:v= .slice none 0 0:=h.1;subst this;exact⟨.inr ⟨rfl,none,0,rfl,aQF _,.inl rfl⟩,trivial⟩
 ·exact h
theorem a8r {ρ:Operand->pA}: ∀{xs:List Operand}{ts:List TypeId},xs.length=ts.length->(∀x∈xs,qJ g w (ρ x) (a.eval x))->tZ g w (EX T ρ xs ts) (xs.map a.eval)
 |[],[],_,_=>rfl
 |x::xs,t::ts,h,hx=>⟨_,_,rfl,Y0 hT hΓ hH (hx x (by simp)),a8r (by simpa using h) (fun y hy=>hx y (by simp [hy]))⟩
theorem aHp {l m:List pA}{vs us:List Value}(h:tZ g w l vs) (k:tZ g w m us):tZ g w (l++m) (vs++us):=by
 induction l generalizing vs with
 |nil=>rw[show vs=[] from h];exact k
 |cons s l ih=>
  obtain⟨v,vs',rfl,h1,h2⟩:=h;exact⟨v,_,rfl,h1,ih h2⟩
theorem a8s: ∀{caps:List (Nat×Nat)}{vs:List Value},wM g caps vs->tZ g w (WY caps) vs
 |[],_,h=>h
 |(i,o)::caps,_,⟨p,vs',h1,h2,h3⟩=>⟨_,_,h2,⟨.inr ⟨rfl,p,h1,rfl⟩,trivial⟩,a8s h3⟩
end
theorem a8t {P:Program}{o:Oper}{a:Act}{f:FuncId}{fop:Operand}{args:Array Operand}{tys:Array TypeId}(ho:o.op= .call ⟨.value fop,args,tys⟩) {caps:List Value}(hf:a.eval fop= .func (.func f) #[] caps.toArray)
  (hen: ∀args w,(callFunc f args).run P w= .ok (.enter f args) w) {w:World}{K:Act->World->Prop}{Q:Exit->Act->World->Prop}
  (h:Calls P f ((args.toList.map a.eval)++caps).toArray w (fun e w'=> ∃v,e= .returned v/\K (a.put o.dst v) w')):o.wp P a w K Q:=by
 unfold Oper.wp;have:(execOp a.eval o).run P w= .ok (.enter f ((args.toList.map a.eval)++caps).toArray) w:=by
  unfold execOp;rw[ho];simp only[resolve,hf,Deferred.ofValue,aQB,aQN,aQu,invoke];rw[hen];congr 2;apply aRv.1;simp
 rw[this];unfold Oper.upon;refine h.mono fun e w' ⟨v,he,hk⟩=> ?_;subst he;exact hk
def uN (g:Gh):Option qB->Option Pl
 |some (.box i _ _ _ o)=>(g.J i).map fun p=>⟨p.1,p.2+o,p.3⟩
 |some (.tok k)=>g.J k
 |none=>none
def AQ (g:Gh):Option qB->Nat->Option Value
 |some (.tok k),n=>g.cur k n
 |_,_=>none
def tV (g:Gh) (ws:List qB):Gh:=⟨g.S,fun c=>uN g ws[c]?,fun c n=>AQ g ws[c]? n⟩
def SC (H:r5) (ws:List qB):qB->p9->Prop
 | .box i u x toks o,.cells t y ts=>pC H i=some (.cells u x toks)/\pX t u x o=some y/\∀q n,(q,n)∈ts->∃k,ws[n]? =some (.tok k)/\vR toks (o+q)=some k/\q<t.cells
 | .tok k,.grow e c m=>pC H k=some (.grow e c m)
 | .tok k,.map s t l=>pC H k=some (.map s t l)/\s.pure=true/\t.pure=true
 | .tok k,.row e t l n=>pC H k=some (.row e t l n)/\t.pure=true
 |_,_=>False
structure F5 (H:r5) (ws:List qB) (L:List p9):Prop where
 len:ws.length=L.length
 ok: ∀(c:Nat) wh b,ws[c]? =some wh->L[c]? =some b->SC H ws wh b
 nodup:(rD ws).Nodup
def Y1 (ws:List qB) (t:Ty) (x y:t.den):Prop:=(t.pure=true/\y=x)\/C5 ws t x=some y
def SD (H:r5) (ws:List qB):qB->p9->Prop
 | .box i u x toks o,.cells t y ts=>pC H i=some (.cells u x toks)/\(∃y0,pX t u x o=some y0/\Y1 ws t y0 y)/\∀q n,(q,n)∈ts->∃k,ws[n]? =some (.tok k)/\vR toks (o+q)=some k/\q<t.cells
 | .tok k,.grow e c m=>pC H k=some (.grow e c m)
 | .tok k,.map s t l=>pC H k=some (.map s t l)/\s.pure=true/\t.pure=true
 | .tok k,.row e t l n=>pC H k=some (.row e t l n)/\t.pure=true
 |_,_=>False
theorem SE {i o:Nat}: ∀{ws:List qB}{c0:Nat}{c q:Nat},EU i o ws c0=some (c,q)->∃d u x toks oc,c=c0+d/\ws[d]? =some (.box i u x toks oc)/\o=oc+q
 |[],_,_,_,h=>by simp [EU] at h
 | .box j u x toks oc::r,c0,c,q,h=>by
  simp only[EU] at h;split at h
  ·rename_i hc;simp only[aQk,aQQ] at h;obtain⟨rfl,rfl⟩:=h;obtain⟨rfl,h2⟩:=hc;exact⟨0,u,x,toks,oc,rfl,rfl,by omega⟩
  ·obtain⟨d,u',x',toks',oc',h1,h2,h3⟩:=SE h;exact⟨d+1,u',x',toks',oc',by omega,by simpa using h2,h3⟩
 | .tok k::r,c0,c,q,h=>by
  simp only[EU] at h;obtain⟨d,u',x',toks',oc',h1,h2,h3⟩:=SE h;exact⟨d+1,u',x',toks',oc',by omega,by simpa using h2,h3⟩
theorem KQ {i:Nat}: ∀{ws:List qB}{c0 c:Nat},uS i ws c0=some c->∃d,c=c0+d/\ws[d]? =some (.tok i)
 |[],_,_,h=>by simp [uS] at h
 | .tok j::r,c0,c,h=>by
  simp only[uS] at h;split at h
  ·rename_i hc;simp only[aQk] at h;subst h;subst hc;exact⟨0,rfl,rfl⟩
  ·obtain⟨d,h1,h2⟩:=KQ h;exact⟨d+1,by omega,by simpa using h2⟩
 | .box _ _ _ _ _::r,c0,c,h=>by
  simp only[uS] at h;obtain⟨d,h1,h2⟩:=KQ h;exact⟨d+1,by omega,by simpa using h2⟩
theorem Y2 {α β:Type}{a:Option α}{b:Option β}{p:α×β}(h:I4 a b=some p):a=some p.1/\b=some p.2:=by
 cases a<;>cases b<;>simp [I4] at h
 subst h;exact⟨rfl,rfl⟩
theorem aHq {x y:Option (Nat×List (Nat×Nat))}(h:MS x=some y):y=x/\∀f l,x=some (f,l)->l=[]:=by
 unfold MS at h;split at h
 ·cases h;exact⟨rfl,fun _ _ h=>by cases h⟩
 ·cases h;exact⟨rfl,fun _ _ h=>by cases h;rfl⟩
 ·cases h
theorem aHr {g g':Gh}{x:Option (Nat×List (Nat×Nat))}{cs:List Value}(hx: ∀f l,x=some (f,l)->l=[]) (h:NB g x cs):NB g' x cs:=by
 cases x with
 |none=>exact h
 |some q=>
  obtain⟨f,l⟩:=q;obtain rfl:=hx f l rfl;exact h
theorem SF {g g':Gh}{w:World}(hS:g'.S=g.S) (f:(t:Ty)->t.den->Option t.den)
  (hp: ∀a b x,f (.pair a b) x=I4 (if a.pure=true then some x.1 else f a x.1) (if b.pure=true then some x.2 else f b x.2))
  (hl: ∀t x,f (.list t) x=if t.pure=true then some x else none) (hb: ∀x,f .bool x=some x) (hi: ∀k x,f (.int k) x=some x) (hs: ∀x,f .str x=some x) (hu: ∀x,f .unit x=some x) (hfn: ∀x,f .fn x=some x) (hrl: ∀e t x y cs,f (.rl e t) x=some y->GI g x cs->GI g' y cs) (hmr: ∀x y cs,f .mref x=some y->NC g x cs->NC g' y cs)
  (hr: ∀x y cs,f .ref x=some y->NA g x cs->NA g' y cs) (hm: ∀x y cs,f .mp x=some y->KJ g x cs->KJ g' y cs) (hc: ∀x,f .clo x=MS x):
  ∀{t:Ty}{x y:t.den}{cs:List Value},Rd g w t x cs->f t x=some y->Rd g' w t y cs
 | .bool,_,_,_,r,h=>by rw[hb] at h;cases h;exact r
 | .int _,_,_,_,r,h=>by rw[hi] at h;cases h;exact r
 | .str,_,_,_,r,h=>by rw[hs] at h;cases h;exact r
 | .unit,_,_,_,r,h=>by rw[hu] at h;cases h;exact r
 | .rl e t,x,y,_,r,h=>hrl e t x y _ h r
 | .fn,_,_,_,r,h=>by rw[hfn] at h;cases h;exact r
 | .mref,x,y,_,r,h=>hmr x y _ h r
 | .list t,x,y,_,r,h=>by
  rw[hl] at h;split at h
  ·rename_i hpu;cases h;exact uF hS (t:= .list t) (by simpa[Ty.pure] using hpu) r
  ·cases h
 | .ref,x,y,_,r,h=>hr x y _ h r
 | .clo,x,y,_,r,h=>by
  rw[hc] at h;obtain⟨rfl,h2⟩:=aHq h;exact aHr h2 r
 | .mp,x,y,_,r,h=>hm x y _ h r
 | .pair a b,x,y,_,⟨c1,c2,e,r1,r2⟩,h=>by
  rw[hp] at h;obtain⟨h1,h2⟩:=Y2 h;refine⟨c1,c2,e,?_,?_⟩
  ·split at h1
   ·rename_i hpu;exact(aQo h1)▸uF hS hpu r1
   ·exact SF hS f hp hl hb hi hs hu hfn hrl hmr hr hm hc r1 h1
  ·split at h2
   ·rename_i hpu;exact(aQo h2)▸uF hS hpu r2
   ·exact SF hS f hp hl hb hi hs hu hfn hrl hmr hr hm hc r2 h2
theorem Y3 (f:(t:Ty)->t.den->Option t.den)
  (hp: ∀a b x,f (.pair a b) x=I4 (if a.pure=true then some x.1 else f a x.1) (if b.pure=true then some x.2 else f b x.2))
  (hl: ∀t x,f (.list t) x=if t.pure=true then some x else none) {u:Ty}: ∀{t:Ty}{x y:t.den}{o:Nat}{l:List u.den},f t x=some y->pX (.list u) t x o=some l->pX (.list u) t y o=some l:=by
 intro t
 induction t with
 |pair a b iha ihb=>
  intro x y o l h hg;rw[hp] at h;obtain⟨h1,h2⟩:=Y2 h;have key: ∀z:(Ty.pair a b).den,∀q,pX (.list u) (.pair a b) z q=if q<a.cells then pX (.list u) a z.1 q else pX (.list u) b z.2 (q-a.cells):=by
   intro z q;cases q with
   |zero=>
    conv=>lhs;unfold pX
    rw[aR6 (by intro e;cases e),Nat.zero_sub]
   |succ q=>simp [pX]
  rw[key] at hg⊢;split
  ·rename_i ho;rw[aQj ho] at hg;split at h1
   ·rw[<-aQo h1];exact hg
   ·exact iha h1 hg
  ·rename_i ho;rw[aQl ho] at hg;split at h2
   ·rw[<-aQo h2];exact hg
   ·exact ihb h2 hg
 |list v=>
  intro x y o l h hg;rw[hl] at h;split at h
  ·cases h;exact hg
  ·cases h
 |_=>
  intro x y o l h hg;cases o with
  |zero=>
   unfold pX at hg;split at hg
   ·rename_i e;cases e
   ·cases hg
  |succ o=>simp [pX] at hg
theorem aHs {g:Gh}{w:World}{ws:List qB}{t:Ty}{x y:t.den}{cs:List Value}(r:Rd g w t x cs) (h:C5 ws t x=some y):Rd (tV g ws) w t y cs:=by
 refine SF (g:=g) (g':=tV g ws) rfl (C5 ws) (fun a b x=>rfl) (fun t x=>rfl) (fun _=>rfl) (fun _ _=>rfl) (fun _=>rfl) (fun _=>rfl) (fun _=>rfl) (fun _ _ x y cs h r=> ?_) (fun x y cs h r=> ?_) (fun x y cs h r=> ?_) (fun x y cs h r=> ?_) (fun _=>rfl) r h
 ·cases x with
  |none=>cases h;exact r
  |some q=>
   obtain⟨k,n⟩:=q;simp only[C5,a7b] at h;cases hc:uS k ws 0 with
   |none=>rw[hc] at h;cases h
   |some c=>
    rw[hc] at h;cases h;obtain⟨d,rfl,h2⟩:=KQ hc;obtain⟨v,hv,hs⟩:=r;refine⟨v,?_,hs⟩;show AQ g ws[0+d]? n=_;rw[aQV,h2];exact hv
 ·cases x with
  |none=>cases h;exact r
  |some q=>
   obtain⟨i,o⟩:=q;simp only[C5,QO] at h;cases hc:EU i o ws 0 with
   |none=>rw[hc] at h;cases h
   |some q=>
    obtain⟨c,q⟩:=q;rw[hc] at h;cases h;obtain⟨d,u,x,toks,oc,rfl,h2,rfl⟩:=SE hc;obtain⟨p,hp,hv⟩:=r;refine⟨⟨p.1,p.2+oc,p.3⟩,?_,by have:=hv.1;rwa [<-aQ1] at this,hv.2.imp id fun hv=>by rw[hv];simp [aQ1]⟩;show uN g ws[0+d]? =_;rw[aQV,h2];simp [uN,hp]
 ·cases x with
  |none=>cases h;exact r
  |some q=>
   obtain⟨i,o⟩:=q;simp only[C5,QO] at h;cases hc:EU i o ws 0 with
   |none=>rw[hc] at h;cases h
   |some q=>
    obtain⟨c,q⟩:=q;rw[hc] at h;cases h;obtain⟨d,u,x,toks,oc,rfl,h2,rfl⟩:=SE hc;obtain⟨p,hp,hv⟩:=r;refine⟨⟨p.1,p.2+oc,p.3⟩,?_,by rw[hv];simp [aQ1]⟩;show uN g ws[0+d]? =_;rw[aQV,h2];simp [uN,hp]
 ·cases x with
  |none=>cases h;exact r
  |some i=>
   simp only[C5,a7a] at h;cases hc:uS i ws 0 with
   |none=>rw[hc] at h;cases h
   |some c=>
    rw[hc] at h;cases h;obtain⟨d,rfl,h2⟩:=KQ hc;obtain⟨p,hp,hv⟩:=r;refine⟨p,?_,hv⟩;show uN g ws[0+d]? =_;rw[aQV,h2];exact hp
theorem aHt {g:Gh}{w:World}{ws:List qB}{t:Ty}{x y:t.den}{cs:List Value}(h:Y1 ws t x y) (r:Rd g w t x cs):Rd (tV g ws) w t y cs:=by
 rcases h with⟨hp,rfl⟩ |h
 ·exact uF (g:=g) (g':=tV g ws) rfl hp r
 ·exact aHs r h
theorem aHu {ws:List qB}{t u:Ty}{x y:t.den}{o:Nat}{l:List u.den}(h:Y1 ws t x y) (hg:pX (.list u) t x o=some l):pX (.list u) t y o=some l:=by
 rcases h with⟨_,rfl⟩ |h
 ·exact hg
 ·exact Y3 (C5 ws) (fun _ _ _=>rfl) (fun _ _=>rfl) h hg
structure NR (H:r5) (ws:List qB) (L:List p9):Prop where
 len:ws.length=L.length
 ok: ∀(c:Nat) wh b,ws[c]? =some wh->L[c]? =some b->SD H ws wh b
 nodup:(rD ws).Nodup
theorem Y4: ∀(ws:List qB) (c:Nat),(rD ws)[c]? =(ws[c]?).map qB.id
 |[],c=>by simp [rD]
 |w::ws,0=>rfl
 |w::ws,c+1=>by simpa[rD] using Y4 ws c
theorem GK: ∀ws ws':List qB,rD (ws++ws')=rD ws++rD ws'
 |[],_=>rfl
 |w::ws,ws'=>by simp [rD,GK ws ws']
theorem IK: ∀{i:Nat}{l:List Nat},C3 i l=true↔i∈l
 |i,[]=>by simp [C3]
 |i,j::r=>by
  simp only[C3,aQC];by_cases h:i=j
  ·simp [h]
  ·rw[aQl h,IK];simp [h]
theorem SG {ws:List qB}(h:(rD ws).Nodup) {c c':Nat}{x y:qB}(hx:ws[c]? =some x) (hy:ws[c']? =some y) (he:x.id=y.id):c=c':=by
 have h1:(rD ws)[c]? =some x.id:=by rw[Y4,hx];rfl
 have h2:(rD ws)[c']? =some x.id:=by rw[Y4,hy,he];rfl
 obtain⟨l1,e1⟩:=aQA.1 h1;obtain⟨l2,e2⟩:=aQA.1 h2;have hp:=aRx.1 h;rcases Nat.lt_trichotomy c c' with h3|h3|h3
 ·exact absurd (e1.trans e2.symm) (hp c c' l1 l2 h3)
 ·exact h3
 ·exact absurd (e2.trans e1.symm) (hp c' c l2 l1 h3)
theorem a8u: ∀{toks:List (Nat×Nat)}{q k:Nat},vR toks q=some k->(q,k)∈toks
 |[],_,_,h=>by simp [vR] at h
 |(q',k')::r,q,k,h=>by
  simp only[vR] at h;split at h
  ·rename_i e;subst e;simp only[aQk] at h;subst h;simp
  ·exact aQy _ (a8u h)
theorem aHv {v t:Ty}: ∀{u:Ty}{x:u.den}{o q:Nat}{y:t.den}{l:(Ty.list v).den},pX t u x o=some y->pX (.list v) u x (o+q)=some l->q<t.cells->pX (.list v) t y q=some l:=by
 intro u
 induction u with
 |pair a b iha ihb=>
  intro x o q y l h g hq;by_cases hu:o=0/\t= .pair a b
  ·obtain⟨rfl,rfl⟩:=hu;unfold pX at h;rw[aSw rfl] at h;simp only[sU,aQk] at h;subst h;simpa using g
  ·have keyh:(if o<a.cells then pX t a x.1 o else pX t b x.2 (o-a.cells))=some y:=by
    cases o with
    |zero=>
     unfold pX at h;rw[aR6 (fun e=>hu ⟨rfl,e.symm⟩)] at h;simpa using h
    |succ o=>simpa[pX] using h
   have keyg: ∀z,pX (.list v) (.pair a b) x z=(if z<a.cells then pX (.list v) a x.1 z else pX (.list v) b x.2 (z-a.cells)):=by
    intro z;cases z with
    |zero=>
     conv=>lhs;unfold pX
     rw[aR6 (by intro e;cases e),Nat.zero_sub]
    |succ z=>simp [pX]
   rw[keyg] at g;by_cases ho:o<a.cells
   ·rw[aQj ho] at keyh;have hfit:o+t.cells<=a.cells:=by
     have: ∀{u:Ty}{x:u.den}{o:Nat}{y:t.den},pX t u x o=some y->o+t.cells<=u.cells:=by
      intro u
      induction u with
      |pair a b iha ihb=>
       intro x o y h;have key: ∀o,(if o<a.cells then pX t a x.1 o else pX t b x.2 (o-a.cells))=some y->o+t.cells<=a.cells+b.cells:=by
        intro o h;by_cases ho:o<a.cells
        ·rw[aQj ho] at h;have:=iha h;omega
        ·rw[aQl ho] at h;have:=ihb h;omega
       cases o with
       |zero=>
        unfold pX at h;split at h
        ·rename_i e;subst e;simp
        ·exact key 0 (by simpa using h)
       |succ o=>exact key (o+1) (by simpa[pX] using h)
      |_=>
       intro x o y h;cases o with
       |zero=>
        unfold pX at h;split at h
        ·rename_i e;subst e;simp
        ·simp at h
       |succ o=>simp [pX] at h
     exact this keyh
    rw[aQj (by omega)] at g;exact iha keyh g hq
   ·rw[aQl ho] at keyh;rw[aQl (by omega),show o+q-a.cells=o-a.cells+q from by omega] at g;exact ihb keyh g hq
 |_=>
  intro x o q y l h g hq;cases o with
  |zero=>
   unfold pX at h;split at h
   ·rename_i e;subst e;simp only[sU,aQk] at h
    try subst h
    simpa using g
   ·simp at h
  |succ o=>simp [pX] at h
theorem aHw {g:Gh}{w:World}{H:r5}{ws:List qB}{L:List p9}(hH:rK g w H) (hm:NR H ws L):rK (tV g ws) w (pM 0 L):=by
 have wsL: ∀c b,pC (pM 0 L) c=some b->∃wh,ws[c]? =some wh/\SD H ws wh b:=by
  intro c b h;rw[wN] at h;have hlt:c<ws.length:=hm.len▸(aQA.1 h).1;exact⟨ws[c],aQs hlt,hm.ok c _ b (aQs hlt) h⟩
 have own: ∀c b wh,ws[c]? =some wh->SD H ws wh b->∀bb oo,r7 (tV g ws) c b bb oo->∃blk,pC H wh.id=some blk/\r7 g wh.id blk bb oo:=by
  intro c b wh hwh hw bb oo ho;cases wh with
  |box i u x toks off=>
   cases b with
   |cells t y ts=>
    obtain⟨h1,⟨y0,h2,h3⟩,h4⟩:=hw;obtain⟨p,hp,e1,e2,e3⟩:=ho;have hp':uN g ws[c]? =some p:=hp;rw[hwh] at hp';obtain⟨p0,hp0,rfl⟩:=aQz.1 hp';obtain⟨p1,cs,hp1,hR,_⟩:=hH.blk i _ h1;obtain⟨c1,c2,c3,hcs,hl,hR2⟩:=DX hR h2;have l1:=rS hR;have l2:=rS hR2;rw[hcs] at l1;simp only[aQm] at l1;exact⟨_,h1,p0,hp0,e1,by simp at e2;omega,by simp at e3;omega⟩
   |_=>exact hw.elim
  |tok k=>
   cases b with
   |grow e cc m=>
    obtain⟨v,hv,hb⟩:=ho;have hv':AQ g ws[c]? m=some v:=hv;rw[hwh] at hv';exact⟨_,hw,v,hv',hb⟩
   |map s t l=>
    obtain⟨p,hp,hb⟩:=ho;have hp':uN g ws[c]? =some p:=hp;rw[hwh] at hp';exact⟨_,hw.1,p,hp',hb⟩
   |row e t l m=>
    obtain⟨v,hv,hb⟩:=ho;have hv':AQ g ws[c]? m=some v:=hv;rw[hwh] at hv';exact⟨_,hw.1,v,hv',hb⟩
   |_=>exact hw.elim
 refine⟨fun c b h=> ?_,fun c c' b b' bb oo hne h1 h2 o1 o2=> ?_,hH.sl,hH.tab.1,fun c b bb oo h ho=> ?_⟩
 rotate_right
 ·obtain⟨wh,hwh,hw⟩:=wsL c b h;obtain⟨k1,g1,p1⟩:=own c b wh hwh hw bb oo ho;exact hH.tab.2 _ _ bb oo g1 p1
 ·obtain⟨wh,hwh,hw⟩:=wsL c b h;cases wh with
  |box i u x toks off=>
   cases b with
   |cells t y ts=>
    obtain⟨h1,⟨y0,h2,h3⟩,h4⟩:=hw;obtain⟨p,cs,hp,hR,hra,hth,hns,htk⟩:=hH.blk i _ h1;obtain⟨c1,c2,c3,rfl,rfl,hR2⟩:=DX hR h2;have l1:=rS hR;have l2:=rS hR2;simp only[aQm] at l1;refine⟨⟨p.1,p.2+c1.length,p.3⟩,c2,?_,aHt h3 hR2,fun j v hv=> ?_,⟨fun j hj=> ?_,fun h0 s hs=>hth.2 (by omega) s hs⟩,fun j hj hs=> ?_,fun q n hm'=> ?_⟩
    ·show uN g ws[c]? =_;rw[hwh];simp [uN,hp]
    ·have:=hra (c1.length+j) v (by
      have hj':=(aQA.1 hv).1;rw[aQt,aQv (by omega),aQ4,aQE hj'];exact hv)
     rw[aQ1];exact this
    ·have:=hth.1 (c1.length+j) (by omega);rw[aQ1];exact this
    ·exact hns (c1.length+j) (by omega) (by rw[<-aQ1];exact hs)
    ·obtain⟨k,k1,k2,k3⟩:=h4 q n hm';have hmem:(c1.length+q,k)∈toks:=a8u k2;obtain⟨u',l,v,g1,g2,g3⟩:=htk _ _ hmem;refine⟨u',l,v,aHu h3 (aHv h2 g1 k3),?_,?_⟩
     ·rw[aQt,aQv (by omega),aQ4,aQE (by omega)] at g2;exact g2
     ·show AQ g ws[n]? _=_;rw[k1];exact g3
   |_=>exact hw.elim
  |tok k=>
   cases b with
   |grow e cc m=>
    have e1:(tV g ws).cur c=g.cur k:=by
     funext n;show AQ g ws[c]? n=_;rw[hwh];rfl
    obtain⟨v,xs,hv,hr,hn,hs⟩:=hH.blk k _ hw;exact⟨v,xs,by rw[e1];exact hv,hr,fun m hm'=>by rw[e1];exact hn m hm',hs⟩
   |map s t l=>
    obtain⟨p,es,cl,hp,hp0,hh,hM,hS⟩:=hH.blk k _ hw.1;refine⟨p,es,cl,?_,hp0,hh,ND (g:=g) (g':=tV g ws) rfl hw.2.1 hw.2.2 hM,hS⟩;show uN g ws[c]? =_;rw[hwh];exact hp
   |row e t l m=>
    have e1:(tV g ws).cur c=g.cur k:=by
     funext n;show AQ g ws[c]? n=_;rw[hwh];rfl
    obtain⟨hl,v,xs,hv,hr,hF,hn,hs⟩:=hH.blk k _ hw.1;exact⟨hl,v,xs,by rw[e1];exact hv,hr,C9 (fun _ _ h=>uF (g:=g) (g':=tV g ws) rfl hw.2 h) hF,fun m hm'=>by rw[e1];exact hn m hm',hs⟩
   |_=>exact hw.elim
 ·obtain⟨wh,hwh,hw⟩:=wsL c b h1;obtain⟨wh',hwh',hw'⟩:=wsL c' b' h2;obtain⟨k1,g1,p1⟩:=own c b wh hwh hw bb oo o1;obtain⟨k2,g2,p2⟩:=own c' b' wh' hwh' hw' bb oo o2;exact hH.dis wh.id wh'.id k1 k2 bb oo (fun e=>hne (SG hm.nodup hwh hwh' e)) g1 g2 p1 p2
end Go.Proofs.YtbbpilohihldiaaGreatDoor.Vc
