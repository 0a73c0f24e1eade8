/- Packed by a program of mine (wip/tools/pack.py): the same texts with short names and few blanks. -/
import Derived.Below
import Derived.Calls
import Derived.Deep.MidRow
import Derived.Deep.Upon
import Derived.Laws.AppendOwn
import Derived.Laws.BitsLemmas
import Derived.Laws.OwnMore
import Derived.Shelf.Unicode.DecodeSlow
import Derived.Still
import Derived.WalkKit
set_option linter.defProp false
set_option linter.unusedVariables false
set_option linter.unusedSimpArgs false
set_option linter.unusedSectionVars false
set_option maxRecDepth 100000
set_option maxHeartbeats 4000000
namespace Go.Proofs
abbrev pM:=List UInt8
abbrev pN:=List pM
def aTq:=@_root_.Option.some.injEq
def aTr:=@_root_.if_pos
def aTs:=@_root_.if_neg
def aTt:=@_root_.List.length_append
def aTu:=@_root_.Option.bind_some
def aTv:=@_root_.Option.some.inj
def aTw:=@_root_.Option.isSome_iff_exists
def aTx:=@_root_.List.length_cons
def aTy:=@_root_.List.getElem?_eq_getElem
def aTz:=@_root_.Go.Result.andThen_ok
def aTA:=@_root_.List.getElem?_append_right
def aTB:=@_root_.List.mem_cons_of_mem
def aTC:=@_root_.Go.Sem.run_bind
def aTD:=@_root_.List.append_assoc
def aTE:=@_root_.List.mem_cons
def aTF:=@_root_.List.getElem?_eq_some_iff
def aTG:=@_root_.Option.map_eq_some_iff
def aTH:=@_root_.List.mem_singleton
def aTI:=@_root_.List.length_nil
def aTJ:=@_root_.List.mem_cons_self
def aTK:=@_root_.List.getElem?_append_left
def aTL:=@_root_.Bool.and_eq_true
def aTM:=@_root_.List.getD_eq_getElem?_getD
def aTN:=@_root_.decide_eq_true_eq
def aTO:=@_root_.Nat.le_refl
def aTP:=@_root_.Go.run_underlying
def aTQ:=@_root_.Go.World.cell?_of_block
def aTR:=@_root_.congrArg
def aTS:=@_root_.Go.Sem.run_pure
def aTT:=@_root_.Array.getElem?_eq_some_iff
def aTU:=@_root_.Prod.mk.injEq
def aTV:=@_root_.Bool.not_eq_true'
def aTW:=@_root_.Nat.zero_add
def aTX:=@_root_.List.eq_nil_of_length_eq_zero
def aTY:=@_root_.Go.RowKit.Below.heap_alloc
def aTZ:=@_root_.Array.getD_eq_getD_getElem?
def aT0:=@_root_.List.getElem?_cons_zero
def aT1:=@_root_.Nat.lt_of_lt_of_le
def aT2:=@_root_.List.length_drop
def aT3:=@_root_.Nat.add_assoc
def aT4:=@_root_.List.pairwise_iff_getElem
def aT5:=@_root_.decide_eq_false_iff_not
def aT6:=@_root_.of_decide_eq_true
def aT7:=@_root_.decide_eq_true
def aT8:=@_root_.List.reverse_cons
def aT9:=@_root_.List.any_eq_false
def aUa:=@_root_.List.drop_eq_getElem_cons
def aUb:=@_root_.Nat.add_sub_cancel_left
def aUc:=@_root_.List.getElem?_cons_succ
def aUd:=@_root_.List.flatten_cons
def aUe:=@_root_.List.mem_append
def aUf:=@_root_.List.cons.injEq
def aUg:=@_root_.List.length_take
def aUh:=@_root_.Go.World.frozen?_of_block
def aUi:=@_root_.List.length_eq_zero_iff
def aUj:=@_root_.Int.toNat_natCast
def aUk:=@_root_.List.length_pos_iff
def aUl:=@_root_.List.length_map
def aUm:=@_root_.Array.length_toList
def aUn:=@_root_.List.getElem?_take_of_lt
def aUo:=@_root_.Go.run_program
def aUp:=@_root_.Nat.zero_le
def aUq:=@_root_.List.size_toArray
def aUr:=@_root_.List.all_eq_true
def aUs:=@_root_.Nat.le_trans
def aUt:=@_root_.List.map_cons
def aUu:=@_root_.List.length_singleton
def aUv:=@_root_.Array.getElem?_toList
def aUw:=@_root_.Array.getElem?_modify
def aUx:=@_root_.Nat.add_zero
def aUy:=@_root_.Array.toList_inj
def aUz:=@_root_.List.findIdx?_eq_none_iff
def aUA:=@_root_.Nat.mul_le_mul_right
def aUB:=@_root_.List.findIdx?_eq_some_iff_getElem
def aUC:=@_root_.Nat.succ_mul
def aUD:=@_root_.List.getElem?_eq_none
def aUE:=@_root_.Go.Addr.add_mid
def aUF:=@_root_.List.getElem_mem
def aUG:=@_root_.List.drop_length
def aUH:=@_root_.Bool.not_eq_true
def aUI:=@_root_.Array.getElem?_setIfInBounds_ne
def aUJ:=@_root_.Nat.lt_or_ge
def aUK:=@_root_.List.length_eq_one_iff
def aUL:=@_root_.Int.le_refl
def aUM:=@_root_.Nat.le_of_ble_eq_true
def aUN:=@_root_.List.drop_zero
def aUO:=@_root_.Bool.or_eq_false_iff
def aUP:=@_root_.List.flatMap_cons
def aUQ:=@_root_.List.take_left
def aUR:=@_root_.Go.World.cell?_alloc_new
def aUS:=@_root_.List.take_append_drop
def aUT:=@_root_.Bool.false_eq_true
def aUU:=@_root_.dif_neg
def aUV:=@_root_.List.not_mem_nil
def aUW:=@_root_.Array.toArray_toList
def aUX:=@_root_.Go.World.cell?_setCells_in
def aUY:=@_root_.Nat.sub_self
def aUZ:=@_root_.Nat.le_of_eq
def aU0:=@_root_.List.getElem_of_mem
def aU1:=@_root_.Bool.or_eq_true
def aU2:=@_root_.if_true
def aU3:=@_root_.decide_eq_decide
def aU4:=@_root_.List.findIdx?_cons
def aU5:=@_root_.Classical.choose_spec
def aU6:=@_root_.List.mem_range
def aU7:=@_root_.beq_iff_eq
def aU8:=@_root_.Go.Value.slice.injEq
def aU9:=@_root_.List.append_inj
def aVa:=@_root_.Nat.mul_one
def aVb:=@_root_.Nat.lt_irrefl
def aVc:=@_root_.Go.wpIn_mono
def aVd:=@_root_.List.take_append_of_le_length
def aVe:=@_root_.List.range'_succ
def aVf:=@_root_.Bool.not_eq_false'
def aVg:=@_root_.Array.getElem?_setIfInBounds
def aVh:=@_root_.Go.setRow_other
def aVi:=@_root_.List.singleton_append
def aVj:=@_root_.Bool.and_eq_false_iff
def aVk:=@_root_.List.pairwise_append
def aVl:=@_root_.Array.getElem?_eq_getElem
def aVm:=@_root_.List.mem_toArray
def aVn:=@_root_.Array.getElem?_push_size
def aVo:=@_root_.dif_pos
def aVp:=@_root_.List.pairwise_cons
def aVq:=@_root_.Bool.eq_iff_iff
def aVr:=@_root_.Array.foldl_toList
def aVs:=@_root_.Option.getD_some
def aVt:=@_root_.if_false
def aVu:=@_root_.List.drop_succ_cons
def aVv:=@_root_.Go.IntKind.wrap_u8
def aVw:=@_root_.Go.heap_alloc_new
def aVx:=@_root_.List.drop_left
def aVy:=@_root_.List.drop_drop
def aVz:=@_root_.Array.size_append
def aVA:=@_root_.Go.setRow_heap
theorem pQ{p:Prop}(h:p:=by omega):p:=h
theorem pR{p:Prop}(h:p:=by decide):p:=h
theorem pS{p:Prop}(h:p:=by simp):p:=h
theorem pT{p:Prop}(h:p:=by simp;omega):p:=h
theorem qC{p:Prop}(h:p:=by first|rfl|trivial):p:=h
theorem qD{p:Prop}(h:p:=by kernel_rfl):p:=h
theorem qE{p:Prop}(h:p:=by rfl):p:=h
theorem qG{p:Prop}(h:p:=by first|rfl|(simp only[go_sem];done)|(simp only[go_sem];rfl)):p:=h
theorem pO{a:Type}{p q r:a->Prop}(k:a)(h1:p k:=by rfl)(h2:q k:=by rfl)(h3:r k:=by rfl): ∃k,p k/\q k/\r k:=⟨k,h1,h2,h3⟩
theorem pP{a:Type}{p q r:a->Prop}(k:a)(h1:p k:=by first|rfl|(simp only[go_sem];done)|(simp only[go_sem];rfl))(h2:q k:=by first|rfl|(simp only[go_sem];done)|(simp only[go_sem];rfl))(h3:r k:=by first|rfl|(simp only[go_sem];done)|(simp only[go_sem];rfl)): ∃k,p k/\q k/\r k:=⟨k,h1,h2,h3⟩
abbrev pU:=List (pM×Bool)
abbrev pV:=List (Nat×Nat)
abbrev pW:=List Int
abbrev pX:=List Value
abbrev pY:=Option (Nat×Nat)
abbrev pZ:=Option Nat
abbrev q8:=List Nat
abbrev q9:=World
abbrev qB:=Value
end Go.Proofs
namespace Go.Proofs.YtcpbaddnmpeipaaGreatDoor.Vc
def NG:Nat:=6
def a84:Nat:=82
def IG:Nat:=188
def IH:Nat:=155
def GG:Nat:=98
def KF:Nat:=32
abbrev aIx:Nat:=6
abbrev aIy:Nat:=7
def a85:List (Nat×Nat×qB):=[(5,15,.int .u8 4)]
def aIz (w:q9):Prop:= ∀x∈a85,x.1<NG/\w.cell? ⟨x.1,x.2.1,none⟩=some x.2.2
def F8 (w:q9):Prop:=NG<=w.heap.size/\Lib.Utf8Tabs 1 2 w/\(∃m,w.cell? ⟨0,0,none⟩=some (.int .i64 m))/\aIz w
theorem II {w w':q9}(h:F8 w) (hs:w.heap.size<=w'.heap.size) (hb: ∀b,b<NG->w'.heap[b]? =w.heap[b]?):F8 w':=by
 obtain⟨h0,⟨h1,h2⟩,⟨m,h3⟩,h4⟩:=h;have hc: ∀b o,b<NG->w'.cell? ⟨b,o,none⟩=w.cell? ⟨b,o,none⟩:=fun b o h=>aTQ (a:=⟨b,o,none⟩) (hb b h);refine⟨aUs h0 hs,⟨fun c hc'=>?_,fun i hi=>⟨?_,?_⟩⟩,⟨m,?_⟩,fun x hx=>⟨(h4 x hx).1,(hc _ _ (h4 x hx).1).trans (h4 x hx).2⟩⟩
 .rw[hc _ _ pR];exact h1 c hc'
 .rw[hc _ _ pR];exact(h2 i hi).1
 .rw[hc _ _ pR];exact(h2 i hi).2
 rw[hc _ _ pR];exact h3
attribute [go_sem] a84 IH GG KF
inductive Ty where
 |bool|int (k:IntKind) |str|list (t:Ty) |unit|pair (a b:Ty) |ref|clo|mp|rl (e:Nat) (t:Ty) |mref|fn|ap
 deriving DecidableEq
@[go_sem] abbrev rF:Ty:= .pair .bool (.pair .str .unit)
@[go_sem] abbrev rW:Ty:= .pair .str (.pair .str .unit)
abbrev Ty.den:Ty->Type
 | .bool=>Bool
 | .int _=>Int
 | .str=>pM
 | .list t=>List t.den
 | .unit=>Unit
 | .pair a b=>a.den×b.den
 | .ref=>pY
 | .clo=>Option (Nat×pV)
 | .mp=>pZ
 | .rl _ _=>pY
 | .fn=>pZ
 | .mref=>pY
 | .ap=>Nat×Nat×(Nat×Nat)×(Nat×Nat)
@[go_sem] def Ty.cells:Ty->Nat
 | .unit=>0
 | .pair a b=>a.cells+b.cells
 | .bool| .int _| .str| .list _| .ref| .clo| .mp| .rl _ _| .mref| .fn| .ap=>1
@[go_sem] def Ty.zero:(t:Ty)->t.den
 | .bool=>false
 | .int _=>(0:Int)
 | .str=>[]
 | .list _=>[]
 | .unit=>()
 | .pair a b=>(a.zero,b.zero)
 | .ref=>none
 | .clo=>none
 | .mp=>none
 | .rl _ _=>none
 | .fn=>none
 | .mref=>none
 | .ap=>(0,0,(0,0),(0,0))
@[go_sem] def Ty.isRow:Ty->Bool
 | .unit| .pair _ _=>true
 | .bool| .int _| .str| .list _| .ref| .clo| .mp| .rl _ _| .mref| .fn| .ap=>false
@[go_sem] def Ty.pure:Ty->Bool
 | .ref| .clo| .mp| .rl _ _| .mref| .ap=>false
 | .list t=>t.pure
 | .pair a b=>a.pure&&b.pure
 | .bool| .int _| .str| .unit| .fn=>true
def qV (t:Ty) (l:List t.den) (i:Int):t.den:=l.getD i.toNat t.zero
def sX (l:pM) (i:Int):Int:=((l.getD i.toNat 0).toNat:Int)
def u7 {t u:Ty}(h:t=u) (x:t.den):u.den:=h▸x
@[go_sem] theorem N5 {t:Ty}(x:t.den):u7 (rfl:t=t) x=x:=rfl
@[go_sem] def rC (u:Ty):(t:Ty)->t.den->Nat->Option u.den
 |t,x,0=>if h:t=u then some (u7 h x) else match t,x with
  | .pair a b,x=>if 0<a.cells then rC u a x.1 0 else rC u b x.2 0
  |_,_=>none
 | .pair a b,x,o+1=>if o+1<a.cells then rC u a x.1 (o+1) else rC u b x.2 (o+1-a.cells)
 |_,_,_=>none
@[go_sem] def sI (u:Ty) (y:u.den):(t:Ty)->t.den->Nat->Option t.den
 |t,x,0=>if h:u=t then some (u7 h y) else match t,x with
  | .pair a b,x=>if 0<a.cells then(sI u y a x.1 0).map (fun z=>(z,x.2)) else(sI u y b x.2 0).map (fun z=>(x.1,z))
  |_,_=>none
 | .pair a b,x,o+1=>if o+1<a.cells then(sI u y a x.1 (o+1)).map (fun z=>(z,x.2)) else(sI u y b x.2 (o+1-a.cells)).map (fun z=>(x.1,z))
 |_,_,_=>none
@[go_sem] def Ty.proj:(t:Ty)->t.den->Nat->Option (Σ u:Ty,u.den)
 | .pair a _,x,0=>some ⟨a,x.1⟩
 | .pair _ b,x,i+1=>b.proj x.2 i
 |_,_,_=>none
@[go_sem] def Ty.offs:Ty->Nat->pZ
 | .pair _ _,0=>some 0
 | .pair a b,i+1=>(b.offs i).map fun o=>a.cells+o
 |_,_=>none
@[go_sem] def Ty.fld:Ty->Nat->Option Ty
 | .pair a _,0=>some a
 | .pair _ b,i+1=>b.fld i
 |_,_=>none
@[go_sem] def Ty.setPart (u:Ty) (y:u.den):(t:Ty)->t.den->Nat->Option t.den
 | .pair a b,x,0=>if h:u=a then some (u7 h y,x.2) else none
 | .pair a b,x,i+1=>(Ty.setPart u y b x.2 i).map fun z=>(x.1,z)
 |_,_,_=>none
inductive DV where
 |any
 |nilS
 |val (t:Ty) (x:t.den)
 |at (t:Ty) (x:t.den)
 |tup (l:List ((Σ t:Ty,t.den)×pZ))
 |cond (p:Bool) (d:DV)
 |flag (p q:Prop)
 |own (k n:Nat)
 |elt (k n c:Nat) (i:Int) (o:Nat)
 |apd (d:DV)
 |nxt (b:Bool) (p c:Int)
abbrev qM:=DV×pZ
inductive qJ where
 |cells (t:Ty) (x:t.den) (toks:pV)
 |grow (e:TypeId) (c:Nat) (n:Nat)
 |row (e:TypeId) (t:Ty) (l:List t.den) (n:Nat)
 |map (k v:Ty) (l:List (k.den×v.den))
 |iter (s:pM) (p:Nat)
 |dead
structure St where
 env:List (Nat×qM)
 H:List (Nat×qJ)
 nb:Nat
 N:Nat
 np:Nat:=0
@[go_sem] def lk:List (Nat×qM)->Nat->qM
 |[],_=>(.any,none)
 |(k,s)::r,t=>if k=t then s else lk r t
@[go_sem] def qO:List (Nat×qJ)->Nat->Option qJ
 |[],_=>none
 |(k,s)::r,t=>if k=t then some s else qO r t
structure TI where
 ty:Ty
 elem:TypeId:=0
 bytes:Nat:=0
 arr:Bool:=false
 ls:List (Nat×TypeId×Nat):=[]
abbrev sQ:=List (Nat×TI)
@[go_sem] def rT:sQ->TypeId->Option TI
 |[],_=>none
 |(k,s)::r,t=>if k=t then some s else rT r t
inductive PK where
 |v|own|p (t:Ty) (os:q8) |m|r|f (ks:List (Ty×q8)) |q
structure qW where
 side:List Prop
 ret:List qM
 H:List qJ
structure rL where
 ps:List PK
 C:List qM->List qJ->Option qW
 gs:List (Nat×Nat×PK):=[]
 same:q8:=[]
 row:Option ((t:Ty)->List t.den->Option (List t.den)):=none
abbrev tE:=Nat->Option rL
structure qS where
 side:List Prop
 slot:qM
 upd:List (Nat×qJ)
 rds:q8
abbrev Z4:Nat:=900000000
@[go_sem] def IJ:q8->Bool
 |[]=>false
 |i::_=>if i=1000000000 then true else false
@[go_sem] def orE:Option qS->Option qS->Option qS
 |some r,_=>some r
 |none,r=>r
@[go_sem] def AT:Option (List Prop×DV)->Option qS
 |some (p,d)=>some ⟨p,(d,none),[],[]⟩
 |none=>none
@[go_sem] def Z5:qB->DV
 | .bool b=> .val .bool b
 | .int k n=> .val (.int k) n
 | .string s=> .val .str s.data.toList
 | .slice none 0 0=> .nilS
 | .pointer none=> .val .ref none
 | .nilFunc=> .val .clo none
 | .map none=> .val .mp none
 |_=> .any
@[go_sem] def tV (env:List (Nat×qM)):Operand->qM
 | .tmp t=>lk env t
 | .const v=>(Z5 v,none)
 | .func f=>(.val .clo (some (f,[])),none)
 | .global _=>(.any,none)
@[go_sem] def N6:Option TI->qM->qM
 |some ⟨.list t,_,_,_,_⟩,(.nilS,_)=>(.val (.list t) [],none)
 |some ⟨.ap,_,_,_,_⟩,(.val .clo none,_)=>(.val .ap (0,0,(0,0),(0,0)),none)
 |_,s=>s
@[go_sem] def KG:IntKind->Int->List Prop×DV
 | .i64,n=>([-9223372036854775808<=n/\n<=9223372036854775807],.val (.int .i64) n)
 |k,n=>([],.val (.int k) (k.wrap n))
@[go_sem] def r6 {α:Type}:List α->List α->List α
 |[],m=>m
 |x::l,m=>x::r6 l m
@[go_sem] def CE:(t:Ty)->t.den->t.den->Option Bool
 | .bool,a,b=>some (a==b)
 | .int _,a,b=>some (decide ((a:Int)=b))
 | .str,a,b=>some (decide ((a:pM)=b))
 | .unit,_,_=>some true
 | .pair s t,a,b=>eqAnd (CE s a.1 b.1) (CE t a.2 b.2)
 |_,_,_=>none
where
 eqAnd:Option Bool->Option Bool->Option Bool
  |some x,some y=>some (x&&y)
  |_,_=>none
attribute [go_sem] CE.eqAnd
@[go_sem] def Z6 (k:IntKind) (a b:Int):BinOp->Option (List Prop×DV)
 | .add=>some (KG k (a+b))
 | .sub=>some (KG k (a-b))
 | .mul=>some (KG k (a*b))
 | .eql=>some ([],.val .bool (decide (a=b)))
 | .neq=>some ([],.val .bool (!decide (a=b)))
 | .lss=>some ([],.val .bool (decide (a<b)))
 | .leq=>some ([],.val .bool (decide (a<=b)))
 | .gtr=>some ([],.val .bool (decide (b<a)))
 | .geq=>some ([],.val .bool (decide (b<=a)))
 | .quo=>some ([b≠0],.val (.int k) (k.wrap (Int.tdiv a b)))
 | .rem=>some ([b≠0],.val (.int k) (Int.tmod a b))
 | .and=>some ([],.val (.int k) (bits .and k a b))
 | .or=>some ([],.val (.int k) (bits .or k a b))
 | .xor=>some ([],.val (.int k) (bits .xor k a b))
 | .andNot=>some ([],.val (.int k) (bits .andNot k a b))
 |_=>none
def Z7 (k:IntKind) (a b:Int):Int:=k.wrap (a*2^min b.toNat k.bits)
def yI (k:IntKind) (a b:Int):Int:=a.fdiv (2^min b.toNat k.bits)
@[go_sem] def a87 (k:IntKind) (a:Int) (k':IntKind) (b:Int):BinOp->Option (List Prop×DV)
 | .shl=>some ([0<=b],.val (.int k) (Z7 k a b))
 | .shr=>some ([0<=b],.val (.int k) (yI k a b))
 |op=>if k=k' then Z6 k a b op else none
@[go_sem] def Z8 (a b:pM):BinOp->Option (List Prop×DV)
 | .add=>some ([((a++b).length:Int)<=9223372036854775807],.val .str (a++b))
 | .eql=>some ([],.val .bool (decide (a=b)))
 | .neq=>some ([],.val .bool (!decide (a=b)))
 | .lss=>some ([],.val .bool (Op.bytesLess a b))
 | .leq=>some ([],.val .bool (Op.bytesLess a b||decide (a=b)))
 | .gtr=>some ([],.val .bool (!(Op.bytesLess a b||decide (a=b))))
 | .geq=>some ([],.val .bool (!Op.bytesLess a b))
 |_=>none
@[go_sem] def N7:BinOp->Option Bool->Option (List Prop×DV)
 | .eql,some r=>some ([],.val .bool r)
 | .neq,some r=>some ([],.val .bool (!r))
 |_,_=>none
@[go_sem] def T0 (op:BinOp):qM->qM->Option (List Prop×DV)
 |(.val (.int k) a,_),(.val (.int k') b,_)=>a87 k a k' b op
 |(.val .str a,_),(.val .str b,_)=>Z8 a b op
 |_,_=>none
@[go_sem] def a88 (k:IntKind) (a b:Int):BinOp->Option (List Prop×DV)
 | .add=>some ([],.val (.int k) (k.wrap (a+b)))
 | .sub=>some ([],.val (.int k) (k.wrap (a-b)))
 | .mul=>some ([],.val (.int k) (k.wrap (a*b)))
 |_=>none
@[go_sem] def T5 (op:BinOp):Option TI->qM->qM->Option (List Prop×DV)
 |some ⟨.int _,_,_,true,_⟩,(.val (.int k) a,_),(.val (.int k') b,_)=>if k=k' then a88 k a b op else none
 |_,_,_=>none
@[go_sem] def a89 (u:Ty) (b:Nat) (op:BinOp) (t t':Ty) (x:t.den) (y:t'.den):Option (List Prop×DV):=
 if h:t'=t then(if t=u/\(t= .bool\/(t.isRow=true/\b=1)) then N7 op (CE t x (u7 h y)) else none) else none
@[go_sem] def T6 {α:Type}(l:List α):BinOp->Option (List Prop×DV)
 | .eql=>some ([],.flag (l=[]) True)
 | .neq=>some ([],.flag True (l=[]))
 |_=>none
@[go_sem] def z8 {α:Type}:Option α->Bool
 |none=>true
 |some _=>false
@[go_sem] def Z9:Option TI->BinOp->qM->qM->Option (List Prop×DV)
 |some ⟨.list _,_,_,_,_⟩,op,(.val (.list _) l,_),(.nilS,_)=>T6 l op
 |some ⟨.list _,_,_,_,_⟩,op,(.nilS,_),(.val (.list _) l,_)=>T6 l op
 |some ⟨.ap,_,_,_,_⟩,op,(.val .ap x,_),(.val .clo none,_)=>N7 op (some (decide (x.1=0)))
 |some ⟨.clo,_,_,_,_⟩,op,(.val .fn x,_),(.val .clo none,_)=>N7 op (some (z8 x))
 |some ⟨u,_,b,_,_⟩,op,(.val t x,_),(.val t' y,_)=>a89 u b op t t' x y
 |_,_,_,_=>none
@[go_sem] def ZA:Option (List Prop×DV)->Option (List Prop×DV)->Option (List Prop×DV)
 |some r,_=>some r
 |none,r=>r
@[go_sem] def ZB:UnOp->qM->Option (List Prop×DV)
 | .not,(.val .bool b,_)=>some ([],.val .bool (!b))
 | .neg,(.val (.int k) n,_)=>some (KG k (-(n:Int)))
 |_,_=>none
def uA (l:pW):pM:=l.map fun n=>UInt8.ofNat n.toNat
def uI (s:pM):pW:=s.map fun b=>(b.toNat:Int)
@[go_sem] def T7:Option TI->Option TI->qM->Option (List Prop×DV)
 |some _,some ⟨.int k,_,_,_,_⟩,(.val (.int _) n,_)=>some ([],.val (.int k) (k.wrap n))
 |some _,some ⟨.str,_,_,_,_⟩,(.val .str s,_)=>some ([],.val .str s)
 |_,_,_=>none
@[go_sem] def a9a (l:pW):Option TI->Option (List Prop×DV)
 |some ⟨.int .u8,_,_,_,_⟩=>some ([],.val .str (uA l))
 |_=>none
@[go_sem] def ZC (T:sQ):Option TI->Option TI->qM->Option (List Prop×DV)
 |some ⟨.list (.int .u8),e,_,_,_⟩,some ⟨.str,_,_,_,_⟩,(.val (.list (.int .u8)) l,_)=>a9a l (rT T e)
 |_,_,_=>none
def s7 {α:Type}(l:List α) (lo hi:Int):List α:=(l.drop lo.toNat).take (hi.toNat-lo.toNat)
@[go_sem] def E5:Option qM->Int->Option Int
 |none,d=>some d
 |some (.val (.int _) n,_),_=>some n
 |_,_=>none
@[go_sem] def T8 (t:Ty) (n:Nat) (f:Int->Int->t.den):Option Int->Option Int->Option (List Prop×DV)
 |some a,some b=>some ([0<=a/\a<=b/\b<=(n:Int)],.val t (f a b))
 |_,_=>none
@[go_sem] def ZD:Option TI->qM->Option qM->Option qM->Option (List Prop×DV)
 |some ⟨.str,_,_,_,_⟩,(.val .str l,_),lo,hi=>T8 .str (List.length l) (s7 l) (E5 lo 0) (E5 hi (List.length l))
 |some ⟨.list u,_,_,_,_⟩,(.val (.list t) l,_),lo,hi=>if t=u then T8 (.list t) (List.length l) (s7 l) (E5 lo 0) (E5 hi (List.length l)) else none
 |_,_,_,_=>none
@[go_sem] def T9 (t:Ty) (x:t.den) (i:Nat):Option Ty->Option t.den
 |some (.list u)=>Ty.setPart (.list u) [] t x i
 |_=>none
@[go_sem] def AU (t:Ty):Option t.den->List (Nat×qM)->Option t.den
 |some x,[]=>some x
 |some x,(i,(.val u y,_))::r=>AU t (Ty.setPart u y t x i) r
 |some x,(i,(.nilS,_))::r=>AU t (T9 t x i (t.fld i)) r
 |_,_=>none
@[go_sem] def DG (t:Ty):Nat->List t.den
 |0=>[]
 |n+1=>t.zero::DG t n
@[go_sem] def a9b (t:Ty) (n:Nat) (l:List t.den) (i:Nat) (u:Ty) (y:u.den):Option (List t.den):=if h:u=t/\i<n then some (l.set i (u7 h.1 y)) else none
@[go_sem] def BQ (t:Ty) (n:Nat):Option (List t.den)->List (Nat×qM)->Option (List t.den)
 |some l,[]=>some l
 |some l,(i,(.val u y,_))::r=>BQ t n (a9b t n l i u y) r
 |_,_=>none
attribute [go_sem] List.set_cons_zero List.set_cons_succ
@[go_sem] def KH:List qM->Option pV
 |[]=>some []
 |(.val .ref (some p),_)::r=>(KH r).map (p:: ·)
 |_=>none
@[go_sem] def xD:pV->Nat->pZ
 |[],_=>none
 |(o,k)::r,a=>if o=a then some k else xD r a
@[go_sem] def xU:pZ->Nat->pV
 |some k,o=>[(o,k)]
 |none,_=>[]
@[go_sem] def tK:pV->Nat->Nat->pV
 |[],_,_=>[]
 |(q,k)::r,o,n=>if o<=q/\q<o+n then tK r o n else(q,k)::tK r o n
@[go_sem] def F9:Ty->pZ->pZ
 | .list _,k=>k
 |_,_=>none
@[go_sem] def zA {α:Type}:List α->List α->List α
 |[],acc=>acc
 |x::l,acc=>zA l (x::acc)
inductive rQ where
 |box (id:Nat) (u:Ty) (x:u.den) (toks:pV) (o:Nat)
 |tok (id:Nat)
@[go_sem] def rQ.id:rQ->Nat
 | .box i _ _ _ _=>i
 | .tok k=>k
@[go_sem] def AB:Nat->q8->Bool
 |_,[]=>false
 |i,j::r=>if i=j then true else AB i r
@[go_sem] def sE:List rQ->q8
 |[]=>[]
 |w::r=>w.id::sE r
structure t6 where
 args:List qM
 H:List qJ
 ws:List rQ
 n:Nat
@[go_sem] def KI:q8->Nat->pV
 |[],_=>[]
 |q::qs,n=>(q,n)::KI qs (n+1)
@[go_sem] def CF (k:Nat):Option qJ->Option t6->Option t6
 |some (.grow e c m),some a=>if AB k (sE a.ws)=true then none else some ⟨a.args,.grow e c m::a.H,.tok k::a.ws,a.n+1⟩
 |_,_=>none
@[go_sem] def zU (H:List (Nat×qJ)):pZ->Option t6->Option t6
 |some k,a=>CF k (qO H k) a
 |none,_=>none
@[go_sem] def yU (H:List (Nat×qJ)) (toks:pV) (o:Nat):q8->Option t6->Option t6
 |[],a=>a
 |q::qs,a=>yU H toks o qs (zU H (xD toks (o+q)) a)
@[go_sem] def N8 (n:Nat):q8->Bool
 |[]=>true
 |q::qs=>decide (q<n)&&N8 n qs
@[go_sem] def FA (H:List (Nat×qJ)) (t:Ty) (os:q8) (i o:Nat) (u:Ty) (x:u.den) (toks:pV) (a:t6):Option t.den->Option t6
 |some y=>if (N8 t.cells os&& !AB i (sE a.ws))=true then yU H toks o os (some ⟨(.val .ref (some (a.n,0)),none)::a.args,.cells t y (KI os (a.n+1))::a.H,.box i u x toks o::a.ws,a.n+1⟩) else none
 |none=>none
@[go_sem] def vT (H:List (Nat×qJ)) (t:Ty) (os:q8) (i o:Nat) (a:t6):Option qJ->Option t6
 |some (.cells u x toks)=>FA H t os i o u x toks a (rC t u x o)
 |_=>none
@[go_sem] def CG (t:Ty) (x:t.den) (k:Nat) (a:t6):Option qJ->Option t6
 |some (.grow e c m)=>if (t.pure&& !AB k (sE a.ws))=true then some ⟨(.val t x,some a.n)::a.args,.grow e c m::a.H,.tok k::a.ws,a.n+1⟩ else none
 |_=>none
@[go_sem] def TA (t:Ty) (x:t.den) (a:t6):Option t6:=
 if t.pure=true then some ⟨(.val t x,none)::a.args,a.H,a.ws,a.n⟩ else none
@[go_sem] def TB (f:FuncId) (a:t6):Option t6:=some ⟨(.val .clo (some (f,[])),none)::a.args,a.H,a.ws,a.n⟩
@[go_sem] def TC (a:t6):Option t6:=some ⟨(.nilS,none)::a.args,a.H,a.ws,a.n⟩
@[go_sem] def CH (i:Nat) (a:t6):Option qJ->Option t6
 |some (.map k v l)=>if (k.pure&&v.pure&& !AB i (sE a.ws))=true then some ⟨(.val .mp (some a.n),none)::a.args,.map k v l::a.H,.tok i::a.ws,a.n+1⟩ else none
 |_=>none
def xV (k n:Nat) (a:t6):Option qJ->Option t6
 |some (.row e t l m)=>if (t.pure&& !AB k (sE a.ws))=true then some ⟨(.own a.n n,none)::a.args,.row e t l m::a.H,.tok k::a.ws,a.n+1⟩ else none
 |some (.grow e c m)=>if (!AB k (sE a.ws))=true then some ⟨(.own a.n n,none)::a.args,.grow e c m::a.H,.tok k::a.ws,a.n+1⟩ else none
 |_=>none
attribute [go_sem] xV.eq_1 xV.eq_2 xV.eq_3
@[go_sem] def xW (H:List (Nat×qJ)) (f:FuncId) (args:List qM):List (Ty×q8)->pV->pV->Option t6->Option t6
 |[],[],ids,some a=>some ⟨(.val .clo (some (f,zA ids [])),none)::args,a.H,a.ws,a.n⟩
 |(t,os)::ks,(i,o)::cs,ids,some a=>xW H f args ks cs ((a.n,0)::ids) (vT H t os i o a (qO H i))
 |_,_,_,_=>none
@[go_sem] def DH (i o:Nat):List rQ->Nat->pY
 |[],_=>none
 | .box j _ _ _ oc::r,c=>if j=i/\oc<=o then some (c,o-oc) else DH i o r (c+1)
 | .tok _::r,c=>DH i o r (c+1)
@[go_sem] def PF (a:t6):pY->Option t6
 |some p=>some ⟨(.val .ref (some p),none)::a.args,a.H,a.ws,a.n⟩
 |none=>none
@[go_sem] def xX (H:List (Nat×qJ)) (a:t6):PK->qM->Option t6
 | .v,(.val .clo (some (f,[])),_)=>TB f a
 | .v,(.val t x,_)=>TA t x a
 | .v,(.nilS,_)=>TC a
 | .own,(.val (.list t) x,some k)=>CG (.list t) x k a (qO H k)
 | .p t os,(.val .ref (some (i,o)),_)=>vT H t os i o a (qO H i)
 | .m,(.val .mp (some i),_)=>CH i a (qO H i)
 | .r,(.own k n,_)=>xV k n a (qO H k)
 | .f ks,(.val .clo (some (f,cs)),_)=>xW H f a.args ks cs [] (some a)
 | .q,(.val .ref (some (i,o)),_)=>PF a (DH i o (zA a.ws []) 0)
 |_,_=>none
@[go_sem] def xY (H:List (Nat×qJ)):List PK->List qM->Option t6->Option t6
 |_,_,none=>none
 |[],[],some a=>some a
 |p::ps,s::ss,some a=>xY H ps ss (xX H a p s)
 |_,_,some _=>none
@[go_sem] def aIA:Option pY->qM
 |some (some p)=>(.val .ref (some p),none)
 |_=>(.any,none)
@[go_sem] def aIB:Option pZ->qM
 |some (some i)=>(.val .mp (some i),none)
 |_=>(.any,none)
@[go_sem] def aIC:Option pY->qM
 |some (some (k,n))=>(.own k n,none)
 |_=>(.any,none)
@[go_sem] def CI:(t:Ty)->t.den->Nat->Option pY
 | .rl _ _,x,0=>some x
 | .pair a b,x,o=>if o<a.cells then CI a x.1 o else CI b x.2 (o-a.cells)
 |_,_,_=>none
@[go_sem] def KJ (q:Nat):PK->Option qJ->qM
 | .r,some (.cells t y _)=>aIC (CI t y q)
 | .p _ _,some (.cells t y _)=>aIA (rC .ref t y q)
 | .m,some (.cells t y _)=>aIB (rC .mp t y q)
 |_,_=>(.any,none)
@[go_sem] def IK:List qJ->Nat->Option qJ
 |[],_=>none
 |b::_,0=>some b
 |_::r,n+1=>IK r n
@[go_sem] def N9 (l:List qM):Option t6->Option t6
 |some a=>some ⟨l,a.H,a.ws,a.n⟩
 |none=>none
@[go_sem] def BR (H:List (Nat×qJ)):List (Nat×Nat×PK)->Option t6->Option t6
 |_,none=>none
 |[],some a=>some a
 |(c,q,pk)::r,some a=>BR H r (N9 a.args (xX H a pk (KJ q pk (IK a.H (a.n-1-c)))))
@[go_sem] def vU (i:Nat):List rQ->Nat->pZ
 |[],_=>none
 | .tok j::r,c=>if j=i then some c else vU i r (c+1)
 | .box _ _ _ _ _::r,c=>vU i r (c+1)
@[go_sem] def FB {α β:Type}:Option α->Option β->Option (α×β)
 |some a,some b=>some (a,b)
 |_,_=>none
@[go_sem] def TD (W:List rQ):pY->Option pY
 |none=>some none
 |some (i,o)=>(DH i o W 0).map some
@[go_sem] def a9c (W:List rQ):pZ->Option pZ
 |none=>some none
 |some i=>(vU i W 0).map some
@[go_sem] def a9d (W:List rQ):pY->Option pY
 |none=>some none
 |some (k,n)=>(vU k W 0).map fun c=>some (c,n)
@[go_sem] def PG:Option (Nat×pV)->Option (Option (Nat×pV))
 |none=>some none
 |some (f,[])=>some (some (f,[]))
 |_=>none
@[go_sem] def TE (c n3 n4:Nat):pY->pZ->pZ->Option (Nat×Nat×(Nat×Nat)×(Nat×Nat))
 |some (i,0),some k3,some k4=>some (c,i,(k3,n3),(k4,n4))
 |_,_,_=>none
@[go_sem] def a9e (W:List rQ):Nat×Nat×(Nat×Nat)×(Nat×Nat)->Option (Nat×Nat×(Nat×Nat)×(Nat×Nat))
 |(c,i,(k3,n3),(k4,n4))=>TE c n3 n4 (DH i 0 W 0) (vU k3 W 0) (vU k4 W 0)
@[go_sem] def CJ (W:List rQ):(t:Ty)->t.den->Option t.den
 | .ref,x=>TD W x
 | .clo,x=>PG x
 | .mp,x=>a9c W x
 | .pair a b,x=>FB (if a.pure=true then some x.1 else CJ W a x.1) (if b.pure=true then some x.2 else CJ W b x.2)
 | .list t,x=>if t.pure=true then some x else none
 | .bool,x=>some x
 | .int _,x=>some x
 | .str,x=>some x
 | .unit,x=>some x
 | .rl _ _,x=>a9d W x
 | .fn,x=>some x
 | .mref,x=>TD W x
 | .ap,x=>a9e W x
@[go_sem] def ZE:Option qJ->Option (List qJ)->Option (List qJ)
 |some b,some l=>some (b::l)
 |_,_=>none
@[go_sem] def aID (t:Ty) (ts:pV):Option t.den->Option qJ
 |some y=>some (.cells t y ts)
 |none=>none
def KK (W:List rQ):qJ->Option qJ
 | .cells t y ts=>if t.pure=true then some (.cells t y ts) else aID t ts (CJ W t y)
 |b=>some b
attribute [go_sem] KK.eq_1 KK.eq_2
@[go_sem] def IL (W:List rQ):List qJ->Option (List qJ)
 |[]=>some []
 |b::r=>ZE (KK W b) (IL W r)
@[go_sem] def zB:List rQ->Nat->Option rQ
 |[],_=>none
 |w::_,0=>some w
 |_::r,n+1=>zB r n
@[go_sem] def NA (n:Nat) (c:Nat):Option rQ->Bool
 |some _=>false
 |none=>decide (c<n)
@[go_sem] def zV (base n c:Nat):Option rQ->pZ
 |some (.box _ _ _ _ _)=>none
 |some (.tok k)=>some k
 |none=>if c<n then some (base+c) else none
@[go_sem] def a9f (base n c o:Nat):Option rQ->qM
 |some (.box i _ _ _ o')=>(.val .ref (some (i,o'+o)),none)
 |wh=>if NA n c wh=true then(.val .ref (some (base+c,o)),none) else(.any,none)
@[go_sem] def KL (base n:Nat) (W:List rQ):pZ->pZ
 |some c=>zV base n c (zB W c)
 |none=>none
@[go_sem] def aIE (m:Nat):pZ->qM
 |some k=>(.own k m,none)
 |none=>(.any,none)
@[go_sem] def aIF:pZ->qM
 |some k=>(.val .mp (some k),none)
 |none=>(.any,none)
@[go_sem] def PH (base n c o:Nat):Option rQ->pY
 |some (.box i _ _ _ o')=>some (i,o'+o)
 |wh=>if NA n c wh=true then some (base+c,o) else none
@[go_sem] def aIG:pY->Option pV->Option pV
 |some p,some l=>some (p::l)
 |_,_=>none
@[go_sem] def NB (base n:Nat) (W:List rQ):pV->Option pV
 |[]=>some []
 |(c,o)::r=>aIG (PH base n c o (zB W c)) (NB base n W r)
@[go_sem] def aIH (f:Nat):Option pV->qM
 |some l=>(.val .clo (some (f,l)),none)
 |none=>(.any,none)
@[go_sem] def TF (base n:Nat) (W:List rQ):qM->qM
 |(.own c m,_)=>aIE m (KL base n W (some c))
 |(.val .ref (some (c,o)),_)=>a9f base n c o (zB W c)
 |(.val .ref none,_)=>(.val .ref none,none)
 |(.val .mp (some c),_)=>aIF (KL base n W (some c))
 |(.val .mp none,_)=>(.val .mp none,none)
 |(.val .clo (some (f,cs)),_)=>aIH f (NB base n W cs)
 |(.val t x,k)=>if t.pure=true then(.val t x,KL base n W (F9 t k)) else(.any,none)
 |_=>(.any,none)
@[go_sem] def aII (q:Nat):pZ->pV->pV
 |some k,r=>(q,k)::r
 |none,r=>r
@[go_sem] def E6 (base n:Nat) (W:List rQ) (o:Nat):pV->pV
 |[]=>[]
 |(q,c)::r=>aII (o+q) (zV base n c (zB W c)) (E6 base n W o r)
@[go_sem] def KM (base n:Nat) (W:List rQ):pY->Option pY
 |none=>some none
 |some (c,o)=>back2 c o (zB W c)
where
 back2 (c o:Nat):Option rQ->Option pY
  |some (.box i _ _ _ o')=>some (some (i,o'+o))
  |wh=>if NA n c wh=true then some (some (base+c,o)) else none
attribute [go_sem] KM.back2
@[go_sem] def a9g (base n:Nat) (W:List rQ):pZ->Option pZ
 |none=>some none
 |some c=>(zV base n c (zB W c)).map some
@[go_sem] def a9h (base n:Nat) (W:List rQ):pY->Option pY
 |none=>some none
 |some (c,q)=>(zV base n c (zB W c)).map fun k=>some (k,q)
@[go_sem] def a9i (base n:Nat) (W:List rQ):Nat×Nat×(Nat×Nat)×(Nat×Nat)->Option (Nat×Nat×(Nat×Nat)×(Nat×Nat))
 |(c,i,(k3,n3),(k4,n4))=>TE c n3 n4 (PH base n i 0 (zB W i)) (zV base n k3 (zB W k3)) (zV base n k4 (zB W k4))
@[go_sem] def BS (base n:Nat) (W:List rQ):(t:Ty)->t.den->Option t.den
 | .ref,x=>KM base n W x
 | .clo,x=>PG x
 | .mp,x=>a9g base n W x
 | .pair a b,x=>FB (if a.pure=true then some x.1 else BS base n W a x.1) (if b.pure=true then some x.2 else BS base n W b x.2)
 | .list t,x=>if t.pure=true then some x else none
 | .bool,x=>some x
 | .int _,x=>some x
 | .str,x=>some x
 | .unit,x=>some x
 | .rl _ _,x=>a9h base n W x
 | .fn,x=>some x
 | .mref,x=>KM base n W x
 | .ap,x=>a9i base n W x
@[go_sem] def TG (i o:Nat) (u t:Ty) (toks ts:pV):Option u.den->Option (Nat×qJ)
 |some z=>some (i,.cells u z (r6 ts (tK toks o t.cells)))
 |none=>none
@[go_sem] def a9j (i:Nat) (t:Ty) (ts:pV):Option t.den->Option (Nat×qJ)
 |some y=>some (i,.cells t y ts)
 |none=>none
def yJ (base n c:Nat) (W:List rQ):qJ->Option (Nat×qJ)
 | .cells t y ts=>if t.pure=true then some (base+c,.cells t y (E6 base n W 0 ts)) else a9j (base+c) t (E6 base n W 0 ts) (BS base n W t y)
 | .grow e m k=>some (base+c,.grow e m k)
 | .row e t l n=>if t.pure=true then some (base+c,.row e t l n) else none
 | .map k v l=>if (k.pure&&v.pure)=true then some (base+c,.map k v l) else none
 | .iter _ _=>none
 | .dead=>some (base+c,.dead)
attribute [go_sem] yJ.eq_1 yJ.eq_2 yJ.eq_3 yJ.eq_4 yJ.eq_5 yJ.eq_6
def wC (k:Nat):qJ->Option (Nat×qJ)
 | .cells _ _ _=>none
 | .grow e m n=>some (k,.grow e m n)
 | .row e t l n=>if t.pure=true then some (k,.row e t l n) else none
 | .map s v l=>if (s.pure&&v.pure)=true then some (k,.map s v l) else none
 | .iter _ _=>none
 | .dead=>some (k,.dead)
attribute [go_sem] wC.eq_1 wC.eq_2 wC.eq_3 wC.eq_4 wC.eq_5 wC.eq_6
@[go_sem] def a9k (i o:Nat) (u t:Ty) (toks ts:pV) (x:u.den):Option t.den->Option (Nat×qJ)
 |some y=>TG i o u t toks ts (sI t y u x o)
 |none=>none
@[go_sem] def xZ (base n i o:Nat) (W:List rQ) (u:Ty) (x:u.den) (toks:pV):qJ->Option (Nat×qJ)
 | .cells t y ts=>if t.pure=true then TG i o u t toks (E6 base n W o ts) (sI t y u x o) else a9k i o u t toks (E6 base n W o ts) x (BS base n W t y)
 | .dead=>some (i,.dead)
 | .grow _ _ _=>none
 | .row _ _ _ _=>none
 | .map _ _ _=>none
 | .iter _ _=>none
@[go_sem] def PI:Option (Nat×qJ)->Option (List (Nat×qJ))->Option (List (Nat×qJ))
 |some q,some r=>some (q::r)
 |_,_=>none
@[go_sem] def BT (base n:Nat) (W:List rQ):Nat->List rQ->List qJ->Option (List (Nat×qJ))
 |_,[],[]=>some []
 |c,[],b::L=>PI (yJ base n c W b) (BT base n W (c+1) [] L)
 |c,.box i u x toks o::ws,b::L=>PI (xZ base n i o W u x toks b) (BT base n W (c+1) ws L)
 |c,.tok k::ws,b::L=>PI (wC k b) (BT base n W (c+1) ws L)
 |_,_::_,[]=>none
@[go_sem] def GH:List qM->Option (List ((Σ t:Ty,t.den)×pZ))
 |[]=>some []
 |(.val t x,k)::r=>(GH r).map ((⟨t,x⟩,k):: ·)
 |(.own k n,_)::r=>(GH r).map ((⟨.rl 0 .unit,some (k,n)⟩,none):: ·)
 |_=>none
@[go_sem] def aIJ:Option (List ((Σ t:Ty,t.den)×pZ))->qM
 |some q=>(.tup q,none)
 |none=>(.any,none)
@[go_sem] def NC:List qM->Option qM
 |[]=>some (.tup [],none)
 |[s]=>some s
 |s::s'::l=>some (aIJ (GH (s::s'::l)))
@[go_sem] def ZF (W:List rQ):q8->q8
 |[]=>[]
 |c::r=>sameId (zB W c) (ZF W r)
where
 sameId:Option rQ->q8->q8
  |some w,r=>w.id::r
  |none,r=>r
attribute [go_sem] ZF.sameId
@[go_sem] def PJ (side:List Prop) (rds:q8):Option (List (Nat×qJ))->Option qM->Option qS
 |some H,some s=>some ⟨side,s,H,rds⟩
 |_,_=>none
@[go_sem] def PL (base n:Nat) (W:List rQ):List qM->List qM
 |[]=>[]
 |s::r=>TF base n W s::PL base n W r
@[go_sem] def rE:List qJ->Nat
 |[]=>0
 |_::r=>rE r+1
@[go_sem] def TH (base:Nat) (W:List rQ) (sm:q8):Option qW->Option qS
 |some r=>PJ r.side (r6 (sE W) (ZF W sm)) (BT base (rE r.H) W 0 W r.H) (NC (PL base (rE r.H) W r.ret))
 |none=>none
@[go_sem] def TJ (C:List qM->List qJ->Option qW) (sm:q8) (base:Nat) (W:List rQ) (args:List qM):Option (List qJ)->Option qS
 |some L=>TH base W sm (C args L)
 |none=>none
@[go_sem] def PM (C:List qM->List qJ->Option qW) (sm:q8) (base:Nat):Option t6->Option qS
 |some a=>TJ C sm base (zA a.ws []) (zA a.args []) (IL (zA a.ws []) (zA a.H []))
 |none=>none
@[go_sem] def GI (H:List (Nat×qJ)) (base:Nat) (args:List qM):Option rL->Option qS
 |some g=>PM g.C g.same base (BR H g.gs (xY H g.ps args (some ⟨[],[],[],0⟩)))
 |none=>none
@[go_sem] def PN:List PK->List qM->pZ
 | .r::ps,_::ss=>PN ps ss
 |_::_,(.own k _,_)::_=>some k
 |_::ps,_::ss=>PN ps ss
 |_,_=>none
@[go_sem] def a9l (k:Nat) (t:Ty) (l:List t.den):qM->qM
 |(.own j m,x)=>if j=k then(.val (.list t) l,none) else(.own j m,x)
 |s=>s
@[go_sem] def PO (k:Nat) (t:Ty) (l:List t.den):List qM->List qM
 |[]=>[]
 |s::r=>a9l k t l s::PO k t l r
@[go_sem] def KN (k n:Nat):List qM->List Prop
 |[]=>[]
 |(.own j m,_)::r=>(j=k->m=n)::KN k n r
 |_::r=>KN k n r
@[go_sem] def GJ:Ty->Bool
 | .list _=>false
 | .pair a b=>GJ a&&GJ b
 | .bool| .int _| .str| .unit| .fn=>true
 | .ref| .clo| .mp| .rl _ _| .mref| .ap=>false
@[go_sem] def qQ:List (Nat×qJ)->q8
 |[]=>[]
 |(i,_)::r=>i::qQ r
@[go_sem] def ND:List (Nat×qJ)->Bool
 |[]=>true
 |(_,.cells t _ [])::r=>GJ t&&ND r
 |_=>false
@[go_sem] def TK:List ((Σ t:Ty,t.den)×pZ)->Bool
 |[]=>true
 |(⟨t,_⟩,_)::r=>GJ t&&TK r
@[go_sem] def ZG:List ((Σ t:Ty,t.den)×pZ)->List ((Σ t:Ty,t.den)×pZ)
 |[]=>[]
 |(q,_)::r=>(q,none)::ZG r
@[go_sem] def TL:qM->Option qM
 |(.val t x,_)=>if GJ t=true then some (.val t x,none) else none
 |(.tup l,_)=>if TK l=true then some (.tup (ZG l),none) else none
 |_=>none
@[go_sem] def ZH (sd:List Prop) (k:Nat) (side:List Prop) (U:List (Nat×qJ)) (rds:q8):Option qM->Option qS
 |some s=>if (ND U&& !AB k (qQ U))=true then some ⟨r6 sd side,s,U,k::rds⟩ else none
 |none=>none
@[go_sem] def ZI (sd:List Prop) (k:Nat):Option qS->Option qS
 |some ⟨side,s,U,rds⟩=>ZH sd k side U rds (TL s)
 |none=>none
@[go_sem] def PP (H:List (Nat×qJ)) (base:Nat) (args:List qM) (g:rL) (k:Nat):Option qJ->Option qS
 |some (.row _ t l m)=>ZI (KN k m args) k (GI ((k,.dead)::H) base (PO k t l args) (some g))
 |_=>none
@[go_sem] def a9m (H:List (Nat×qJ)) (base:Nat) (args:List qM) (g:rL):pZ->Option qS
 |some k=>PP H base args g k (qO H k)
 |none=>GI H base args (some g)
@[go_sem] def a9n (k n m e:Nat) (t:Ty):Option (List t.den)->Option qS
 |some l=>some ⟨[n=m,m<4611686018427387904],(.tup [],none),[(k,.row e t l m)],[k]⟩
 |none=>none
@[go_sem] def ZJ (F:(t:Ty)->List t.den->Option (List t.den)) (k n:Nat):Option qJ->Option qS
 |some (.row e t l m)=>a9n k n m e t (F t l)
 |_=>none
@[go_sem] def TM (H:List (Nat×qJ)) (F:(t:Ty)->List t.den->Option (List t.den)):List qM->Option qS
 |[(.own k n,_)]=>ZJ F k n (qO H k)
 |_=>none
@[go_sem] def ZK (base:Nat):Option TI->qM->Option qS
 |some ⟨.list u,e,_,true,_⟩,(.nilS,_)=>some ⟨[],(.own base 0,none),[(base,.row e u [] 0)],[]⟩
 |some ⟨.list u,e,_,false,_⟩,(.nilS,_)=>some ⟨[],(.val (.list u) [],some base),[(base,.grow e u.cells 0)],[]⟩
 |_,(.nilS,_)=>none
 |_,s=>some ⟨[],s,[],[]⟩
@[go_sem] def FC:Ty->Nat->Bool
 | .list _,0=>true
 | .pair a b,o=>if o<a.cells then FC a o else FC b (o-a.cells)
 |_,_=>false
@[go_sem] def FD (t:Ty):List (Nat×TypeId×Nat)->Bool
 |[]=>true
 |(o,_,_)::r=>FC t o&&FD t r
@[go_sem] def CK:List (Nat×TypeId×Nat)->Nat->pV
 |[],_=>[]
 |(o,_,_)::r,i=>(o,i)::CK r (i+1)
@[go_sem] def E7:List (Nat×TypeId×Nat)->Nat->List (Nat×qJ)
 |[],_=>[]
 |(_,e,c)::r,i=>r6 (E7 r (i+1)) [(i,.grow e c 0)]
@[go_sem] def ZL (e:Nat):Bool:=if e=82 then true else if e=a84 then true else false
@[go_sem] def ZM (e:Nat) (u:Ty) (o:Nat):pY->List (Nat×Nat×Ty)
 |none=>[(o,e,u)]
 |some _=>[]
@[go_sem] def zW:(t:Ty)->t.den->Nat->List (Nat×Nat×Ty)
 | .rl e u,x,o=>ZM e u o x
 | .pair a b,x,o=>r6 (zW a x.1 o) (zW b x.2 (o+a.cells))
 |_,_,_=>[]
@[go_sem] def ZN (o:Nat):pY->q8
 |none=>[o]
 |some _=>[]
@[go_sem] def GK:(t:Ty)->t.den->Nat->q8
 | .mref,x,o=>ZN o x
 | .pair a b,x,o=>r6 (GK a x.1 o) (GK b x.2 (o+a.cells))
 |_,_,_=>[]
@[go_sem] def a9o:Nat->q8->q8
 |2,[0]=>[0]
 |_,_=>[]
@[go_sem] def TN (el:Nat) (t:Ty) (y:t.den):q8:=if ZL el=true then a9o t.cells (GK t y 0) else[]
@[go_sem] def BU (t:Ty):Nat->List (Nat×Nat×Ty)->Option t.den->Option t.den
 |_,[],x=>x
 |i,(o,e,u)::r,some x=>BU t (i+1) r (sI (.rl e u) (some (i,0)) t x o)
 |_,_::_,none=>none
@[go_sem] def IM (t:Ty) (i:Nat):q8->Option t.den->Option t.den
 |[],x=>x
 |q::r,some x=>IM t i r (sI .mref (some (i,q)) t x q)
 |_::_,none=>none
@[go_sem] def FE:List (Nat×Nat×Ty)->Nat->List (Nat×qJ)
 |[],_=>[]
 |(_,e,u)::r,i=>r6 (FE r (i+1)) [(i,.row e u [] 0)]
@[go_sem] def PQ {α:Type}:List α->Nat
 |[]=>0
 |_::r=>PQ r+1
@[go_sem] def a9p (base:Nat) (t:Ty) (ls:List (Nat×TypeId×Nat)) (R:List (Nat×Nat×Ty)):Option t.den->Option qS
 |some z=>some ⟨[],(.val .ref (some (base,0)),none),(base,.cells t z (CK ls (base+1)))::r6 (FE R (base+1+PQ ls)) (E7 ls (base+1)),[]⟩
 |none=>none
@[go_sem] def PR (base el:Nat) (t:Ty) (y:t.den) (ls:List (Nat×TypeId×Nat)):Bool->Option qS
 |true=>a9p base t ls (zW t y 0) (IM t base (TN el t y) (BU t (base+1+PQ ls) (zW t y 0) (some y)))
 |false=>none
@[go_sem] def CL (k:Nat):List (Nat×TypeId×Nat)->List (Nat×TypeId×Nat)
 |[]=>[]
 |(o,e,c)::r=>if o+1=k then CL k r else(o,e,c)::CL k r
@[go_sem] def a9q (base el:Nat) (ls:List (Nat×TypeId×Nat)):(t:Ty)->t.den->pZ->Option qS
 | .pair a b,y,some k=>PR base el (.pair a b) y (CL k ls) (FD (.pair a b) (CL k ls))
 | .list u,y,k=>some ⟨[],(.val .ref (some (base,0)),none),[(base,.cells (.list u) y (xU k 0))],[]⟩
 |t,y,_=>some ⟨[],(.val .ref (some (base,0)),none),[(base,.cells t y [])],[]⟩
@[go_sem] def PS (base el:Nat):Option TI->Option qS
 |some ⟨.list u,e,_,_,_⟩=>some ⟨[],(.val .ref (some (base,0)),none),[(base,.cells (.list u) [] [(0,base+1)]),(base+1,.grow e u.cells 0)],[]⟩
 |some ti=>PR base el ti.ty ti.ty.zero ti.ls (FD ti.ty ti.ls)
 |none=>none
@[go_sem] def ZO (base el:Nat):Option TI->qM->Option qS
 |some ti,(.val t y,k)=>if t=ti.ty then a9q base el ti.ls t y k else none
 |_,_=>none
@[go_sem] def ZP (base el:Nat):Option TI->qM->Option qS
 |some ⟨.list u,e,_,true,_⟩,(.nilS,_)=>PR base el (.rl e u) none [] true
 |some ⟨.list u,e,b,a,ls⟩,(.nilS,_)=>PS base el (some ⟨.list u,e,b,a,ls⟩)
 |ti,s=>ZO base el ti (N6 ti s)
@[go_sem] def KO:Ty->Bool
 | .list _=>true
 | .pair a b=>KO a||KO b
 | .bool| .int _| .str| .unit| .ref| .clo| .mp| .rl _ _| .mref| .fn| .ap=>false
@[go_sem] def TO:pZ->pZ->pZ
 |some o,some m=>if m=0 then some (o+1) else none
 |_,_=>none
@[go_sem] def ZQ:Ty->Bool
 | .list _=>true
 | .pair _ _| .bool| .int _| .str| .unit| .ref| .clo| .mp| .rl _ _| .mref| .fn| .ap=>false
@[go_sem] def TP (u:Ty) (o m:pZ):Bool->Bool->pZ
 |false,_=>m
 |true,true=>TO o m
 |true,false=>none
@[go_sem] def AV (t:Ty):List (Nat×qM)->pZ
 |[]=>some 0
 |(_,(.nilS,_))::r=>AV t r
 |(i,(.val u _,_))::r=>TP u (t.offs i) (AV t r) (KO u) (ZQ u)
 |_=>none
@[go_sem] def ZR:Ty->pZ->pZ
 | .pair _ _,m=>m
 |_,_=>none
@[go_sem] def aIK (t:Ty) (k:pZ):Option t.den->Option qS
 |some x=>some ⟨[],(.val t x,k),[],[]⟩
 |none=>none
@[go_sem] def ZS (sl:List (Nat×qM)):Option TI->Option qS
 |some ti=>if ti.ty.isRow=true then aIK ti.ty (ZR ti.ty (AV ti.ty sl)) (AU ti.ty (some ti.ty.zero) sl) else none
 |none=>none
@[go_sem] def TQ (base e c n:Nat) (t:Ty):Option (List t.den)->Option qS
 |some l=>if n<=16777216/\n*c<=16777216 then some ⟨[],(.val (.list t) l,some base),[(base,.grow e c n)],[]⟩ else none
 |none=>none
@[go_sem] def a9r (base e n:Nat) (t:Ty):Option (List t.den)->Option qS
 |some l=>if t.pure=true/\n<=16777216/\n*t.cells<=16777216 then some ⟨[],(.own base n,none),[(base,.row e t l n)],[]⟩ else none
 |none=>none
@[go_sem] def ZT (base n:Nat) (sl:List (Nat×qM)):Option TI->Option qS
 |some ⟨.list u,e,_,true,_⟩=>if n=0 then a9r base e n u (BQ u n (some (DG u n)) sl) else TQ base e u.cells n u (BQ u n (some (DG u n)) sl)
 |some ⟨.list u,e,_,false,_⟩=>TQ base e u.cells n u (BQ u n (some (DG u n)) sl)
 |_=>none
@[go_sem] def a9s (t:Ty) (k:pZ) (i:Nat):Option t.den->Option qS
 |some y=>some ⟨[],(.val t y,k),[],[i]⟩
 |none=>none
@[go_sem] def PT (t:Ty) (i off:Nat):Option qJ->Option qS
 |some (.cells u x toks)=>a9s t (F9 t (xD toks off)) i (rC t u x off)
 |_=>none
@[go_sem] def a9t (u:Ty) (k n m:Nat):Option u.den->Option qS
 |some y=>some ⟨[n=m],(.val u y,none),[],[k]⟩
 |none=>none
@[go_sem] def PU (u:Ty) (k n c:Nat) (i:Int) (o:Nat):Option qJ->Option qS
 |some (.row _ t l m)=>if c=t.cells then a9t u k n m (rC u t (qV t l i) o) else none
 |_=>none
@[go_sem] def ZU (i:Nat):Option pY->Option qS
 |some (some (k,n))=>some ⟨[],(.own k n,none),[],[i]⟩
 |_=>none
@[go_sem] def TR (i off:Nat):TI->Option qJ->Option qS
 |⟨.list u,e,_,_,_⟩,some (.cells v x _)=>ZU i (rC (.rl e u) v x off)
 |_,_=>none
@[go_sem] def ZV:pY->pY->pY
 |some p,_=>some p
 |none,q=>q
@[go_sem] def BV:(t:Ty)->t.den->pY
 | .rl _ _,x=>x
 | .pair a b,x=>ZV (BV a x.1) (BV b x.2)
 |_,_=>none
@[go_sem] def ZW (u0:Ty) (l:List u0.den) (u:Ty):pY->Option (Σ t:Ty,t.den)
 |some _=>if u=u0 then some ⟨.list u0,l⟩ else none
 |none=>none
@[go_sem] def KP (a b:Ty) (x:a.den) (y:b.den):pY->Option (Σ t:Ty,t.den)->Option (Σ t:Ty,t.den)->Option (Σ t:Ty,t.den)
 |some _,some ⟨a',x'⟩,_=>some ⟨.pair a' b,(x',y)⟩
 |some _,none,_=>none
 |none,_,some ⟨b',y'⟩=>some ⟨.pair a b',(x,y')⟩
 |none,_,none=>none
@[go_sem] def zX (u0:Ty) (l:List u0.den):(t:Ty)->t.den->Option (Σ t:Ty,t.den)
 | .rl _ u,x=>ZW u0 l u x
 | .pair a b,x=>KP a b x.1 x.2 (BV a x.1) (zX u0 l a x.1) (zX u0 l b x.2)
 |_,_=>none
@[go_sem] def ZX (t:Ty) (i k:Nat) (sd:Prop) (e:TypeId) (c n:Nat) (v:Ty) (x:v.den):Option t.den->Option qS
 |some y=>some ⟨[sd],(.val t y,none),[(i,.cells v x []),(k,.grow e c n)],[1000000000,i,k]⟩
 |none=>none
@[go_sem] def ZY (t:Ty) (i off k:Nat) (sd:Prop) (e:TypeId) (c n:Nat):Option (Σ t:Ty,t.den)->Option qS
 |some ⟨v,x⟩=>ZX t i k sd e c n v x (rC t v x off)
 |none=>none
@[go_sem] def TS (t:Ty) (i off k n0:Nat) (v:Ty) (x:v.den):Option qJ->Option qS
 |some (.row e u0 l m)=>ZY t i off k (n0=m) e u0.cells (List.length l) (zX u0 l v x)
 |_=>none
@[go_sem] def TT (H:List (Nat×qJ)) (t:Ty) (i off:Nat) (v:Ty) (x:v.den):pY->Option qS
 |some (k,n0)=>TS t i off k n0 v x (qO H k)
 |none=>none
@[go_sem] def IN (H:List (Nat×qJ)) (t:Ty) (i off:Nat):Option qJ->Option qS
 |some (.cells v x _)=>TT H t i off v x (BV v x)
 |_=>none
@[go_sem] def GL:Ty->Ty
 | .rl _ u=> .list u
 | .pair a b=> .pair (GL a) (GL b)
 | .bool=> .bool
 | .int k=> .int k
 | .str=> .str
 | .list t=> .list t
 | .unit=> .unit
 | .ref=> .ref
 | .clo=> .clo
 | .mp=> .mp
 | .mref=> .mref
 | .fn=> .fn
 | .ap=> .ap
@[go_sem] def a9u (u:Ty):Option qJ->Option (List u.den)
 |some (.row _ t l _)=>if h:t=u then some (u7 (t:= .list t) (u:= .list u) (by rw[h]) l) else none
 |_=>none
@[go_sem] def ZZ (H:List (Nat×qJ)) (u:Ty):pY->Option (List u.den)
 |some (k,_)=>a9u u (qO H k)
 |none=>some []
@[go_sem] def AW (H:List (Nat×qJ)):(t:Ty)->t.den->Option (GL t).den
 | .rl _ u,x=>ZZ H u x
 | .pair a b,x=>FB (AW H a x.1) (AW H b x.2)
 | .bool,x=>some x
 | .int _,x=>some x
 | .str,x=>some x
 | .list _,x=>some x
 | .unit,x=>some x
 | .ref,x=>some x
 | .clo,x=>some x
 | .mp,x=>some x
 | .mref,x=>some x
 | .fn,x=>some x
 | .ap,x=>some x
@[go_sem] def a0a:pY->pV
 |some p=>[p]
 |none=>[]
@[go_sem] def AX:(t:Ty)->t.den->pV
 | .rl _ _,x=>a0a x
 | .pair a b,x=>r6 (AX a x.1) (AX b x.2)
 |_,_=>[]
@[go_sem] def TU (k n:Nat):Option qJ->Option (Prop×qJ)
 |some (.row e t _ m)=>some (n=m,.grow e t.cells m)
 |_=>none
@[go_sem] def KQ (k:Nat):Option (Prop×qJ)->Option (List Prop×List (Nat×qJ))->Option (List Prop×List (Nat×qJ))
 |some (p,b),some (ps,bs)=>some (p::ps,(k,b)::bs)
 |_,_=>none
@[go_sem] def PV (k:Nat):pV->Bool
 |[]=>false
 |(j,_)::r=>if j=k then true else PV k r
@[go_sem] def BW (H:List (Nat×qJ)):pV->Option (List Prop×List (Nat×qJ))
 |[]=>some ([],[])
 |(k,n)::r=>if PV k r=true then none else KQ k (TU k n (qO H k)) (BW H r)
@[go_sem] def TV (t:Ty) (i:Nat):Option (List Prop×List (Nat×qJ))->Option t.den->Option qS
 |some (ps,bs),some y=>some ⟨ps,(.val t y,none),bs,i::qQ bs⟩
 |_,_=>none
@[go_sem] def TW (H:List (Nat×qJ)) (t:Ty) (i off:Nat) (v:Ty) (x:v.den):Option (GL v).den->Option qS
 |some z=>TV t i (BW H (AX v x)) (rC t (GL v) z off)
 |none=>none
@[go_sem] def KR (H:List (Nat×qJ)) (t:Ty) (i off:Nat):Option qJ->Option qS
 |some (.cells v x _)=>TW H t i off v x (AW H v x)
 |_=>none
@[go_sem] def orS (H:List (Nat×qJ)) (t:Ty) (i off:Nat) (b:Option qJ):Option qS->Option qS
 |some r=>some r
 |none=>IN H t i off b
@[go_sem] def TX (H:List (Nat×qJ)):Option TI->qM->Option qS
 |some ti,(.elt k n c i o,_)=>PU ti.ty k n c i o (qO H k)
 |some ti,(.at u x,_)=>if u=ti.ty then some ⟨[],(.val u x,none),[],[]⟩ else none
 |some ti,(.val .ref (some (i,off)),_)=>if ti.elem=Z4 then KR H ti.ty i off (qO H i) else orS H ti.ty i off (qO H i) (orE (PT ti.ty i off (qO H i)) (TR i off ti (qO H i)))
 |_,_=>none
@[go_sem] def NE (u:Ty) (i:Nat) (toks:pV):Option u.den->Option qS
 |some z=>some ⟨[],(.any,none),[(i,.cells u z toks)],[i]⟩
 |none=>none
@[go_sem] def TY (t:Ty) (y:t.den) (k:pZ) (i off:Nat):Option qJ->Option qS
 |some (.cells u x toks)=>NE u i (r6 (xU (F9 t k) off) (tK toks off t.cells)) (sI t y u x off)
 |_=>none
@[go_sem] def NF (off:Nat):pV->pV
 |[]=>[]
 |(o,k)::r=>(off+o,k)::NF off r
@[go_sem] def a9w (u:Ty) (i:Nat) (nt toks:pV) (bs:List (Nat×qJ)):Option u.den->Option qS
 |some z=>some ⟨[],(.any,none),(i,.cells u z (r6 nt toks))::r6 bs [(i,.cells u z toks)],[i]⟩
 |none=>none
@[go_sem] def TZ (t:Ty) (y:t.den) (ls:List (Nat×TypeId×Nat)) (base i off:Nat):Option qJ->Bool->Option qS
 |some (.cells u x toks),true=>a9w u i (NF off (CK ls base)) (tK toks off t.cells) (E7 ls base) (sI t y u x off)
 |_,_=>none
@[go_sem] def GM (base i off:Nat) (b:Option qJ):List (Nat×TypeId×Nat)->(t:Ty)->t.den->pZ->Option qS
 |q::r,.pair a c,y,some k=>TZ (.pair a c) y (CL k (q::r)) base i off b (FD (.pair a c) (CL k (q::r)))
 |_,t,y,k=>TY t y k i off b
@[go_sem] def KS:Ty->Bool
 | .rl _ _=>true
 | .pair a b=>KS a||KS b
 |_=>false
@[go_sem] def U0 (base:Nat) (sd:List Prop) (s:qM) (i:Nat) (v:Ty) (ts:pV) (U:List (Nat×qJ)) (R:List (Nat×Nat×Ty)):Option v.den->Option qS
 |some z=>some ⟨sd,s,(i,.cells v z ts)::r6 (FE R base) U,[i]⟩
 |none=>none
@[go_sem] def U1 (n:Nat):List (Nat×qJ)->Bool
 |[]=>true
 |(i,_)::r=>if i<n then U1 n r else false
@[go_sem] def PW (base:Nat):Option qS->Option qS
 |some ⟨sd,s,(i,.cells v z ts)::U,_⟩=>if U1 base ((i,.cells v z ts)::U)=true then U0 base sd s i v ts ((i,.cells v z ts)::U) (zW v z 0) (BU v base (zW v z 0) (some z)) else none
 |_=>none
@[go_sem] def a0b (base:Nat) (e:Option qS):Bool->Option qS
 |true=>PW base e
 |false=>e
@[go_sem] def U3 (i k n m e:Nat) (u v:Ty) (l:List u.den) (ts:pV):Option v.den->Option qS
 |some z=>some ⟨[n=m],(.any,none),[(i,.cells v z ts),(k,.grow e u.cells m)],[i,k]⟩
 |none=>none
@[go_sem] def PX (i off k n:Nat) (u v:Ty) (x:v.den) (ts:pV):Option qJ->Option qS
 |some (.row e t l m)=>if h:t=u then U3 i k n m e t v l ts (sI (.list t) l v x off) else none
 |_=>none
@[go_sem] def U4:Option pY->Nat×Nat
 |some (some p)=>p
 |_=>(0,0)
@[go_sem] def a9x (i j o:Nat) (r3 r4:Nat×Nat):Option (List Prop×(Nat×Nat×(Nat×Nat)×(Nat×Nat))):=
 if j=i then(if o=6 then some ([],(1,i,r3,r4)) else if o=7 then some ([],(2,i,r3,r4)) else none) else none
@[go_sem] def a9y (i k n c o:Nat) (ix:Int) (r3 r4:Nat×Nat):Option (List Prop×(Nat×Nat×(Nat×Nat)×(Nat×Nat))):=
 if c=1 then(if o=0 then(if k=r3.1 then some ([n=r3.2,ix+1=(n:Int)],(3,i,(k,r3.2),r4)) else none) else none)
 else if c=2 then(if o=1 then(if k=r4.1 then some ([n=r4.2,ix+1=(n:Int)],(4,i,r3,(k,r4.2))) else none) else none) else none
@[go_sem] def U5 (i:Nat):DV->Nat×Nat->Nat×Nat->Option (List Prop×(Nat×Nat×(Nat×Nat)×(Nat×Nat)))
 | .val .ref (some (j,o)),r3,r4=>a9x i j o r3 r4
 | .elt k n c ix o,r3,r4=>a9y i k n c o ix r3 r4
 |_,_,_=>none
@[go_sem] def a0c (i off:Nat) (v:Ty) (ts:pV) (sd:List Prop):Option v.den->Option qS
 |some z=>some ⟨sd,(.any,none),[(i,.cells v z (tK ts off 1))],[i]⟩
 |none=>none
@[go_sem] def a0d (i off:Nat) (v:Ty) (x:v.den) (ts:pV):Option (List Prop×(Nat×Nat×(Nat×Nat)×(Nat×Nat)))->Option qS
 |some (sd,y)=>a0c i off v ts sd (sI .ap y v x off)
 |none=>none
@[go_sem] def a0e (i off:Nat) (d:DV):Ty->Option qJ->Option qS
 | .ap,some (.cells v x ts)=>a0d i off v x ts (U5 i d (U4 (CI v x 8)) (U4 (CI v x 11)))
 |_,_=>none
@[go_sem] def a9z (k n m:Nat) (e:TypeId) (t:Ty) (l:List t.den) (i:Int):Option t.den->Option qS
 |some z=>some ⟨[n=m],(.any,none),[(k,.row e t (l.set i.toNat z) m)],[k]⟩
 |none=>none
@[go_sem] def U6 (u:Ty) (y:u.den) (k n c:Nat) (i:Int) (o:Nat):Option qJ->Option qS
 |some (.row e t l m)=>if c=t.cells then a9z k n m e t l i (sI u y t (qV t l i) o) else none
 |_=>none
@[go_sem] def a0f (b:Ty) (y:b.den):Option (Σ t:Ty,t.den)->Option (Σ t:Ty,t.den)
 |some ⟨a,x⟩=>some ⟨.pair a b,(x,y)⟩
 |none=>none
@[go_sem] def a0g (a:Ty) (x:a.den):Option (Σ t:Ty,t.den)->Option (Σ t:Ty,t.den)
 |some ⟨b,y⟩=>some ⟨.pair a b,(x,y)⟩
 |none=>none
@[go_sem] def yK (e:Nat) (u:Ty) (kn:pY):(t:Ty)->t.den->Nat->Option (Σ t:Ty,t.den)
 | .list v,_,0=>if v=u then some ⟨.rl e u,kn⟩ else none
 | .pair a b,x,o=>if o<a.cells then a0f b x.2 (yK e u kn a x.1 o) else a0g a x.1 (yK e u kn b x.2 (o-a.cells))
 |_,_,_=>none
@[go_sem] def a0h (i:Nat):Option (Σ t:Ty,t.den)->Option qS
 |some ⟨v,z⟩=>some ⟨[],(.any,none),[(i,.cells v z [])],[1000000000,i]⟩
 |none=>none
@[go_sem] def a9A (H:List (Nat×qJ)) (i off k n e:Nat) (u v:Ty) (x:v.den) (ts:pV):List (Nat×TypeId×Nat)->Option qS
 |[]=>a0h i (yK e u (some (k,n)) v x off)
 |_::_=>PX i off k n u v x (tK ts off 1) (qO H k)
@[go_sem] def orO (H:List (Nat×qJ)) (i off k n e:Nat) (u v:Ty) (x:v.den) (ts:pV) (ls:List (Nat×TypeId×Nat)):Option qS->Option qS
 |some r=>some r
 |none=>a9A H i off k n e u v x ts ls
@[go_sem] def NH (H:List (Nat×qJ)) (i off k n:Nat):TI->Option qJ->Option qS
 |⟨.list u,e,_,_,ls⟩,some (.cells v x toks)=>orO H i off k n e u v x toks ls (NE v i (tK toks off 1) (sI (.rl e u) (some (k,n)) v x off))
 |_,_=>none
@[go_sem] def U7 (base:Nat) (H:List (Nat×qJ)):Option TI->qM->qM->Option qS
 |some ti,(.val .ref (some (i,off)),_),(.own k n,_)=>NH H i off k n ti (qO H i)
 |some ti,(.val .ref (some (i,off)),_),(.apd d,_)=>a0e i off d ti.ty (qO H i)
 |some ti,(.elt k n c i o,_),(.val t y,_)=>if t=ti.ty then U6 t y k n c i o (qO H k) else none
 |some ti,(.val .ref (some (i,off)),_),(.val t y,k)=>if t=ti.ty then a0b (base+16) (GM base i off (qO H i) ti.ls t y k) (KS t) else none
 |_,_,_=>none
@[go_sem] def a0j:qM->Option qS
 |(.val .ref (some p),_)=>some ⟨[],(.val .ref (some p),none),[],[]⟩
 |(.at t x,_)=>some ⟨[],(.at t x,none),[],[]⟩
 |(.elt k n c i o,_)=>some ⟨[],(.elt k n c i o,none),[],[]⟩
 |_=>none
@[go_sem] def a9B (f:FuncId):Option pV->Option qS
 |some l=>some ⟨[],(.val .clo (some (f,l)),none),[],[]⟩
 |none=>none
@[go_sem] def aIL (f:FuncId) (l:Option pV):List Operand->Option qS
 |[]=>a9B f l
 |_=>none
@[go_sem] def U8 (side:List Prop):Option (Σ t:Ty,t.den)->Option qS
 |some ⟨t,x⟩=>if 0<t.cells then some ⟨side,(.at t x,none),[],[]⟩ else none
 |none=>none
@[go_sem] def U9 (side:List Prop) (i off:Nat):pZ->Option Ty->Option qS
 |some o,some u=>if 0<u.cells then some ⟨side,(.val .ref (some (i,off+o)),none),[],[]⟩ else none
 |_,_=>none
@[go_sem] def a9C (k n c:Nat) (i:Int) (o:Nat):pZ->Option Ty->Option qS
 |some q,some u=>if 0<u.cells then some ⟨[],(.elt k n c i (o+q),none),[],[]⟩ else none
 |_,_=>none
@[go_sem] def a0k (f:Nat):Option TI->qM->Option qS
 |some ⟨t,_,_,false,_⟩,(.elt k n c i o,_)=>a9C k n c i o (t.offs f) (t.fld f)
 |some ⟨t,_,_,false,_⟩,(.at u y,_)=>if u=t then U8 [] (u.proj y f) else none
 |some ⟨t,_,_,false,_⟩,(.val .ref (some (i,off)),_)=>U9 [] i off (t.offs f) (t.fld f)
 |_,_=>none
@[go_sem] def aIM:Option (Σ t:Ty,t.den)->Option qS
 |some ⟨t,x⟩=>some ⟨[],(.val t x,none),[],[]⟩
 |none=>none
@[go_sem] def a0l (f:Nat):Option TI->qM->Option qS
 |some ⟨t,_,_,false,_⟩,(.val u y,_)=>if u=t then aIM (u.proj y f) else none
 |_,_=>none
@[go_sem] def a0m:Option TI->qM->qM->Option qS
 |some ⟨.list t',_,_,_,_⟩,(.own k n,_),(.val (.int _) i,_)=>if 0<t'.cells then some ⟨[0<=i/\i<(n:Int)],(.elt k n t'.cells i 0,none),[],[]⟩ else none
 |some ⟨.list t',_,_,_,_⟩,(.val (.list t) l,_),(.val (.int _) i,_)=>if t=t' then some ⟨[0<=i/\i<(List.length l:Int)],(.at t (qV t l i),none),[],[]⟩ else none
 |some ⟨.pair a b,_,_,true,_⟩,(.val .ref (some (i,off)),_),(.val (.int _) n,_)=>U9 [(0:Int)<=n] i off ((Ty.pair a b).offs (Int.toNat n)) ((Ty.pair a b).fld (Int.toNat n))
 |some ⟨.pair a b,_,_,true,_⟩,(.at u x,_),(.val (.int _) n,_)=>if u= .pair a b then U8 [(0:Int)<=n] (u.proj x (Int.toNat n)) else none
 |_,_,_=>none
@[go_sem] def a0n:Option TI->qM->qM->Option qS
 |some ⟨.str,_,_,_,_⟩,(.val .str l,_),(.val (.int _) i,_)=>some ⟨[0<=i/\i<(List.length l:Int)],(.val (.int .u8) (sX l i),none),[],[]⟩
 |_,_,_=>none
@[go_sem] def aIN (e:Nat) (u:Ty):pY->qM
 |some (k,n)=>(.own k n,none)
 |none=>(.val (.rl e u) none,none)
@[go_sem] def aIO:(t:Ty)->t.den->pZ->qM
 | .rl e u,x,_=>aIN e u x
 | .bool,x,k=>(.val .bool x,k)
 | .int i,x,k=>(.val (.int i) x,k)
 | .str,x,k=>(.val .str x,k)
 | .list u,x,k=>(.val (.list u) x,k)
 | .unit,x,k=>(.val .unit x,k)
 | .pair a b,x,k=>(.val (.pair a b) x,k)
 | .ref,x,k=>(.val .ref x,k)
 | .clo,x,k=>(.val .clo x,k)
 | .mp,x,k=>(.val .mp x,k)
 | .mref,x,k=>(.val .mref x,k)
 | .ap,x,k=>(.val .ap x,k)
 | .fn,x,k=>(.val .fn x,k)
@[go_sem] def UA:List ((Σ t:Ty,t.den)×pZ)->Nat->Option qS
 |[],_=>none
 |(⟨t,x⟩,k)::_,0=>some ⟨[],aIO t x k,[],[]⟩
 |_::r,n+1=>UA r n
@[go_sem] def a9D (b:Bool) (p c:Int):Nat->Option qS
 |0=>some ⟨[],(.val .bool b,none),[],[]⟩
 |1=>some ⟨[b=true],(.val (.int .i64) p,none),[],[]⟩
 |2=>some ⟨[b=true],(.val (.int .i32) c,none),[],[]⟩
 |_=>none
@[go_sem] def a0o (i:Nat):qM->Option qS
 |(.tup l,_)=>UA l i
 |(.nxt b p c,_)=>a9D b p c i
 |_=>none
@[go_sem] def UB (i:Nat):Option qJ->Option qS
 |some (.map _ _ l)=>some ⟨[],(.val (.int .i64) (List.length l:Int),none),[],[i]⟩
 |_=>none
@[go_sem] def a0p (H:List (Nat×qJ)):Option TI->List qM->Option qS
 |some ⟨.mp,_,_,_,_⟩,[(.val .mp (some i),_)]=>UB i (qO H i)
 |some ⟨.str,_,_,_,_⟩,[(.val .str l,_)]=>some ⟨[],(.val (.int .i64) (List.length l:Int),none),[],[]⟩
 |some ⟨.list _,_,_,_,_⟩,[(.val (.list _) l,_)]=>some ⟨[],(.val (.int .i64) (List.length l:Int),none),[],[]⟩
 |some ⟨.list _,_,_,_,_⟩,[(.own _ n,_)]=>some ⟨[],(.val (.int .i64) (n:Int),none),[],[]⟩
 |_,_=>none
@[go_sem] def UC (a:Ty) (l r:List a.den) (k e' by':Nat):Option qJ->Option qS
 |some (.grow e c n)=>if e=e'/\c=a.cells/\0<c/\0<by' then some ⟨[List.length l=n,(List.length l+List.length r)*by'<=140737488355328],(.val (.list a) (l++r),some k),[(k,.grow e c (List.length (l++r)))],[k]⟩ else none
 |_=>none
@[go_sem] def UD (b:Ty) (r:List b.den) (k n e' by':Nat):Option qJ->Option qS
 |some (.row e t l m)=>if h:b=t then(if e=e'/\0<t.cells/\0<by' then some ⟨[n=m,(n+List.length r)*by'<=140737488355328],(.own k (List.length (l++u7 (t:= .list b) (u:= .list t) (by rw[h]) r)),none),[(k,.row e t (l++u7 (t:= .list b) (u:= .list t) (by rw[h]) r) (List.length (l++u7 (t:= .list b) (u:= .list t) (by rw[h]) r)))],[k]⟩ else none) else none
 |_=>none
@[go_sem] def UE (H:List (Nat×qJ)):Option TI->List qM->Option qS
 |some ⟨.list u,e,by',_,_⟩,[(.own k n,_),(.val (.list b) r,_)]=>if b=u then UD b r k n e by' (qO H k) else none
 |some ⟨.list u,e,by',_,_⟩,[(.val (.list a) l,some k),(.val (.list b) r,_)]=>if h:b=a/\a=u then UC a l (u7 (t:= .list b) (u:= .list a) (by rw[h.1]) r) k e by' (qO H k) else none
 |_,_=>none
@[go_sem] def UF (mx:Bool):List qM->Option (List Prop×DV)
 |[(.val (.int k) a,_),(.val (.int k') b,_)]=>if k=k' then some ([],.val (.int k) (if mx then max (a:Int) b else min (a:Int) b)) else none
 |_=>none
@[go_sem] def a0q:pV->List qM
 |[]=>[]
 |c::r=>(.val .ref (some c),none)::a0q r
@[go_sem] def UG (H:List (Nat×qJ)) (base:Nat) (args:List qM) (g:rL):Option ((t:Ty)->List t.den->Option (List t.den))->Option qS
 |some F=>TM H F args
 |none=>a9m H base args g (PN g.ps args)
@[go_sem] def KT (H:List (Nat×qJ)) (base:Nat) (args:List qM):Option rL->Option qS
 |some g=>UG H base args g g.row
 |none=>none
@[go_sem] def IP (Γ:tE) (f:Nat):Option rL:=if f<1000000000 then Γ f else none
@[go_sem] def KU (Γ:tE) (H:List (Nat×qJ)) (base:Nat) (args:List qM):qM->Option qS
 |(.val .clo (some (f,caps)),_)=>KT H base (args++a0q caps) (IP Γ f)
 |(.val .fn (some f),_)=>KT H base args (IP Γ f)
 |_=>none
@[go_sem] def BX (T:sQ) (ρ:Operand->qM):List Operand->List TypeId->List qM
 |x::xs,t::ts=>N6 (rT T t) (ρ x)::BX T ρ xs ts
 |_,_=>[]
@[go_sem] def vO (ρ:Operand->qM):List Operand->List qM
 |[]=>[]
 |x::xs=>ρ x::vO ρ xs
@[go_sem] def uG (ρ:Operand->qM):List (Nat×Operand)->List (Nat×qM)
 |[]=>[]
 |(i,x)::xs=>(i,ρ x)::uG ρ xs
@[go_sem] def zY (ρ:Operand->qM):Option Operand->Option qM
 |some x=>some (ρ x)
 |none=>none
@[go_sem] def UH (T:sQ) (H:List (Nat×qJ)) (ss:List qM):List TypeId->Option qS
 |t::_=>a0p H (rT T t) ss
 |[]=>none
@[go_sem] def UI (l:pW) (s:pM) (k e':Nat):Option qJ->Option qS
 |some (.grow e c n)=>if e=e'/\c=1 then some ⟨[List.length l=n,List.length l+List.length s<=140737488355328],(.val (.list (.int .u8)) (l++uI s),some k),[(k,.grow e c (List.length (l++uI s)))],[k]⟩ else none
 |_=>none
@[go_sem] def a0r (H:List (Nat×qJ)):Option TI->Option TI->List qM->Option qS
 |some ⟨.list (.int .u8),e,1,_,_⟩,some ⟨.str,_,_,_,_⟩,[(.val (.list (.int .u8)) l,some k),(.val .str s,_)]=>UI l s k e (qO H k)
 |_,_,_=>none
@[go_sem] def UJ (T:sQ) (H:List (Nat×qJ)) (ss:List qM):List TypeId->Option qS
 |[t,u]=>if t=u then UE H (rT T t) ss else a0r H (rT T t) (rT T u) ss
 |_=>none
@[go_sem] def KV:List Operand->List TypeId->Bool
 |[],[]=>true
 |_::xs,_::ts=>KV xs ts
 |_,_=>false
@[go_sem] def a0s:List qM->Option TI->Option qS
 |[(.val .ref (some p),_)],some ⟨.ap,_,_,_,_⟩=>some ⟨[],(.apd (.val .ref (some p)),none),[],[]⟩
 |[(.elt k n c ix o,_)],some ⟨.ap,_,_,_,_⟩=>some ⟨[],(.apd (.elt k n c ix o),none),[],[]⟩
 |_,_=>none
@[go_sem] def a9E (args:List qM) (ti:Option TI):pV->Option qS
 |[]=>a0s args ti
 |_=>none
@[go_sem] def KW (c:Nat) (y1 y2 y3 y4:pM):pM:=if c=1 then y1 else if c=2 then y2 else if c=3 then y3 else y4
@[go_sem] def KX (b:Bool) (z y:pM):pM:=if b=true then z else y
abbrev GN:Ty:= .pair .str (.pair .str .unit)
def FF (l:pN):pM:=l.getD (l.length-1) []
def IQ (l:List (pM×pM×Unit)):pM:=(l.getD (l.length-1) ([],[],())).2.1
def FG (b:Bool) (z:pM) (l:pN):pN:=if b=true then l.set (l.length-1) z else l
def FH (b:Bool) (z:pM) (l:List (pM×pM×Unit)):List (pM×pM×Unit):=if b=true then l.set (l.length-1) ((l.getD (l.length-1) ([],[],())).1,z,()) else l
@[go_sem] def a0t (c i k3 n3 k4 n4:Nat) (u:Ty) (ts:pV) (e3:Nat) (l3:pN) (m3 e4:Nat) (l4:List (pM×pM×Unit)) (m4:Nat) (z:pM) (b:Bool) (sd:List Prop):Option u.den->Option qS
 |some x=>some ⟨(c≠0)::(n3=m3)::(n4=m4)::((z.length:Int)<=9223372036854775807)::sd,(.val .bool b,none),[(i,.cells u x (tK (tK ts 6 1) 7 1)),(k3,.row e3 .str (FG (b&&decide (c=3)) z l3) m3),(k4,.row e4 GN (FH (b&&decide (4<=c)) z l4) m4)],[i,k3,k4]⟩
 |none=>none
@[go_sem] def a9F {u:Ty}(b:Bool) (z:pM) (o:Nat) (x:u.den):Option pM->Option u.den
 |some y=>sI .str (KX b z y) u x o
 |none=>none
@[go_sem] def NI {u:Ty}(b:Bool) (z:pM) (o:Nat):Option u.den->Option u.den
 |some x=>a9F b z o x (rC .str u x o)
 |none=>none
@[go_sem] def a0u (c i k3 n3 k4 n4:Nat) (u:Ty) (x:u.den) (ts:pV) (e3:Nat) (l3:pN) (m3 e4:Nat) (l4:List (pM×pM×Unit)) (m4:Nat) (z:pM):Option qW->Option qS
 |some ⟨sd,[(.val .bool b,none)],[]⟩=>a0t c i k3 n3 k4 n4 u ts e3 l3 m3 e4 l4 m4 z b sd (NI (b&&decide (c=2)) z 7 (NI (b&&decide (c=1)) z 6 (some x)))
 |_=>none
@[go_sem] def a0v (Γ:tE) (c i k3 n3 k4 n4:Nat) (s:pM) (u:Ty) (x:u.den) (ts:pV) (e3:Nat) (l3:pN) (m3 e4:Nat) (l4:List (pM×pM×Unit)) (m4:Nat):Option rL->Option pM->Option pM->Option qS
 |some g,some y1,some y2=>a0u c i k3 n3 k4 n4 u x ts e3 l3 m3 e4 l4 m4 (KW c y1 y2 (FF l3) (IQ l4)++s) (g.C [(.val .str (KW c y1 y2 (FF l3) (IQ l4)++s),none)] [])
 |_,_,_=>none
@[go_sem] def a0w (Γ:tE) (c i k3 n3 k4 n4:Nat) (s:pM) (u:Ty) (x:u.den) (ts:pV):Option qJ->Option qJ->Option qS
 |some (.row e3 .str l3 m3),some (.row e4 (.pair .str (.pair .str .unit)) l4 m4)=>a0v Γ c i k3 n3 k4 n4 s u x ts e3 l3 m3 e4 l4 m4 (IP Γ GG) (rC .str u x 6) (rC .str u x 7)
 |_,_=>none
@[go_sem] def a0x (i k3 k4:Nat):Bool:=if i=k3 then false else if i=k4 then false else if k3=k4 then false else true
@[go_sem] def UK (Γ:tE) (H:List (Nat×qJ)) (c i k3 n3 k4 n4:Nat) (s:pM):Option qJ->Bool->Option qS
 |some (.cells u x ts),true=>a0w Γ c i k3 n3 k4 n4 s u x ts (qO H k3) (qO H k4)
 |_,_=>none
@[go_sem] def KY (Γ:tE) (H:List (Nat×qJ)):Nat×Nat×(Nat×Nat)×(Nat×Nat)->List qM->Option TI->Option qS
 |(c,i,(k3,n3),(k4,n4)),[(.val .str s,_)],some ⟨.ap,_,_,_,_⟩=>UK Γ H c i k3 n3 k4 n4 s (qO H i) (a0x i k3 k4)
 |_,_,_=>none
@[go_sem] def a0y (T:sQ) (Γ:tE) (base:Nat) (H:List (Nat×qJ)) (args:List qM) (f:Nat) (caps:pV):Option qS:=
 if f=IH then a9E args (rT T KF) caps else KU Γ H base args (.val .clo (some (f,caps)),none)
@[go_sem] def NJ (T:sQ) (Γ:tE) (base:Nat) (H:List (Nat×qJ)) (args:List qM):qM->Option qS
 |(.val .ap x,_)=>KY Γ H x args (rT T KF)
 |(.val .clo (some (f,caps)),_)=>a0y T Γ base H args f caps
 |s=>KU Γ H base args s
@[go_sem] def a0z (T:sQ) (Γ:tE) (ρ:Operand->qM) (base:Nat) (H:List (Nat×qJ)) (args:List Operand) (tys:List TypeId) (f:qM):Bool->Option qS
 |true=>NJ T Γ base H (BX T ρ args tys) f
 |false=>none
@[go_sem] def KZ (T:sQ) (Γ:tE) (ρ:Operand->qM) (base:Nat) (H:List (Nat×qJ)) (args:Array Operand) (tys:Array TypeId):Callee->Option qS
 | .builtin .len=>UH T H (vO ρ args.toList) tys.toList
 | .builtin .append=>UJ T H (vO ρ args.toList) tys.toList
 | .builtin .max=>AT (UF true (vO ρ args.toList))
 | .builtin .min=>AT (UF false (vO ρ args.toList))
 | .value f=>a0z T Γ ρ base H args.toList tys.toList (ρ f) (KV args.toList tys.toList)
 |_=>none
@[go_sem] def E8:Ty->Bool
 | .int _| .str| .bool=>true
 |_=>false
def GO:(k:Ty)->k.den->k.den->Bool
 | .int _,a,b=>decide ((a:Int)=b)
 | .str,a,b=>decide ((a:pM)=b)
 | .bool,a,b=>a==b
 |_,_,_=>false
def sN (k v:Ty):List (k.den×v.den)->k.den->v.den
 |[],_=>v.zero
 |(x,y)::r,a=>if GO k a x=true then y else sN k v r a
def FI (k v:Ty):List (k.den×v.den)->k.den->Bool
 |[],_=>false
 |(x,_)::r,a=>if GO k a x=true then true else FI k v r a
def sY (k v:Ty) (a:k.den) (b:v.den):List (k.den×v.den)->List (k.den×v.den)
 |[]=>[(a,b)]
 |(x,y)::r=>if GO k a x=true then(a,b)::r else(x,y)::sY k v a b r
@[go_sem] def a9G (base:Nat):Option TI->Option TI->Option qS
 |some k,some v=>if E8 k.ty=true then some ⟨[],(.val .mp (some base),none),[(base,.map k.ty v.ty [])],[]⟩ else none
 |_,_=>none
@[go_sem] def a0A (T:sQ) (base:Nat):Option TI->Option Operand->Option qS
 |some ⟨.mp,e,f,_,_⟩,none=>a9G base (rT T e) (rT T f)
 |_,_=>none
@[go_sem] def UL (k:Ty) (a:k.den) (u:Ty) (i:Nat) (ok:Bool):Option qJ->Option qS
 |some (.map k' v l)=>if h:k=k'/\v=u then(if E8 k=true then(match ok with
   |true=>some ⟨[],(.tup [(⟨v,sN k' v l (u7 h.1 a)⟩,none),(⟨.bool,FI k' v l (u7 h.1 a)⟩,none)],none),[],[i]⟩
   |false=>some ⟨[],(.val v (sN k' v l (u7 h.1 a)),none),[],[i]⟩) else none) else none
 |_=>none
@[go_sem] def a0B (H:List (Nat×qJ)) (ok:Bool) (i:Nat):Option TI->Option TI->qM->Option qS
 |some kt,some vt,(.val k a,_)=>if k=kt.ty then UL k a vt.ty i ok (qO H i) else none
 |_,_,_=>none
@[go_sem] def a9H (ok:Bool):Option TI->Option TI->qM->Option qS
 |some kt,some vt,(.val k _,_)=>if k=kt.ty then(if E8 k=true then(match ok with
   |true=>some ⟨[],(.tup [(⟨vt.ty,vt.ty.zero⟩,none),(⟨.bool,false⟩,none)],none),[],[]⟩
   |false=>some ⟨[],(.val vt.ty vt.ty.zero,none),[],[]⟩) else none) else none
 |_,_,_=>none
@[go_sem] def UM (T:sQ) (H:List (Nat×qJ)) (ok:Bool):Option TI->qM->qM->Option qS
 |some ⟨.mp,e,f,_,_⟩,(.val .mp (some i),_),s=>a0B H ok i (rT T e) (rT T f) s
 |some ⟨.mp,e,f,_,_⟩,(.val .mp none,_),s=>a9H ok (rT T e) (rT T f) s
 |_,_,_=>none
@[go_sem] def NK (k:Ty) (a:k.den) (u:Ty) (b:u.den) (i:Nat):Option qJ->Option qS
 |some (.map k' v l)=>if h:k=k'/\u=v then(if E8 k=true then some ⟨[],(.any,none),[(i,.map k' v (sY k' v (u7 h.1 a) (u7 h.2 b) l))],[i]⟩ else none) else none
 |_=>none
@[go_sem] def UN (H:List (Nat×qJ)) (i:Nat):Option TI->qM->qM->Option qS
 |some kt,(.val k a,_),(.val u b,_)=>if k=kt.ty then NK k a u b i (qO H i) else none
 |_,_,_=>none
@[go_sem] def a9I:Option TI->qM->qM
 |some ⟨.fn,_,_,_,_⟩,(.val .clo (some (f,[])),_)=>(.val .fn (some f),none)
 |_,s=>s
@[go_sem] def UO (T:sQ):Option TI->qM->qM
 |some ⟨.mp,_,f,_,_⟩,s=>a9I (rT T f) s
 |_,s=>s
@[go_sem] def NL (T:sQ) (H:List (Nat×qJ)):Option TI->qM->qM->qM->Option qS
 |some ⟨.mp,e,_,_,_⟩,(.val .mp (some i),_),s,x=>UN H i (rT T e) s x
 |_,_,_,_=>none
def xE (s:pM) (p:Nat):Int:=((Utf8.decode ⟨s.toArray⟩ p).1:Int)
def a0C (s:pM) (p:Nat):Nat:=(Utf8.decode ⟨s.toArray⟩ p).2
def AY (s:pM) (p:Nat):Nat:=if p<s.length then p+a0C s p else p
@[go_sem] def a0D (base:Nat):Option TI->qM->Option qS
 |some ⟨.str,_,_,_,_⟩,(.val .str s,_)=>some ⟨[],(.val .ref (some (base,0)),none),[(base,.iter s 0)],[]⟩
 |_,_=>none
@[go_sem] def a0E (i:Nat):Option qJ->Option qS
 |some (.iter s p)=>some ⟨[],(.nxt (decide (p<List.length s)) ((p:Nat):Int) (xE s p),none),[(i,.iter s (AY s p))],[i]⟩
 |_=>none
@[go_sem] def UP (H:List (Nat×qJ)):Bool->qM->Option qS
 |true,(.val .ref (some (i,0)),_)=>a0E i (qO H i)
 |_,_=>none
@[go_sem] def uH (T:sQ) (Γ:tE) (ty:TypeId) (ρ:Operand->qM) (base:Nat) (H:List (Nat×qJ)):Op->Option qS
 | .move x| .assign x=>ZK base (rT T ty) (ρ x)
 | .alloc e=>PS base e (rT T e)
 | .box e x=>ZP base e (rT T e) (ρ x)
 | .build t ps=>ZS (uG ρ ps.toList) (rT T t)
 | .buildSlice t n ps=>ZT base n (uG ρ ps.toList) (rT T t)
 | .load t a=>TX H (rT T t) (ρ a)
 | .store t a x=>U7 base H (rT T t) (ρ a) (N6 (rT T t) (ρ x))
 | .nilCheck x=>a0j (ρ x)
 | .binOp op t x y _=>AT (ZA (T5 op (rT T t) (ρ x) (ρ y)) (ZA (T0 op (ρ x) (ρ y)) (Z9 (rT T t) op (ρ x) (ρ y))))
 | .unOp op _ x=>AT (ZB op (ρ x))
 | .convert src dst x=>AT (ZA (T7 (rT T src) (rT T dst) (ρ x)) (ZC T (rT T src) (rT T dst) (ρ x)))
 | .makeFunc (.func f) first caps=>aIL f (KH (vO ρ caps.toList)) first.toList
 | .slice t x lo hi none=>AT (ZD (rT T t) (ρ x) (zY ρ lo) (zY ρ hi))
 | .fieldAddr t x f=>a0k f (rT T t) (ρ x)
 | .field t x f=>a0l f (rT T t) (ρ x)
 | .indexAddr t x ix=>a0m (rT T t) (ρ x) (ρ ix)
 | .index t x ix=>a0n (rT T t) (ρ x) (ρ ix)
 | .extract x i=>a0o i (ρ x)
 | .makeMap t r=>a0A T base (rT T t) r
 | .range t x=>a0D base (rT T t) (ρ x)
 | .next x b=>UP H b (ρ x)
 | .lookup t x i ok=>UM T H ok (rT T t) (ρ x) (ρ i)
 | .mapUpdate t m k x=>NL T H (rT T t) (ρ m) (ρ k) (UO T (rT T t) (ρ x))
 | .insert t m k x=>NL T H (rT T t) (ρ m) (ρ k) (UO T (rT T t) (ρ x))
 | .call c=>KZ T Γ ρ base H c.args c.argTypes c.callee
 |_=>none
@[go_sem] def tM:qM->qM
 |(.cond _ d,_)=>(d,none)
 |s=>s
@[go_sem] def zC (G:Bool):List qM->List Prop
 |[]=>[]
 |(.cond p _,_)::r=>(G=true->p=true)::zC G r
 |_::r=>zC G r
@[go_sem] def a9J (b:Bool):qM->Option Bool
 |(.val .bool c,_)=>some (c==b)
 |(.cond p (.val .bool c),_)=>some (p&&(c==b))
 |_=>none
@[go_sem] def AC:List Oper->Nat->Option Tmp
 |[],_=>none
 |o::_,0=>o.dst
 |_::r,n+1=>AC r n
@[go_sem] def GP (env:List (Nat×qM)) (b:Bool):Option Tmp->Option Bool
 |some t=>a9J b (lk env t)
 |none=>none
@[go_sem] def a9K (b:Bool):qM->Bool
 |(.val .bool c,_)=>c==b
 |(.cond p (.val .bool c),_)=>p&&(c==b)
 |(.cond p .any,_)=>p
 |_=>true
@[go_sem] def L1 (env:List (Nat×qM)) (b:Bool):Option Tmp->Bool
 |some t=>a9K b (lk env t)
 |none=>true
@[go_sem] def UQ (j:Nat) (b:Bool):Nat:=1000000000+(2*j+if b=true then 1 else 0)
@[go_sem] theorem aRL (x y:Bool):cond x y false=(x&&y):=by cases x<;>rfl
@[go_sem] theorem aRM (x y:Bool):cond x true y=(x||y):=by cases x<;>rfl
@[go_sem] def a9L (x:Bool):qM->qM->Option qS
 |(.val .bool y,_),(.val .bool z,_)=>some ⟨[],(.val .bool (cond x y z),none),[],[]⟩
 |(.cond p (.val .bool y),_),(.val .bool z,_)=>some ⟨[x=true->p=true],(.val .bool (cond x y z),none),[],[]⟩
 |(.val .bool y,_),(.cond p (.val .bool z),_)=>some ⟨[x=false->p=true],(.val .bool (cond x y z),none),[],[]⟩
 |(.cond q (.val .bool y),_),(.cond p (.val .bool z),_)=>some ⟨[x=true->q=true,x=false->p=true],(.val .bool (cond x y z),none),[],[]⟩
 |(.val .bool y,_),(.cond _ .any,_)=>some ⟨[x=true],(.val .bool y,none),[],[]⟩
 |(.cond q (.val .bool y),_),(.cond _ .any,_)=>some ⟨[x=true,q=true],(.val .bool y,none),[],[]⟩
 |(.cond _ .any,_),(.val .bool z,_)=>some ⟨[x=false],(.val .bool z,none),[],[]⟩
 |(.cond _ .any,_),(.cond p (.val .bool z),_)=>some ⟨[x=false,p=true],(.val .bool z,none),[],[]⟩
 |_,_=>none
@[go_sem] def PY:qM->qM->qM->Option qS
 |(.val .bool x,_),a,b=>a9L x a b
 |_,_,_=>none
@[go_sem] def sP:Op->List Operand
 | .move x| .assign x| .box _ x| .load _ x| .nilCheck x| .unOp _ _ x| .convert _ _ x| .fieldAddr _ x _| .field _ x _| .extract x _=>[x]
 | .build _ ps| .buildSlice _ _ ps=>parts ps.toList
 | .store _ a v| .binOp _ _ a v _| .indexAddr _ a v| .index _ a v=>[a,v]
 | .lookup _ a v _=>[a,v]
 | .range _ x| .next x _=>[x]
 | .mapUpdate _ m k x=>[m,k,x]
 | .insert _ m k x=>[m,k,x]
 | .makeFunc _ _ caps=>caps.toList
 | .slice _ x l h _=>x::r6 (opt l) (opt h)
 | .call ⟨.value f,args,_⟩=>f::args.toList
 | .call ⟨_,args,_⟩=>args.toList
 |_=>[]
where
 parts:List (Nat×Operand)->List Operand
  |[]=>[]
  |(_,x)::r=>x::parts r
 opt:Option Operand->List Operand
  |some x=>[x]
  |none=>[]
attribute [go_sem] sP.parts sP.opt
@[go_sem] def NM (l:List Prop):Option qS->Option qS
 |some e=>some ⟨r6 l e.side,e.slot,e.upd,e.rds⟩
 |none=>none
@[go_sem] def PZ (G:Bool):List Prop->List Prop
 |[]=>[]
 |p::r=>(G=true->p)::PZ G r
@[go_sem] def IR (G:Bool) (l:List Prop):Option qS->Option qS
 |some ⟨side,(d,_),[],rds⟩=>some ⟨r6 l (PZ G side),(.cond G d,none),[],rds⟩
 |some ⟨side,s,u::us,rds⟩=>some ⟨(G=true)::r6 l (PZ G side),s,u::us,rds⟩
 |none=>none
@[go_sem] def CM (env:List (Nat×qM)):List Operand->List qM
 |[]=>[]
 |x::r=>tV env x::CM env r
@[go_sem] def NN (T:sQ) (Γ:tE) (o:Oper) (s:St):Option Bool->Op->Option qS
 |some G,.pick c a b=>IR G (zC G [tV s.env c]) (PY (tM (tV s.env c)) (tV s.env a) (tV s.env b))
 |some G,op=>IR G (zC G (CM s.env (sP op))) (uH T Γ o.type (fun x=>tM (tV s.env x)) s.nb s.H op)
 |none,_=>none
@[go_sem] def a9M:Op->Bool
 | .defer _=>true
 |_=>false
@[go_sem] def a9N (up:Bool):Bool->Option qS
 |true=>none
 |false=>some ⟨[up=false],(.cond false .any,none),[],[]⟩
@[go_sem] def Q0 (T:sQ) (Γ:tE) (o:Oper) (s:St) (up:Bool) (g:Option Bool) (op:Op):Option rL->Option qS
 |some _=>a9N up (a9M op)
 |none=>NN T Γ o s g op
@[go_sem] def NO (T:sQ) (Γ:tE) (o:Oper) (s:St):Op->Option qS
 | .pick c a b=>PY (tV s.env c) (tV s.env a) (tV s.env b)
 |op=>NM (zC true (CM s.env (sP op))) (uH T Γ o.type (fun x=>tM (tV s.env x)) s.nb s.H op)
@[go_sem] def IS (np:Nat):List (Nat×qJ)->Bool
 |[]=>true
 |(i,.cells _ _ _)::r=>if np<=i then IS np r else false
 |_::r=>IS np r
@[go_sem] def a9O (np:Nat) (e:qS):Bool->Option qS
 |true=>if IS np e.upd=true then some e else none
 |false=>some e
@[go_sem] def a0F (np:Nat):Option qS->Option qS
 |some e=>a9O np e (IJ e.rds)
 |none=>none
@[go_sem] def NP (T:sQ) (Γ:tE) (ops:List Oper) (o:Oper) (s:St):Option qS:=
 match o.guard with
 |none=>NO T Γ o s o.op
 |some (j,b)=>Q0 T Γ o s (L1 s.env b (AC ops j)) (GP s.env b (AC ops j)) o.op (Γ (UQ j b))
@[go_sem] def zZ (T:sQ) (Γ:tE) (ops:List Oper) (o:Oper) (s:St):Option qS:=a0F s.np (NP T Γ ops o s)
@[go_sem] def uB:Option Tmp->qM->List (Nat×qM)->List (Nat×qM)
 |some d,s,env=>(d,s)::env
 |none,_,env=>env
structure vV where
 s:St
 side:List Prop
 es:List qS
@[go_sem] def IT (N:Nat):Option Tmp->Bool
 |some d=>decide (d<N)
 |none=>true
@[go_sem] def IU (n:Nat):List (Nat×qJ)->Bool
 |[]=>true
 |(i,_)::r=>decide (i<n)&&IU n r
@[go_sem] def CN (i:Nat):q8->Bool
 |[]=>false
 |j::r=>if j=i then AB i r else CN i r
@[go_sem] def L2 (H U:List (Nat×qJ)) (rds:q8):List (Nat×qJ)->List Prop
 |[]=>[]
 |(i,_)::r=>if CN i rds=true then(qO U i=qO H i)::L2 H U rds r else L2 H U rds r
@[go_sem] def IV (rds:q8):List (Nat×qJ)->List (Nat×qJ)
 |[]=>[]
 |(i,b)::r=>if CN i rds=true then IV rds r else(i,b)::IV rds r
@[go_sem] def y5 (e:qS):List (Nat×qJ):=IV e.rds e.upd
@[go_sem] def UR (o:Oper) (a:vV):Option qS->Option vV
 |some e=>if (IT a.s.N o.dst&&IU (a.s.nb+32) e.upd)=true then some ⟨⟨uB o.dst e.slot a.s.env,r6 e.upd a.s.H,a.s.nb+32,a.s.N,a.s.np⟩,r6 a.side (r6 (L2 a.s.H e.upd e.rds e.upd) e.side),e::a.es⟩ else none
 |none=>none
@[go_sem] def uP (T:sQ) (Γ:tE) (ops:List Oper):List Oper->Option vV->Option vV
 |[],a=>a
 |o::r,some a=>uP T Γ ops r (UR o a (zZ T Γ ops o a.s))
 |_::_,none=>none
@[go_sem] def Q1:List (Nat×qJ)->q8->Bool
 |[],_=>false
 |(i,_)::r,l=>l.contains i||Q1 r l
@[go_sem] def GQ (a b:qS):Bool:= !Q1 (y5 a) (r6 b.rds (qQ b.upd))&& !Q1 (y5 b) a.rds
def L3 (lo:Nat):List (Nat×qJ)->Bool
 |[]=>true
 |(i,_)::r=>(decide (i<lo)||decide (lo+32<=i))&&L3 lo r
def US (i0 j0:Nat) (ops:Array Oper) (bs:q8) (nb i:Nat) (o:Oper) (e:qS):List Oper->List qS->Nat->Bool
 |p::ps,f::fs,j=>((bs.getD j 0).testBit i||(o.apart ops p&&(GQ e f||(decide (i=i0)&&decide (j=j0)))&&L3 (nb+32*i) f.upd))&&US i0 j0 ops bs nb i o e ps fs (j+1)
 |_,_,_=>true
def UT (i0 j0:Nat) (ops:Array Oper) (bs:q8) (nb:Nat):List Oper->List qS->Nat->Bool
 |o::os,e::es,i=>US i0 j0 ops bs nb i o e os es (i+1)&&UT i0 j0 ops bs nb os es (i+1)
 |_,_,_=>true
def UU:List Oper->Nat->Bool
 |[],_=>true
 |o::r,i=>o.after.toList.all (fun e=> !Region.binds .any e||decide (e.on<i))&&UU r (i+1)
def UV (i0 j0:Nat) (ops:Array Oper) (nb:Nat) (es:List qS):Bool:=UU ops.toList 0&&UT i0 j0 ops (Region.before ops).toList nb ops.toList es 0
def L4 (ops:Array Oper) (nb:Nat) (es:List qS):Bool:=UV ops.size 0 ops nb es
@[go_sem] def a9P (ops:Array Oper) (nb:Nat):Option vV->Option vV
 |some a=>if L4 ops nb a.es.reverse then some a else none
 |none=>none
@[go_sem] def Q2 (T:sQ) (Γ:tE) (ops:Array Oper) (s:St):Bool->Option vV
 |true=>a9P ops s.nb (uP T Γ ops.toList ops.toList (some ⟨s,[],[]⟩))
 |false=>uP T Γ ops.toList ops.toList (some ⟨s,[],[]⟩)
inductive Ex where
 |normal|exit (id:Nat) |ret
structure vZ where
 slots:q8
 ids:pV:=[]
@[go_sem] def w3:pV->Nat->pZ
 |[],_=>none
 |(n,o)::r,k=>if o=k then some n else w3 r k
@[go_sem] def a9Q (m:pV):pY->pY
 |some (i,o)=>(w3 m i).map fun j=>(j,o)
 |none=>none
@[go_sem] def CO (m:pV):pV->Option pV
 |[]=>some []
 |(i,o)::r=>renCons (w3 m i) o (CO m r)
where
 renCons:pZ->Nat->Option pV->Option pV
  |some j,o,some r=>some ((j,o)::r)
  |_,_,_=>none
attribute [go_sem] CO.renCons
@[go_sem] def a9R (m:pV):pZ->pZ
 |some k=>w3 m k
 |none=>none
@[go_sem] def aIP (n:Nat):pZ->qM
 |some k=>(.own k n,none)
 |none=>(.any,none)
@[go_sem] def a9S (m:pV):Option (Nat×pV)->Option (Option (Nat×pV))
 |none=>some none
 |some (f,l)=>(CO m l).map fun l'=>some (f,l')
@[go_sem] def UW (m:pV):pY->Option pY
 |none=>some none
 |some (i,o)=>(w3 m i).map fun j=>some (j,o)
@[go_sem] def a9T (m:pV):pZ->Option pZ
 |none=>some none
 |some i=>(w3 m i).map some
@[go_sem] def a9U (m:pV):pY->Option pY
 |none=>some none
 |some (k,n)=>(w3 m k).map fun j=>some (j,n)
@[go_sem] def a0G (c n3 n4:Nat):pZ->pZ->pZ->Option (Nat×Nat×(Nat×Nat)×(Nat×Nat))
 |some i,some k3,some k4=>some (c,i,(k3,n3),(k4,n4))
 |_,_,_=>none
@[go_sem] def a9V (m:pV):Nat×Nat×(Nat×Nat)×(Nat×Nat)->Option (Nat×Nat×(Nat×Nat)×(Nat×Nat))
 |(c,i,(k3,n3),(k4,n4))=>a0G c n3 n4 (w3 m i) (w3 m k3) (w3 m k4)
@[go_sem] def zD (m:pV):(t:Ty)->t.den->Option t.den
 | .ref,x=>UW m x
 | .clo,x=>a9S m x
 | .mp,x=>a9T m x
 | .pair a b,x=>FB (if a.pure=true then some x.1 else zD m a x.1) (if b.pure=true then some x.2 else zD m b x.2)
 | .list t,x=>if t.pure=true then some x else none
 | .bool,x=>some x
 | .int _,x=>some x
 | .str,x=>some x
 | .unit,x=>some x
 | .rl _ _,x=>a9U m x
 | .fn,x=>some x
 | .mref,x=>UW m x
 | .ap,x=>a9V m x
@[go_sem] def AD (m:pV):qM->qM
 |(.own k n,_)=>aIP n (w3 m k)
 |(.val .ref none,_)=>(.val .ref none,none)
 |(.val .ref (some p),_)=>refSlot (a9Q m (some p))
 |(.val .clo (some (f,l)),_)=>cloSlot f (CO m l)
 |(.val .mp (some i),_)=>mpSlot (w3 m i)
 |(.val t x,k)=>if t.pure then(.val t x,a9R m (F9 t k)) else valSlot t (zD m t x)
 |(.at t x,_)=>if t.pure then(.at t x,none) else(.any,none)
 |(.nilS,_)=>(.nilS,none)
 |_=>(.any,none)
where
 refSlot:pY->qM
  |some p=>(.val .ref (some p),none)
  |none=>(.any,none)
 cloSlot (f:Nat):Option pV->qM
  |some l=>(.val .clo (some (f,l)),none)
  |none=>(.any,none)
 valSlot (t:Ty):Option t.den->qM
  |some y=>(.val t y,none)
  |none=>(.any,none)
 mpSlot:pZ->qM
  |some j=>(.val .mp (some j),none)
  |none=>(.any,none)
attribute [go_sem] AD.refSlot AD.cloSlot AD.mpSlot AD.valSlot
@[go_sem] def UX (q j:Nat):pV->pV
 |[]=>[(q,j)]
 |(a,b)::r=>if q<=a then(q,j)::(a,b)::r else(a,b)::UX q j r
@[go_sem] def L5 (m:pV):pV->pV
 |[]=>[]
 |(q,k)::r=>renTok1 q (w3 m k) (L5 m r)
where
 renTok1 (q:Nat):pZ->pV->pV
  |some j,r=>UX q j r
  |none,r=>r
attribute [go_sem] L5.renTok1
@[go_sem] def a0H (t:Ty) (toks:pV):Option t.den->qJ
 |some y=> .cells t y toks
 |none=> .dead
def zE (m:pV):Option qJ->qJ
 |some (.cells t x toks)=>if t.pure then .cells t x (L5 m toks) else a0H t (L5 m toks) (zD m t x)
 |some (.grow e c n)=> .grow e c n
 |some (.row e t l n)=>if t.pure then .row e t l n else .dead
 |some (.map k v l)=>if k.pure&&v.pure then .map k v l else .dead
 |some (.iter s p)=> .iter s p
 |_=> .dead
attribute [go_sem] zE.eq_1 zE.eq_2 zE.eq_3 zE.eq_4 zE.eq_5 zE.eq_6
@[go_sem] def Q3 (m:pV) (env:List (Nat×qM)):q8->List (Nat×qM)
 |[]=>[]
 |t::r=>(t,AD m (lk env t))::Q3 m env r
@[go_sem] def UY (m:pV) (H:List (Nat×qJ)):pV->List (Nat×qJ)
 |[]=>[]
 |(n,o)::r=>(n,zE m (qO H o))::UY m H r
@[go_sem] def UZ:pV->Nat
 |[]=>0
 |(n,_)::r=>max (n+1) (UZ r)
@[go_sem] def NQ (n o:Nat):pV->Bool
 |[]=>false
 |(n',o')::r=>decide (n'=n)||decide (o'=o)||NQ n o r
@[go_sem] def wW (np:Nat):pV->Bool
 |[]=>true
 |(n,o)::r=>(decide (np<=n)||decide (n=o))&& !NQ n o r&&wW np r
@[go_sem] def Q4 (s:St) (k:vZ):Bool->St
 |true=>⟨Q3 k.ids s.env k.slots,UY k.ids s.H k.ids,max s.np (UZ k.ids),s.N,s.np⟩
 |false=>⟨[],[],s.nb,s.N,s.np⟩
@[go_sem] def St.keep (s:St) (k:vZ):St:=Q4 s k (wW s.np k.ids)
@[go_sem] def rO:List Prop->Prop
 |[]=>True
 |[p]=>p
 |p::q::r=>p/\rO (q::r)
@[go_sem] def a9W (Q:Ex->St->Prop):Option vV->Prop
 |some a=>rO a.side/\Q .normal a.s
 |none=>False
@[go_sem] def a9X (A B:Prop):qM->Prop
 |(.val .bool x,_)=>(x=true->A)/\(x=false->B)
 |(.flag p q,_)=>(p->A)/\(q->B)
 |_=>False
@[go_sem] def Q5 (f:St->Prop) (Q:Ex->St->Prop):Ex->St->Prop
 | .normal,s=>f s
 | .exit j,s=>Q (.exit j) s
 | .ret,s=>Q .ret s
@[go_sem] def L6 (id:Nat) (Q:Ex->St->Prop):Ex->St->Prop
 | .normal,s=>Q .normal s
 | .exit j,s=>if j=id then Q .normal s else Q (.exit j) s
 | .ret,s=>Q .ret s
@[go_sem] def aIQ (I:St->Prop) (μ:St->Nat) (m:Nat) (Q:Ex->St->Prop):Ex->St->Prop
 | .normal,s=> ∃k:vZ,I (s.keep k)/\μ (s.keep k)<m
 | .exit j,s=>Q (.exit j) s
 | .ret,s=>Q .ret s
def wD (T:sQ) (Γ:tE):Code->St->(Ex->St->Prop)->Prop
 | .skip,s,Q=>Q .normal s
 | .label _,s,Q=>Q .normal s
 | .region _ ops draw,s,Q=>a9W Q (Q2 T Γ ops s draw)
 | .seq a b,s,Q=>wD T Γ a s (Q5 (fun s'=>wD T Γ b s' Q) Q)
 | .cond c a b,s,Q=>a9X (wD T Γ a s Q) (wD T Γ b s Q) (tV s.env c)
 | .block id c,s,Q=>wD T Γ c s (L6 id Q)
 | .loop c,s,Q=> ∃(k:vZ) (I:St->Prop) (μ:St->Nat),I (s.keep k)/\∀s,I s->wD T Γ c s (aIQ I μ (μ s) Q)
 | .exit id,s,Q=>Q (.exit id) s
 | .ret,s,Q=>Q .ret s
 |_,_,_=>False
attribute [go_sem] Ty.list.injEq Ty.pair.injEq Ty.int.injEq
section
variable {T:sQ}{Γ:tE}{s:St}{Q:Ex->St->Prop}
theorem aIR {id:Nat}{ops:Array Oper}{a:vV}(h:uP T Γ ops.toList ops.toList (some ⟨s,[],[]⟩)=some a) (hp:rO a.side) (hq:Q .normal a.s):wD T Γ (.region id ops false) s Q:=by
 unfold wD Q2;rw[h];exact⟨hp,hq⟩
theorem aIS {id:Nat}{ops:Array Oper}{a:vV}(h:uP T Γ ops.toList ops.toList (some ⟨s,[],[]⟩)=some a) (hf:L4 ops s.nb a.es.reverse=true) (hp:rO a.side) (hq:Q .normal a.s):wD T Γ (.region id ops true) s Q:=by
 unfold wD Q2;rw[h];show a9W Q (if L4 ops s.nb a.es.reverse=true then some a else none);rw[aTr hf];exact⟨hp,hq⟩
end
end Go.Proofs.YtcpbaddnmpeipaaGreatDoor.Vc
namespace Go.Proofs.YtcpbaddnmpeipaaGreatDoor.Vc
open Go.RowKit
abbrev s9:=List (Nat×qJ)
structure Pl where
 b:Nat
 o:Nat
 k:Option (TypeId×Nat):=none
structure Gh where
 S:Nat->Nat->Prop
 J:Nat->Option Pl
 cur:Nat->Nat->Option qB
def yM {α:Type}(R:α->pX->Prop) (w:q9) (S:Nat->Nat->Prop) (c b:Nat):Nat->List α->Prop
 |_,[]=>True
 |o,x::xs=>(∃cs,cs.length=c/\w.rangeAt b o cs/\(∀j,j<c->S b (o+j))/\R x cs)/\yM R w S c b (o+c) xs
def yN (g:Gh):pV->pX->Prop
 |[],vs=>vs=[]
 |(i,o)::l,vs=> ∃p vs',g.J i=some p/\vs= .pointer (some ⟨p.1,p.2+o,none⟩)::vs'/\yN g l vs'
def Q6 (g:Gh):pY->pX->Prop
 |none,cs=>cs=[.pointer none]
 |some (i,o),cs=> ∃p,g.J i=some p/\cs=[.pointer (some ⟨p.1,p.2+o,none⟩)]
def IW (g:Gh):Option (Nat×pV)->pX->Prop
 |none,cs=>cs=[.nilFunc]
 |some (f,l),cs=> ∃vs,yN g l vs/\cs=[.func (.func f) #[] vs.toArray]
def L7 (g:Gh):pZ->pX->Prop
 |none,cs=>cs=[.map none]
 |some i,cs=> ∃p,g.J i=some p/\cs=[.map (some p.1)]
def a0I (k:Option (TypeId×Nat)) (o:Nat):Prop:=o=0/\∃e,ZL e=true/\k=some (e,2)
def BY (g:Gh):pY->pX->Prop
 |none,cs=>cs=[.slice none 0 0]
 |some (k,n),cs=> ∃v,g.cur k n=some v/\cs=[v]/\((v= .slice none 0 0/\n=0)\/∃b cap,v= .slice (some ⟨b,0,none⟩) n cap/\n<=cap)
def Q7 (g:Gh):pY->pX->Prop
 |none,cs=>cs=[.pointer none]
 |some (i,o),cs=> ∃p,g.J i=some p/\a0I p.3 (p.2+o)/\(cs=[.pointer none]\/cs=[.pointer (some ⟨p.1,p.2+o,none⟩)])
def FJ (g:Gh) (w:q9):Nat×Nat×(Nat×Nat)×(Nat×Nat)->pX->Prop
 |(c,i,(k3,n3),(k4,n4)),cs=>(c=0/\cs=[.nilFunc])\/(c≠0/\∃b α,cs=[.func (.func IG) #[] #[.pointer (some ⟨b,0,none⟩)]]/\g.S b 0/\w.cell? ⟨b,0,none⟩=some (.pointer (some α))/\
   (c=1->∃p,g.J i=some p/\α=⟨p.1,p.2+aIx,none⟩)/\(c=2->∃p,g.J i=some p/\α=⟨p.1,p.2+aIy,none⟩)/\
   (c=3->∃bb cap,g.cur k3 n3=some (.slice (some ⟨bb,0,none⟩) n3 cap)/\0<n3/\α=⟨bb,n3-1,none⟩)/\
   (4<=c->∃bb cap,g.cur k4 n4=some (.slice (some ⟨bb,0,none⟩) n4 cap)/\0<n4/\α=⟨bb,(n4-1)*2+1,none⟩))
def V0:pZ->pX->Prop
 |none,cs=>cs=[.nilFunc]
 |some f,cs=>cs=[.func (.func f) #[] #[]]
def Rd (g:Gh) (w:q9):(t:Ty)->t.den->pX->Prop
 | .bool,x,cs=>cs=[.bool x]
 | .int k,n,cs=>cs=[.int k n]
 | .str,l,cs=>cs=[.string ⟨List.toArray l⟩]
 | .list t,l,cs=> ∃a cap,cs=[.slice a (List.length l) cap]/\List.length l<=cap/\(l=[]\/∃b o,a=some ⟨b,o,none⟩/\yM (Rd g w t) w g.S t.cells b o l)
 | .unit,_,cs=>cs=[]
 | .pair s t,x,cs=> ∃c1 c2,cs=c1++c2/\Rd g w s x.1 c1/\Rd g w t x.2 c2
 | .ref,x,cs=>Q6 g x cs
 | .clo,x,cs=>IW g x cs
 | .mp,x,cs=>L7 g x cs
 | .rl _ _,x,cs=>BY g x cs
 | .fn,x,cs=>V0 x cs
 | .mref,x,cs=>Q7 g x cs
 | .ap,x,cs=>FJ g w x cs
def tD (g:Gh) (w:q9) (t:Ty) (x:t.den) (v:qB):Prop:=
 (t.isRow=true/\∃cs:pX,v= .agg cs.toArray/\Rd g w t x cs)\/(t.isRow=false/\Rd g w t x [v])
def y6 (k:Nat):Ty->Nat->pX->Prop
 | .list _,o,cs=>o+1=k\/cs=[.slice none 0 0]
 | .pair a b,o,cs=> ∃c1 c2,cs=c1++c2/\c1.length=a.cells/\y6 k a o c1/\y6 k b (o+a.cells) c2
 |_,_,_=>True
def DI (g:Gh) (t:Ty) (x:t.den) (v:qB):pZ->Prop
 |none=>True
 |some k=>match t,x with
  | .list _,l=>g.cur k (List.length l)=some v
  | .pair a b,_=>y6 k (.pair a b) 0 v.cells.toList
  |_,_=>False
def IX (g:Gh) (w:q9):List ((Σ t:Ty,t.den)×pZ)->pX->Prop
 |[],vs=>vs=[]
 |(⟨t,x⟩,k)::l,vs=> ∃v vs',vs=v::vs'/\tD g w t x v/\DI g t x v k/\IX g w l vs'
def yV (g:Gh) (w:q9):DV->qB->Prop
 | .any,_=>True
 | .nilS,v=>v= .slice none 0 0
 | .val t x,v=>tD g w t x v
 | .at t x,v=> ∃b o cs,v= .pointer (some ⟨b,o,none⟩)/\w.rangeAt b o cs/\(∀j,j<t.cells->g.S b (o+j))/\Rd g w t x cs
 | .tup l,v=> ∃vs:pX,v= .tuple vs.toArray/\IX g w l vs
 | .cond p d,v=>(p=true->yV g w d v)/\(p=false->v=undef)
 | .flag p q,v=> ∃b,v= .bool b/\(b=true->p)/\(b=false->q)
 | .own k n,v=>g.cur k n=some v/\((v= .slice none 0 0/\n=0)\/∃b cap,v= .slice (some ⟨b,0,none⟩) n cap/\n<=cap)
 | .nxt b p c,v=>(b=true->v= .tuple #[.bool true,.int .i64 p,.int .i32 c])/\(b=false->v= .tuple #[.bool false])
 | .elt k n c i o,v=> ∃b cap,g.cur k n=some (.slice (some ⟨b,0,none⟩) n cap)/\0<=i/\i<(n:Int)/\v= .pointer (some ⟨b,i.toNat*c+o,none⟩)
 | .apd d,v=> ∃b u,v= .func (.func IG) #[] #[.pointer (some ⟨b,0,none⟩)]/\g.S b 0/\w.cell? ⟨b,0,none⟩=some u/\yV g w d u
def rP (g:Gh) (w:q9) (s:qM) (v:qB):Prop:=
 yV g w s.1 v/\match s with
  |(_,none)=>True
  |(.val t x,some k)=>DI g t x v (some k)
  |(_,some _)=>False
structure Le (g:Gh) (w:q9) (g':Gh) (w':q9):Prop where
 S: ∀b o,g.S b o->g'.S b o
 cell: ∀b o,g.S b o->w'.cell? ⟨b,o,none⟩=w.cell? ⟨b,o,none⟩
 J: ∀i p,g.J i=some p->g'.J i=some p
 cur: ∀k n v,g.cur k n=some v->g'.cur k n=some v
def Le.refl (g:Gh) (w:q9):Le g w g w:=⟨fun _ _ h=>h,fun _ _ _=>rfl,fun _ _ h=>h,fun _ _ _ h=>h⟩
def Le.trans {g g' g'':Gh}{w w' w'':q9}(h:Le g w g' w') (k:Le g' w' g'' w''):Le g w g'' w'':=
 ⟨fun b o x=>k.S b o (h.S b o x),fun b o x=>(k.cell b o (h.S b o x)).trans (h.cell b o x),fun i p x=>k.J i p (h.J i p x),fun i n v x=>k.cur i n v (h.cur i n v x)⟩
def a0J {g g':Gh}(hJ: ∀i p,g.J i=some p->g'.J i=some p): ∀{l:pV}{vs:pX},yN g l vs->yN g' l vs
 |[],_,h=>h
 |(_,_)::_,_,⟨p,vs',h1,h2,h3⟩=>⟨p,vs',hJ _ _ h1,h2,a0J hJ h3⟩
def aIT {g g':Gh}(hJ: ∀i p,g.J i=some p->g'.J i=some p): ∀{x:pY}{cs:pX},Q6 g x cs->Q6 g' x cs
 |none,_,h=>h
 |some (_,_),_,⟨p,h1,h2⟩=>⟨p,hJ _ _ h1,h2⟩
def aIU {g g':Gh}(hJ: ∀i p,g.J i=some p->g'.J i=some p): ∀{x:Option (Nat×pV)}{cs:pX},IW g x cs->IW g' x cs
 |none,_,h=>h
 |some (_,_),_,⟨vs,h1,h2⟩=>⟨vs,a0J hJ h1,h2⟩
def aIV {g g':Gh}(hJ: ∀i p,g.J i=some p->g'.J i=some p): ∀{x:pZ}{cs:pX},L7 g x cs->L7 g' x cs
 |none,_,h=>h
 |some _,_,⟨p,h1,h2⟩=>⟨p,hJ _ _ h1,h2⟩
def aIW {g g':Gh}(hc: ∀k n v,g.cur k n=some v->g'.cur k n=some v): ∀{x:pY}{cs:pX},BY g x cs->BY g' x cs
 |none,_,h=>h
 |some (_,_),_,⟨v,h1,h2⟩=>⟨v,hc _ _ _ h1,h2⟩
def aIX {g g':Gh}(hJ: ∀i p,g.J i=some p->g'.J i=some p): ∀{x:pY}{cs:pX},Q7 g x cs->Q7 g' x cs
 |none,_,h=>h
 |some (_,_),_,⟨p,h1,h2⟩=>⟨p,hJ _ _ h1,h2⟩
def aIY {g g':Gh}{w w':q9}(h:Le g w g' w'): ∀{x:Nat×Nat×(Nat×Nat)×(Nat×Nat)}{cs:pX},FJ g w x cs->FJ g' w' x cs
 |(_,_,(_,_),(_,_)),_,.inl r=> .inl r
 |(_,_,(_,_),(_,_)),_,.inr ⟨h0,b,α,e,hS,hc,h1,h2,h3,h4⟩=> .inr ⟨h0,b,α,e,h.S _ _ hS,(h.cell _ _ hS).trans hc,fun q=>let ⟨p,a1,a2⟩:=h1 q;⟨p,h.J _ _ a1,a2⟩,fun q=>let ⟨p,a1,a2⟩:=h2 q;⟨p,h.J _ _ a1,a2⟩,fun q=>let ⟨bb,cap,a1,a2⟩:=h3 q;⟨bb,cap,h.cur _ _ _ a1,a2⟩,fun q=>let ⟨bb,cap,a1,a2⟩:=h4 q;⟨bb,cap,h.cur _ _ _ a1,a2⟩⟩
def a0K {α:Type}{R R':α->pX->Prop}{w w':q9}{S S':Nat->Nat->Prop}{c b:Nat}(hR: ∀x cs,R x cs->R' x cs) (hS: ∀o,S b o->S' b o)
  (hc: ∀o,S b o->w'.cell? ⟨b,o,none⟩=w.cell? ⟨b,o,none⟩): ∀{l:List α}{o:Nat},yM R w S c b o l->yM R' w' S' c b o l
 |[],_,_=>trivial
 |_::_,o,⟨⟨cs,h1,h2,h3,h4⟩,h5⟩=>⟨⟨cs,h1,fun j v hv=>by
   have hj:j<c:=h1▸(aTF.1 hv).1;rw[hc _ (h3 j hj)];exact h2 j v hv,fun j hj=>hS _ (h3 j hj),hR _ _ h4⟩,a0K hR hS hc h5⟩
def wE {g g':Gh}{w w':q9}(h:Le g w g' w'): ∀{t:Ty}{x:t.den}{cs:pX},Rd g w t x cs->Rd g' w' t x cs
 | .bool,_,_,r=>r
 | .int _,_,_,r=>r
 | .str,_,_,r=>r
 | .unit,_,_,r=>r
 | .ref,_,_,r=>aIT h.J r
 | .clo,_,_,r=>aIU h.J r
 | .mp,_,_,r=>aIV h.J r
 | .rl _ _,_,_,r=>aIW h.cur r
 | .fn,_,_,r=>r
 | .mref,_,_,r=>aIX h.J r
 | .ap,_,_,r=>aIY h r
 | .pair _ _,_,_,⟨c1,c2,e,r1,r2⟩=>⟨c1,c2,e,wE h r1,wE h r2⟩
 | .list _,_,_,⟨a,cap,e,hle,hl⟩=>⟨a,cap,e,hle,hl.imp id fun⟨b,o,ea,hr⟩=>⟨b,o,ea,a0K (fun _ _=>wE h) (fun _=>h.S _ _) (fun _=>h.cell _ _) hr⟩⟩
def sT {g:Gh}{w:q9}: ∀{t:Ty}{x:t.den}{cs:pX},Rd g w t x cs->cs.length=t.cells
 | .bool,_,_,r=>by cases r;rfl
 | .int _,_,_,r=>by cases r;rfl
 | .str,_,_,r=>by cases r;rfl
 | .unit,_,_,r=>by cases r;rfl
 | .ref,none,_,r=>by cases r;rfl
 | .ref,some (_,_),_,⟨_,_,e⟩=>by cases e;rfl
 | .clo,none,_,r=>by cases r;rfl
 | .clo,some (_,_),_,⟨_,_,e⟩=>by cases e;rfl
 | .mp,none,_,r=>by cases r;rfl
 | .mp,some _,_,⟨_,_,e⟩=>by cases e;rfl
 | .fn,none,_,r=>by cases r;rfl
 | .fn,some _,_,r=>by cases r;rfl
 | .rl _ _,none,_,r=>by cases r;rfl
 | .rl _ _,some (_,_),_,⟨_,_,e,_⟩=>by cases e;rfl
 | .mref,none,_,r=>by cases r;rfl
 | .mref,some (_,_),_,⟨_,_,_,e⟩=>by rcases e with e|e<;>(cases e;rfl)
 | .ap,(_,_,(_,_),(_,_)),_,.inl ⟨_,e⟩=>by cases e;rfl
 | .ap,(_,_,(_,_),(_,_)),_,.inr ⟨_,_,_,e,_⟩=>by cases e;rfl
 | .pair _ _,_,_,⟨c1,c2,e,r1,r2⟩=>by rw[e,aTt,sT r1,sT r2];rfl
 | .list _,_,_,⟨_,_,e,_,_⟩=>by cases e;rfl
def V1 {g g':Gh}{w w':q9}(h:Le g w g' w') {t:Ty}{x:t.den}{v:qB}(r:tD g w t x v):tD g' w' t x v:=
 r.imp (fun⟨a,cs,e,q⟩=>⟨a,cs,e,wE h q⟩) (fun⟨a,q⟩=>⟨a,wE h q⟩)
def a9Y {g g':Gh}{w w':q9}(h:Le g w g' w') {t:Ty}{x:t.den}{v:qB}{k:pZ}(r:DI g t x v k):DI g' t x v k:=by
 cases k with
 |none=>trivial
 |some k=>
  cases t with
  |list u=>exact h.cur _ _ _ r
  |pair a b=>exact r
  |_=>exact r.elim
def a9Z {g g':Gh}{w w':q9}(h:Le g w g' w'): ∀{l:List ((Σ t:Ty,t.den)×pZ)}{vs:pX},IX g w l vs->IX g' w' l vs
 |[],_,r=>r
 |(⟨_,_⟩,_)::_,_,⟨v,vs',e,r1,r2,r3⟩=>⟨v,vs',e,V1 h r1,a9Y h r2,a9Z h r3⟩
def Q8 {g g':Gh}{w w':q9}(h:Le g w g' w'): ∀{d:DV}{v:qB},yV g w d v->yV g' w' d v
 | .any,_,r=>r
 | .nilS,_,r=>r
 | .val _ _,_,r=>V1 h r
 | .at t _,_,⟨b,o,cs,e,h1,h2,h3⟩=>⟨b,o,cs,e,fun j v hv=>by
   by_cases hj:j<t.cells
   .rw[h.cell _ _ (h2 j hj)];exact h1 j v hv
   .exact absurd (aTF.1 hv).1 (by rw[sT h3];exact hj),fun j hj=>h.S _ _ (h2 j hj),wE h h3⟩
 | .tup _,_,⟨vs,e,r⟩=>⟨vs,e,a9Z h r⟩
 | .cond _ _,_,⟨r1,r2⟩=>⟨fun p=>Q8 h (r1 p),r2⟩
 | .flag _ _,_,r=>r
 | .own _ _,_,⟨h1,h2⟩=>⟨h.cur _ _ _ h1,h2⟩
 | .nxt _ _ _,_,r=>r
 | .elt _ _ _ _ _,_,⟨b,cap,h1,h2⟩=>⟨b,cap,h.cur _ _ _ h1,h2⟩
 | .apd _,_,⟨b,u,e,hS,hc,r⟩=>⟨b,u,e,h.S _ _ hS,(h.cell _ _ hS).trans hc,Q8 h r⟩
def DJ {g g':Gh}{w w':q9}(h:Le g w g' w') {s:qM}{v:qB}(r:rP g w s v):rP g' w' s v:=by
 obtain⟨d,k⟩:=s;refine⟨Q8 h r.1,?_⟩;have r2:=r.2;cases k with
 |none=>trivial
 |some k=>
  cases d with
  |val t x=>exact a9Y h r2
  |_=>exact r2.elim
def AE {g:Gh}{w:q9}: ∀{t:Ty}{x:t.den}{cs:pX},Rd g w t x cs->∀v∈cs,v.oneCell'=true
 | .bool,_,_,r=>by cases r;intro v hv;simp at hv;subst hv;rfl
 | .int _,_,_,r=>by cases r;intro v hv;simp at hv;subst hv;rfl
 | .str,_,_,r=>by cases r;intro v hv;simp at hv;subst hv;rfl
 | .unit,_,_,r=>by cases r;intro v hv;simp at hv
 | .ref,none,_,r=>by cases r;intro v hv;simp at hv;subst hv;rfl
 | .ref,some (_,_),_,⟨_,_,e⟩=>by cases e;intro v hv;simp at hv;subst hv;rfl
 | .clo,none,_,r=>by cases r;intro v hv;simp at hv;subst hv;rfl
 | .clo,some (_,_),_,⟨_,_,e⟩=>by cases e;intro v hv;simp at hv;subst hv;rfl
 | .mp,none,_,r=>by cases r;intro v hv;simp at hv;subst hv;rfl
 | .mp,some _,_,⟨_,_,e⟩=>by cases e;intro v hv;simp at hv;subst hv;rfl
 | .fn,none,_,r=>by cases r;intro v hv;simp at hv;subst hv;rfl
 | .fn,some _,_,r=>by cases r;intro v hv;simp at hv;subst hv;rfl
 | .rl _ _,none,_,r=>by cases r;intro v hv;simp at hv;subst hv;rfl
 | .rl _ _,some (_,_),_,⟨_,_,e,hs⟩=>by
  cases e;intro v hv;simp at hv;subst hv;rcases hs with⟨rfl,_⟩ |⟨_,_,rfl,_⟩<;>rfl
 | .mref,none,_,r=>by cases r;intro v hv;simp at hv;subst hv;rfl
 | .mref,some (_,_),_,⟨_,_,_,e⟩=>by rcases e with e|e<;>(cases e;intro v hv;simp at hv;subst hv;rfl)
 | .ap,(_,_,(_,_),(_,_)),_,.inl ⟨_,e⟩=>by cases e;intro v hv;simp at hv;subst hv;rfl
 | .ap,(_,_,(_,_),(_,_)),_,.inr ⟨_,_,_,e,_⟩=>by cases e;intro v hv;simp at hv;subst hv;rfl
 | .pair _ _,_,_,⟨c1,c2,e,r1,r2⟩=>by
  subst e;intro v hv;rcases aUe.1 hv with h|h
  .exact AE r1 v h
  .exact AE r2 v h
 | .list _,_,_,⟨_,_,e,_,_⟩=>by cases e;intro v hv;simp at hv;subst hv;rfl
def vW {g g':Gh}{w:q9}(hS:g'.S=g.S): ∀{t:Ty}{x:t.den}{cs:pX},t.pure=true->Rd g w t x cs->Rd g' w t x cs
 | .bool,_,_,_,r=>r
 | .int _,_,_,_,r=>r
 | .str,_,_,_,r=>r
 | .unit,_,_,_,r=>r
 | .ref,_,_,h,_=>by simp [Ty.pure] at h
 | .clo,_,_,h,_=>by simp [Ty.pure] at h
 | .mp,_,_,h,_=>by simp [Ty.pure] at h
 | .rl _ _,_,_,h,_=>by simp [Ty.pure] at h
 | .fn,_,_,_,r=>r
 | .mref,_,_,h,_=>by simp [Ty.pure] at h
 | .ap,_,_,h,_=>by simp [Ty.pure] at h
 | .pair _ _,_,_,h,⟨c1,c2,e,r1,r2⟩=>by
  simp only[Ty.pure,aTL] at h;exact⟨c1,c2,e,vW hS h.1 r1,vW hS h.2 r2⟩
 | .list _,_,_,h,⟨a,cap,e,hle,hl⟩=>by
  simp only[Ty.pure] at h;exact⟨a,cap,e,hle,hl.imp id fun⟨b,o,ea,hr⟩=>⟨b,o,ea,a0K (fun _ _ r=>vW hS h r) (fun _ q=>by rw[hS];exact q) (fun _ _=>rfl) hr⟩⟩
def E9 (g:Gh) (w:q9) (k v:Ty):List (k.den×v.den)->List MapEntry->Prop
 |[],es=>es=[]
 |(a,b)::l,es=> ∃e es',es=e::es'/\tD g w k a e.key/\tD g w v b e.val/\E9 g w k v l es'
def a0L {g g':Gh}{w w':q9}(h:Le g w g' w') {k v:Ty}: ∀{l:List (k.den×v.den)}{es:List MapEntry},E9 g w k v l es->E9 g' w' k v l es
 |[],_,r=>r
 |_::_,_,⟨e,es',h1,h2,h3,h4⟩=>⟨e,es',h1,V1 h h2,V1 h h3,a0L h h4⟩
def a90 {g g':Gh}{w:q9}(hS:g'.S=g.S) {t:Ty}{x:t.den}{v:qB}(hp:t.pure=true) (r:tD g w t x v):tD g' w t x v:=
 r.imp (fun⟨a,cs,e,q⟩=>⟨a,cs,e,vW hS hp q⟩) (fun⟨a,q⟩=>⟨a,vW hS hp q⟩)
def Q9 {g g':Gh}{w:q9}(hS:g'.S=g.S) {k v:Ty}(hk:k.pure=true) (hv:v.pure=true): ∀{l:List (k.den×v.den)}{es:List MapEntry},E9 g w k v l es->E9 g' w k v l es
 |[],_,r=>r
 |_::_,_,⟨e,es',h1,h2,h3,h4⟩=>⟨e,es',h1,a90 hS hk h2,a90 hS hv h3,Q9 hS hk hv h4⟩
def tZ {α:Type}(R:α->pX->Prop) (c:Nat):List α->pX->Prop
 |[],cs=>cs=[]
 |x::xs,cs=> ∃c1 c2,cs=c1++c2/\c1.length=c/\R x c1/\tZ R c xs c2
def L8 {α:Type}{R:α->pX->Prop}{c:Nat}: ∀{l:List α}{cs:pX},tZ R c l cs->cs.length=l.length*c
 |[],_,h=>by rw[h];simp
 |_::l,_,⟨c1,c2,e,h1,_,h3⟩=>by rw[e,aTt,h1,L8 h3,aTx,aUC];omega
def a0M {α:Type}{R:α->pX->Prop}{c:Nat}: ∀{l m:List α}{cs ds:pX},tZ R c l cs->tZ R c m ds->tZ R c (l++m) (cs++ds)
 |[],_,_,_,h,k=>by rw[h];exact k
 |_::_,_,_,_,⟨c1,c2,e,h1,h2,h3⟩,k=>⟨c1,c2++_,by rw[e,aTD],h1,h2,a0M h3 k⟩
def CP {α:Type}{R R':α->pX->Prop}{c:Nat}(hR: ∀x cs,R x cs->R' x cs): ∀{l:List α}{cs:pX},tZ R c l cs->tZ R' c l cs
 |[],_,h=>h
 |_::_,_,⟨c1,c2,e,h1,h2,h3⟩=>⟨c1,c2,e,h1,hR _ _ h2,CP hR h3⟩
def BZ {g:Gh}{w:q9}{u:Ty}: ∀{t:Ty}{x:t.den}{cs:pX}{o:Nat}{y:u.den},Rd g w t x cs->rC u t x o=some y->
  ∃c1 c2 c3,cs=c1++c2++c3/\c1.length=o/\Rd g w u y c2:=by
 intro t
 induction t with
 |pair a b iha ihb=>
  intro x cs o y r h;obtain⟨c1,c2,e,r1,r2⟩:=r;have key: ∀o,(if o<a.cells then rC u a x.1 o else rC u b x.2 (o-a.cells))=some y->∃d1 d2 d3,cs=d1++d2++d3/\d1.length=o/\Rd g w u y d2:=by
   intro o h;by_cases ho:o<a.cells
   .rw[aTr ho] at h;obtain⟨d1,d2,d3,e',hl,hr⟩:=iha r1 h;exact⟨d1,d2,d3++c2,by rw[e,e'];simp,hl,hr⟩
   rw[aTs ho] at h;obtain⟨d1,d2,d3,e',hl,hr⟩:=ihb r2 h;refine⟨c1++d1,d2,d3,by rw[e,e'];simp,?_,hr⟩;rw[aTt,hl,sT r1];omega
  cases o with
  |zero=>
   unfold rC at h;by_cases hu:Ty.pair a b=u
   .rw[aVo hu] at h;subst hu;simp only[u7,aTq] at h;subst h;exact⟨[],cs,[],by simp,rfl,⟨c1,c2,e,r1,r2⟩⟩
   .rw[aUU hu] at h;refine key 0 ?_;simpa using h
  |succ o=>exact key (o+1) (by simpa[rC] using h)
 |_=>
  intro x cs o y r h;cases o with
  |zero=>
   unfold rC at h;split at h
   .rename_i hu;subst hu;simp only[u7,aTq] at h
    try subst h
    exact⟨[],cs,[],by simp,rfl,r⟩
   .simp at h
  |succ o=>simp [rC] at h
def QA {g:Gh}{w:q9}{u:Ty}{y:u.den}{cy:pX}(hy:Rd g w u y cy): ∀{t:Ty}{x z:t.den}{cs:pX}{o:Nat},Rd g w t x cs->sI u y t x o=some z->
  ∃c1 c2 c3,cs=c1++c2++c3/\c1.length=o/\c2.length=u.cells/\Rd g w t z (c1++cy++c3):=by
 intro t
 induction t with
 |pair a b iha ihb=>
  intro x z cs o r h;obtain⟨c1,c2,e,r1,r2⟩:=r;have key: ∀o,(if o<a.cells then(sI u y a x.1 o).map (fun q=>(q,x.2)) else(sI u y b x.2 (o-a.cells)).map (fun q=>(x.1,q)))=some z->
    ∃d1 d2 d3,cs=d1++d2++d3/\d1.length=o/\d2.length=u.cells/\Rd g w (.pair a b) z (d1++cy++d3):=by
   intro o h;by_cases ho:o<a.cells
   .rw[aTr ho] at h;obtain⟨q,hq,rfl⟩:=aTG.1 h;obtain⟨d1,d2,d3,e',hl,hl2,hr⟩:=iha r1 hq;exact⟨d1,d2,d3++c2,by rw[e,e'];simp,hl,hl2,⟨d1++cy++d3,c2,by simp,hr,r2⟩⟩
   rw[aTs ho] at h;obtain⟨q,hq,rfl⟩:=aTG.1 h;obtain⟨d1,d2,d3,e',hl,hl2,hr⟩:=ihb r2 hq;refine⟨c1++d1,d2,d3,by rw[e,e'];simp,?_,hl2,⟨c1,d1++cy++d3,by simp,r1,hr⟩⟩;rw[aTt,hl,sT r1];omega
  cases o with
  |zero=>
   unfold sI at h;by_cases hu:u=Ty.pair a b
   .rw[aVo hu] at h;subst hu;simp only[u7,aTq] at h;subst h;exact⟨[],cs,[],by simp,rfl,sT (t:= .pair a b) (x:=x) ⟨c1,c2,e,r1,r2⟩,by simpa using hy⟩
   .rw[aUU hu] at h;refine key 0 ?_;simpa using h
  |succ o=>exact key (o+1) (by simpa[sI] using h)
 |_=>
  intro x z cs o r h;cases o with
  |zero=>
   unfold sI at h;split at h
   .rename_i hu;subst hu;simp only[u7,aTq] at h
    try subst h
    exact⟨[],cs,[],by simp,rfl,sT r,by simpa using hy⟩
   .simp at h
  |succ o=>simp [sI] at h
def aIZ {e:Nat}{u:Ty}{kn:pY}: ∀{t:Ty}{x:t.den}{o:Nat}{q: Σ t:Ty,t.den},yK e u kn t x o=some q->q.1.cells=t.cells:=by
 intro t
 induction t with
 |pair a b iha ihb=>
  intro x o q h;unfold yK at h;split at h
  .cases hq:yK e u kn a x.1 o with
   |none=>rw[hq] at h;cases h
   |some r=>
    obtain⟨a',x'⟩:=r;rw[hq] at h;simp only[a0f,aTq] at h;subst h;have:=iha hq;simp only[Ty.cells] at this|-;omega
  .cases hq:yK e u kn b x.2 (o-a.cells) with
   |none=>rw[hq] at h;cases h
   |some r=>
    obtain⟨b',y'⟩:=r;rw[hq] at h;simp only[a0g,aTq] at h;subst h;have:=ihb hq;simp only[Ty.cells] at this|-;omega
 |list v=>
  intro x o q h;cases o with
  |zero=>
   simp only[yK] at h;split at h
   .simp only[aTq] at h;subst h;rfl
   .cases h
  |succ o=>simp [yK] at h
 |_=>intro x o q h;cases o<;>simp [yK] at h
def aI0 {g:Gh}{w:q9}{e:Nat}{u:Ty}{kn:pY}{cy:pX}(hy:BY g kn cy): ∀{t:Ty}{x:t.den}{cs:pX}{o:Nat}{q: Σ t:Ty,t.den},Rd g w t x cs->yK e u kn t x o=some q->
  ∃c1 c2 c3,cs=c1++c2++c3/\c1.length=o/\c2.length=1/\Rd g w q.1 q.2 (c1++cy++c3):=by
 intro t
 induction t with
 |pair a b iha ihb=>
  intro x cs o q r h;obtain⟨c1,c2,e1,r1,r2⟩:=r;unfold yK at h;split at h
  .cases hq:yK e u kn a x.1 o with
   |none=>rw[hq] at h;cases h
   |some z=>
    obtain⟨a',x'⟩:=z;rw[hq] at h;simp only[a0f,aTq] at h;subst h;obtain⟨d1,d2,d3,e',hl,hl2,hr⟩:=iha r1 hq;exact⟨d1,d2,d3++c2,by rw[e1,e'];simp,hl,hl2,⟨d1++cy++d3,c2,by simp,hr,r2⟩⟩
  .cases hq:yK e u kn b x.2 (o-a.cells) with
   |none=>rw[hq] at h;cases h
   |some z=>
    obtain⟨b',y'⟩:=z;rw[hq] at h;simp only[a0g,aTq] at h;subst h;obtain⟨d1,d2,d3,e',hl,hl2,hr⟩:=ihb r2 hq;refine⟨c1++d1,d2,d3,by rw[e1,e'];simp,?_,hl2,⟨c1,d1++cy++d3,by simp,r1,hr⟩⟩;rw[aTt,hl,sT r1];omega
 |list v=>
  intro x cs o q r h;cases o with
  |zero=>
   simp only[yK] at h;split at h
   .simp only[aTq] at h;subst h;exact⟨[],cs,[],by simp,rfl,sT r,by rw[List.nil_append,List.append_nil];exact hy⟩
   .cases h
  |succ o=>simp [yK] at h
 |_=>intro x cs o q r h;cases o<;>simp [yK] at h
def GR (g:Gh) (t:Ty) (x:t.den) (cs:pX) (toks:pV):Prop:=
 ∀o k,(o,k)∈toks->∃(u:Ty) (l:List u.den) (v:qB),rC (.list u) t x o=some l/\cs[o]? =some v/\g.cur k l.length=some v
def aI1 (w:q9) (p:Pl) (n:Nat):Prop:=w.there p.1 p.2 n/\(0<n->∀s,p.3=some s->w.shape? p.1=some s)
def C0 {w:q9}{b:Nat}{s:TypeId×Nat}(h:w.shape? b=some s):b<w.heap.size:=by
 unfold World.shape? at h;cases hb:w.heap[b]? with
 |none=>rw[hb] at h;cases h
 |some x=>exact(aTT.1 hb).1
def C1 {w w':q9}{b:Nat}(h:w'.heap[b]? =w.heap[b]?):w'.shape? b=w.shape? b:=by
 unfold World.shape?;rw[h]
def AF (g:Gh) (w:q9) (i:Nat):qJ->Prop
 | .cells t x toks=> ∃p cs,g.J i=some p/\Rd g w t x cs/\w.rangeAt p.1 p.2 cs/\aI1 w p t.cells/\(∀j,j<t.cells->¬g.S p.1 (p.2+j))/\GR g t x cs toks
 | .grow e c n=> ∃v xs,g.cur i n=some v/\w.ownsRow 0 e c v n xs/\(∀m,n<m->g.cur i m=none)/\∀b,v.ownBlock=some b->∀o,g.S b o->o<n*c
 | .row e t l n=>l.length=n/\∃v xs,g.cur i n=some v/\w.ownsRow 0 e t.cells v n xs/\tZ (Rd g w t) t.cells l xs/\(∀m,n<m->g.cur i m=none)/\∀b,v.ownBlock=some b->∀o,¬g.S b o
 | .map k v l=> ∃p es clock,g.J i=some p/\p.2=0/\w.heap[p.1]? =some (.map es clock)/\E9 g w k v l es.toList/\∀o,¬g.S p.1 o
 | .iter s n=> ∃p,g.J i=some p/\p.2=0/\w.heap[p.1]? =some (.stringIter ⟨s.toArray⟩ n)/\∀o,¬g.S p.1 o
 | .dead=>True
def sC (g:Gh) (i:Nat):qJ->Nat->Nat->Prop
 | .cells t _ _,b,o=> ∃p,g.J i=some p/\b=p.1/\p.2<=o/\o<p.2+t.cells
 | .grow _ _ n,b,_=> ∃v,g.cur i n=some v/\v.ownBlock=some b
 | .row _ _ _ n,b,_=> ∃v,g.cur i n=some v/\v.ownBlock=some b
 | .map _ _ _,b,_=> ∃p,g.J i=some p/\b=p.1
 | .iter _ _,b,_=> ∃p,g.J i=some p/\b=p.1
 | .dead,_,_=>False
structure sD (g:Gh) (w:q9) (H:s9):Prop where
 blk: ∀i b,qO H i=some b->AF g w i b
 dis: ∀i j bi bj b o,i≠j->qO H i=some bi->qO H j=some bj->sC g i bi b o->sC g j bj b o->False
 sl: ∀b o,g.S b o->b<w.heap.size
 tab:F8 w/\∀i blk b o,qO H i=some blk->sC g i blk b o->NG<=b
def sS (g:Gh) (H:s9) (ids:q8) (b o:Nat):Prop:= ∃i blk,i∈ids/\qO H i=some blk/\sC g i blk b o
structure Fr (A:Nat->Nat->Prop) (w w':q9) (S S':Nat->Nat->Prop):Prop where
 os:w'.os=w.os
 tape:w'.tape=w.tape
 output:w'.output=w.output
 size:w.heap.size<=w'.heap.size
 blk: ∀b,b<w.heap.size->(∀o,¬A b o)->w'.heap[b]? =w.heap[b]?
 cell: ∀b o,b<w.heap.size->¬A b o->w'.cell? ⟨b,o,none⟩=w.cell? ⟨b,o,none⟩/\w'.frozen? ⟨b,o,none⟩=w.frozen? ⟨b,o,none⟩
 new: ∀b o,S' b o->S b o\/w.heap.size<=b\/A b o
 shape: ∀b s,w.shape? b=some s->w'.shape? b=some s\/∀o,A b o
def Fr.refl (A:Nat->Nat->Prop) (w:q9) (S:Nat->Nat->Prop):Fr A w w S S:=
 ⟨rfl,rfl,rfl,aTO _,fun _ _ _=>rfl,fun _ _ _ _=>⟨rfl,rfl⟩,fun _ _ h=> .inl h,fun _ _ h=> .inl h⟩
def Fr.trans {A B:Nat->Nat->Prop}{w w' w'':q9}{S S' S'':Nat->Nat->Prop}(h:Fr A w w' S S') (k:Fr B w' w'' S' S'') (hB: ∀b o,B b o->w.heap.size<=b\/A b o):Fr A w w'' S S'':=by
 refine⟨k.os.trans h.os,k.tape.trans h.tape,k.output.trans h.output,aUs h.size k.size,fun b hb hA=>?_,fun b o hb hA=>?_,fun b o hs=>?_,fun b s hs=>?_⟩
 .refine(k.blk b (aT1 hb h.size) fun o ho=>?_).trans (h.blk b hb hA);rcases hB b o ho with h1|h1
  .omega
  exact hA o h1
 .have h1:=h.cell b o hb hA;have h2:=k.cell b o (aT1 hb h.size) (fun ho=>by
   rcases hB b o ho with h1|h1
   .omega
   exact hA h1)
  exact⟨h2.1.trans h1.1,h2.2.trans h1.2⟩
 .rcases k.new b o hs with h1|h1|h1
  .exact h.new b o h1
  .exact .inr (.inl (aUs h.size h1))
  exact .inr (hB b o h1)
 rcases h.shape b s hs with h1|h1
 .rcases k.shape b s h1 with h2|h2
  .exact .inl h2
  refine .inr fun o=>(hB b o (h2 o)).resolve_left ?_;have:=C0 hs;omega
 exact .inr h1
structure rN (g:Gh) (w:q9) (H:s9) (e:qS) (g':Gh) (w':q9) (v:qB):Prop where
 le:Le g w g' w'
 slot:rP g' w' e.slot v
 heap:sD g' w' (r6 e.upd H)
 fr:Fr (sS g H (qQ e.upd)) w w' g.S g'.S
 perm: ∀i blk b o,i∈qQ e.upd->qO (r6 e.upd H) i=some blk->sC g' i blk b o->w.heap.size<=b\/sS g H (qQ e.upd) b o
 gho: ∀i,i∉qQ e.upd->g'.J i=g.J i/\g'.cur i=g.cur i
 ty: ∀i u y us,qO (r6 e.upd H) i=some (.cells u y us)->(∃x ts,qO H i=some (.cells u x ts))\/(g.J i=none/\∀n,g.cur i n=none)
structure A0 (g:Gh) (w:q9) (H:s9) (e:qS) (g':Gh) (w':q9) (v:qB):Prop where
 le:Le g w g' w'
 slot:rP g' w' e.slot v
 heap:sD g' w' (r6 e.upd H)
 fr:Fr (sS g H (qQ e.upd)) w w' g.S g'.S
 perm: ∀i blk b o,i∈qQ e.upd->qO (r6 e.upd H) i=some blk->sC g' i blk b o->w.heap.size<=b\/sS g H (qQ e.upd) b o
 gho: ∀i,i∉qQ e.upd->g'.J i=g.J i/\g'.cur i=g.cur i
 ty:IJ e.rds=false->∀i u y us,qO (r6 e.upd H) i=some (.cells u y us)->(∃x ts,qO H i=some (.cells u x ts))\/(g.J i=none/\∀n,g.cur i n=none)
def rN.w {g:Gh}{w:q9}{H:s9}{e:qS}{g':Gh}{w':q9}{v:qB}(h:rN g w H e g' w' v):A0 g w H e g' w' v:=⟨h.le,h.slot,h.heap,h.fr,h.perm,h.gho,fun _=>h.ty⟩
def L9 {w:q9}{B:Nat}{e:TypeId}{c n:Nat}{v:qB}{xs:pX}(h:w.ownsRow B e c v n xs) {b:Nat}(hb:v.ownBlock=some b):b<w.heap.size:=(h.lt b hb).2
def QB {w:q9}{b o:Nat}{v:qB}(h:w.cell? ⟨b,o,none⟩=some v):b<w.heap.size:=by
 have:=World.block_lt_of_cell? w ⟨b,o,none⟩ h;exact this
def LA {g:Gh}{w:q9}{i:Nat}{blk:qJ}(h:AF g w i blk) {b o:Nat}(ho:sC g i blk b o):b<w.heap.size:=by
 cases blk with
 |cells t x toks=>
  obtain⟨p,cs,hp,_,_,ht,_⟩:=h;obtain⟨q,hq,rfl,h1,h2⟩:=ho;rw[hp] at hq;obtain rfl:=aTv hq;have:=(ht.1 (o-p.2) pQ).1;obtain⟨v,hv⟩:=aTw.1 this;exact QB hv
 |grow e c n=>
  obtain⟨v,xs,hv,hr,_⟩:=h;obtain⟨v',hv',hb⟩:=ho;rw[hv] at hv';obtain rfl:=aTv hv';exact L9 hr hb
 |row e t l n=>
  obtain⟨_,v,xs,hv,hr,_⟩:=h;obtain⟨v',hv',hb⟩:=ho;rw[hv] at hv';obtain rfl:=aTv hv';exact L9 hr hb
 |map k v l=>
  obtain⟨p,es,cl,hp,_,hh,_,_⟩:=h;obtain⟨q,hq,rfl⟩:=ho;rw[hp] at hq;obtain rfl:=aTv hq;exact(aTT.1 hh).1
 |iter s n=>
  obtain⟨p,hp,_,hh,_⟩:=h;obtain⟨q,hq,rfl⟩:=ho;rw[hp] at hq;obtain rfl:=aTv hq;exact(aTT.1 hh).1
 |dead=>exact ho.elim
def a91 {g g':Gh}(hc: ∀k n v,g.cur k n=some v->g'.cur k n=some v) {t:Ty}{x:t.den}{cs:pX}{toks:pV}(h:GR g t x cs toks):GR g' t x cs toks:=
 fun o k hm=>let ⟨u,l,v,h1,h2,h3⟩:=h o k hm;⟨u,l,v,h1,h2,hc _ _ _ h3⟩
def IY {g g':Gh}{w w':q9}{i:Nat}{blk:qJ}(h:AF g w i blk) (le:Le g w g' w') (hJ:g'.J i=g.J i) (hcur:g'.cur i=g.cur i)
  (hc: ∀b o,sC g i blk b o->w'.cell? ⟨b,o,none⟩=w.cell? ⟨b,o,none⟩/\w'.frozen? ⟨b,o,none⟩=w.frozen? ⟨b,o,none⟩)
  (hb: ∀b,(∀o,sC g i blk b o)->w'.heap[b]? =w.heap[b]?) (hS: ∀b o,sC g i blk b o->g'.S b o->g.S b o) (hsh: ∀b o s,sC g i blk b o->w.shape? b=some s->w'.shape? b=some s):AF g' w' i blk:=by
 cases blk with
 |cells t x toks=>
  obtain⟨p,cs,hp,hr,hra,ht,hs,htk⟩:=h;have ho: ∀j,j<t.cells->sC g i (.cells t x toks) p.1 (p.2+j):=fun j hj=>⟨p,hp,rfl,pQ,pQ⟩;refine⟨p,cs,hJ.trans hp,wE le hr,fun j v hv=>?_,⟨fun j hj=>?_,fun h0 s hs3=>hsh _ _ _ (ho 0 h0) (ht.2 h0 s hs3)⟩,fun j hj hs'=>hs j hj (hS _ _ (ho j hj) hs'),a91 le.cur htk⟩
  .have hj:j<t.cells:=sT hr▸(aTF.1 hv).1;rw[(hc _ _ (ho j hj)).1];exact hra j v hv
  .rw[(hc _ _ (ho j hj)).1,(hc _ _ (ho j hj)).2];exact ht.1 j hj
 |grow e c n=>
  obtain⟨v,xs,hv,hr,hn,hs⟩:=h;have hbl: ∀b,v.ownBlock=some b->∀o,sC g i (.grow e c n) b o:=fun b hb o=>⟨v,hv,hb⟩;refine⟨v,xs,by rw[hcur];exact hv,⟨hr.1,?_⟩,fun m hm=>by rw[hcur];exact hn m hm,fun b hvb o hs'=>hs b hvb o (hS _ _ (hbl b hvb o) hs')⟩;rcases hr.2 with h0|⟨q,cap,cur,e1,e2,e3,e4⟩
  .exact .inl h0
  .subst e1;exact .inr ⟨q,cap,cur,rfl,e2,by rw[hb q (hbl q rfl)];exact e3,e4⟩
 |row e t l n=>
  obtain⟨hl,v,xs,hv,hr,hF,hn,hs⟩:=h;have hbl: ∀b,v.ownBlock=some b->∀o,sC g i (.row e t l n) b o:=fun b hb o=>⟨v,hv,hb⟩;refine⟨hl,v,xs,by rw[hcur];exact hv,⟨hr.1,?_⟩,CP (fun _ _ h=>wE le h) hF,fun m hm=>by rw[hcur];exact hn m hm,fun b hvb o hs'=>hs b hvb o (hS _ _ (hbl b hvb o) hs')⟩;rcases hr.2 with h0|⟨q,cap,cur,e1,e2,e3,e4⟩
  .exact .inl h0
  .subst e1;exact .inr ⟨q,cap,cur,rfl,e2,by rw[hb q (hbl q rfl)];exact e3,e4⟩
 |map k v l=>
  obtain⟨p,es,cl,hp,h0,hh,hM,hs⟩:=h;have hbl: ∀o,sC g i (.map k v l) p.1 o:=fun o=>⟨p,hp,rfl⟩;exact⟨p,es,cl,hJ.trans hp,h0,(hb _ hbl).trans hh,a0L le hM,fun o hs'=>hs o (hS _ _ (hbl o) hs')⟩
 |iter s n=>
  obtain⟨p,hp,h0,hh,hs⟩:=h;have hbl: ∀o,sC g i (.iter s n) p.1 o:=fun o=>⟨p,hp,rfl⟩;exact⟨p,hJ.trans hp,h0,(hb _ hbl).trans hh,fun o hs'=>hs o (hS _ _ (hbl o) hs')⟩
 |dead=>trivial
def xF {g g':Gh}{i:Nat}{blk:qJ}(hJ:g'.J i=g.J i) (hcur:g'.cur i=g.cur i) {b o:Nat}:sC g' i blk b o↔sC g i blk b o:=by
 cases blk<;>simp [sC,hJ,hcur]
def AG {i:Nat}: ∀{u:List (Nat×qJ)}{H:s9},i∉qQ u->qO (r6 u H) i=qO H i
 |[],_,_=>rfl
 |(k,b)::r,H,h=>by
  simp only[qQ,aTE,not_or] at h;simp only[r6,qO];rw[aTs (Ne.symm h.1)];exact AG h.2
def sD.upd {g g':Gh}{w w':q9}{H:s9}{u:List (Nat×qJ)}(h:sD g w H) (le:Le g w g' w') (fr:Fr (sS g H (qQ u)) w w' g.S g'.S)
  (perm: ∀i blk b o,i∈qQ u->qO (r6 u H) i=some blk->sC g' i blk b o->w.heap.size<=b\/sS g H (qQ u) b o)
  (gho: ∀i,i∉qQ u->g'.J i=g.J i/\g'.cur i=g.cur i)
  (hb: ∀i blk,i∈qQ u->qO (r6 u H) i=some blk->AF g' w' i blk)
  (hd: ∀i j bi bj b o,i∈qQ u->j∈qQ u->i≠j->qO (r6 u H) i=some bi->qO (r6 u H) j=some bj->sC g' i bi b o->sC g' j bj b o->False)
  (sl: ∀b o,g'.S b o->b<w'.heap.size):sD g' w' (r6 u H):=by
 have out: ∀i blk,i∉qQ u->qO H i=some blk->∀b o,sC g i blk b o->b<w.heap.size/\¬sS g H (qQ u) b o:=fun i blk hi hg b o ho=>
  ⟨LA (h.blk i blk hg) ho,fun⟨j,bj,hj,hgj,hoj⟩=>h.dis i j blk bj b o (fun e=>hi (e▸hj)) hg hgj ho hoj⟩
 refine⟨fun i blk hg=>?_,fun i j bi bj b o hij hgi hgj hoi hoj=>?_,sl,II h.tab.1 fr.size (fun b hb=>fr.blk b (aT1 hb h.tab.1.1) (fun o ⟨j,bj,_,k1,k2⟩=>Nat.not_lt.2 (h.tab.2 j bj b o k1 k2) hb)),fun i blk b o hg ho=>?_⟩
 rotate_right
 .by_cases hi:i∈qQ u
  .rcases perm i blk b o hi hg ho with h1|⟨j,bj,_,k1,k2⟩
   .exact aUs h.tab.1.1 h1
   exact h.tab.2 j bj b o k1 k2
  exact h.tab.2 i blk b o ((AG hi).symm.trans hg) ((xF (gho i hi).1 (gho i hi).2).1 ho)
 .by_cases hi:i∈qQ u
  .exact hb i blk hi hg
  have hg0:=(AG hi).symm.trans hg;have hk:=gho i hi;refine IY (h.blk i blk hg0) le hk.1 hk.2 (fun b o ho=>?_) (fun b ho=>?_) (fun b o ho hs=>?_) (fun b o s ho hs=>(fr.shape b s hs).resolve_right fun h1=>(out i blk hi hg0 b o ho).2 (h1 o))
  .exact fr.cell b o (out i blk hi hg0 b o ho).1 (out i blk hi hg0 b o ho).2
  .exact fr.blk b (out i blk hi hg0 b 0 (ho 0)).1 (fun o=>(out i blk hi hg0 b o (ho o)).2)
  rcases fr.new b o hs with h1|h1|h1
  .exact h1
  .have:=(out i blk hi hg0 b o ho).1;omega
  exact absurd h1 (out i blk hi hg0 b o ho).2
 by_cases hi:i∈qQ u<;>by_cases hj:j∈qQ u
 .exact hd i j bi bj b o hi hj hij hgi hgj hoi hoj
 .have hg0:=(AG hj).symm.trans hgj;have ho0:=(xF (gho j hj).1 (gho j hj).2).1 hoj;rcases perm i bi b o hi hgi hoi with h1|h1
  .have:=(out j bj hj hg0 b o ho0).1;omega
  exact(out j bj hj hg0 b o ho0).2 h1
 .have hg0:=(AG hi).symm.trans hgi;have ho0:=(xF (gho i hi).1 (gho i hi).2).1 hoi;rcases perm j bj b o hj hgj hoj with h1|h1
  .have:=(out i bi hi hg0 b o ho0).1;omega
  exact(out i bi hi hg0 b o ho0).2 h1
 exact h.dis i j bi bj b o hij ((AG hi).symm.trans hgi) ((AG hj).symm.trans hgj) ((xF (gho i hi).1 (gho i hi).2).1 hoi) ((xF (gho j hj).1 (gho j hj).2).1 hoj)
def rN.pure {g:Gh}{w:q9}{H:s9}{side:List Prop}{s:qM}{rds:q8}{v:qB}(h:sD g w H) (hs:rP g w s v):rN g w H ⟨side,s,[],rds⟩ g w v:=
 ⟨.refl _ _,hs,h,.refl _ _ _,fun _ _ _ _ hi=>(by cases hi),fun _ _=>⟨rfl,rfl⟩,fun _ _ y us h=> .inl ⟨y,us,h⟩⟩
def A0.pure {g:Gh}{w:q9}{H:s9}{side:List Prop}{s:qM}{rds:q8}{v:qB}(h:sD g w H) (hs:rP g w s v):A0 g w H ⟨side,s,[],rds⟩ g w v:=(rN.pure h hs).w
def LB {α:Type}: ∀(l m n:List α),r6 (r6 l m) n=r6 l (r6 m n)
 |[],_,_=>rfl
 |x::l,m,n=>by simp only[r6,LB l m n]
def CQ {i:Nat}: ∀{l m:List (Nat×qJ)},i∈qQ (r6 l m)↔i∈qQ l\/i∈qQ m
 |[],m=>by simp [r6,qQ]
 |(k,b)::l,m=>by simp only[r6,qQ,aTE,CQ (l:=l),or_assoc]
def rN.trans {g:Gh}{w:q9}{H:s9}{e1 e2:qS}{g1 g2:Gh}{w1 w2:q9}{v1 v2:qB}{side:List Prop}{rds:q8}(h:rN g w H e1 g1 w1 v1) (k:rN g1 w1 (r6 e1.upd H) e2 g2 w2 v2):rN g w H ⟨side,e2.slot,r6 e2.upd e1.upd,rds⟩ g2 w2 v2:=by
 have hB: ∀b o,sS g1 (r6 e1.upd H) (qQ e2.upd) b o->w.heap.size<=b\/sS g H (qQ (r6 e2.upd e1.upd)) b o:=by
  rintro b o ⟨i,blk,hi,hg,ho⟩;by_cases h1:i∈qQ e1.upd
  .refine(h.perm i blk b o h1 hg ho).imp id fun⟨j,bj,hj,q⟩=>⟨j,bj,CQ.2 (.inr hj),q⟩
  exact .inr ⟨i,blk,CQ.2 (.inl hi),(AG h1).symm.trans hg,(xF (h.gho i h1).1 (h.gho i h1).2).1 ho⟩
 have mono: ∀b o,sS g H (qQ e1.upd) b o->sS g H (qQ (r6 e2.upd e1.upd)) b o:=fun b o ⟨j,bj,hj,q⟩=>⟨j,bj,CQ.2 (.inr hj),q⟩;refine⟨h.le.trans k.le,k.slot,by simp only[LB];exact k.heap,?_,fun i blk b o hi hg ho=>?_,fun i hi=>?_,fun i u y us hg=>?_⟩
 .have h1:Fr (sS g H (qQ (r6 e2.upd e1.upd))) w w1 g.S g1.S:=⟨h.fr.os,h.fr.tape,h.fr.output,h.fr.size,fun b hb hn=>h.fr.blk b hb (fun o ho=>hn o (mono b o ho)),fun b o hb hn=>h.fr.cell b o hb (fun ho=>hn (mono b o ho)),fun b o hs=>(h.fr.new b o hs).imp id (Or.imp id (mono b o)),fun b s hs=>(h.fr.shape b s hs).imp id fun h o=>mono b o (h o)⟩;exact h1.trans k.fr hB
 .simp only[LB] at hg;by_cases h2:i∈qQ e2.upd
  .rcases k.perm i blk b o h2 hg ho with h3|h3
   .exact .inl (aUs h.fr.size h3)
   exact hB b o h3
  have hi1:i∈qQ e1.upd:=(CQ.1 hi).resolve_left h2;rw[AG h2] at hg;exact(h.perm i blk b o hi1 hg ((xF (k.gho i h2).1 (k.gho i h2).2).1 ho)).imp id (mono b o)
 .have h2:i∉qQ e2.upd:=fun q=>hi (CQ.2 (.inl q));have h1:i∉qQ e1.upd:=fun q=>hi (CQ.2 (.inr q));exact⟨(k.gho i h2).1.trans (h.gho i h1).1,(k.gho i h2).2.trans (h.gho i h1).2⟩
 simp only[LB] at hg;rcases k.ty i u y us hg with⟨x,ts,h3⟩ |⟨h3,h4⟩
 .exact h.ty i u x ts h3
 right;refine⟨?_,fun n=>?_⟩
 .cases hj:g.J i with
  |none=>rfl
  |some p=>rw[h.le.J i p hj] at h3;cases h3
 cases hj:g.cur i n with
 |none=>rfl
 |some p=>rw[<-h4 n,h.le.cur i n p hj]
def rN.congrH {g:Gh}{w:q9}{H H':s9}{e:qS}{g':Gh}{w':q9}{v:qB}(h:rN g w H e g' w' v) (hH:H=H'):rN g w H' e g' w' v:=hH▸h
def GS {α:Type}{x:α}: ∀{l m:List α},x∈r6 l m↔x∈l\/x∈m
 |[],m=>by simp [r6]
 |y::l,m=>by simp only[r6,aTE,GS (l:=l),or_assoc]
def rN.slot' {g:Gh}{w:q9}{H:s9}{sd sd2:List Prop}{s s2:qM}{U:List (Nat×qJ)}{r r2:q8}{g':Gh}{w':q9}{v v2:qB}(h:rN g w H ⟨sd,s,U,r⟩ g' w' v) (hs:rP g' w' s2 v2):rN g w H ⟨sd2,s2,U,r2⟩ g' w' v2:=
 ⟨h.le,hs,h.heap,h.fr,h.perm,h.gho,h.ty⟩
def sD.ext0 {g:Gh}{w:q9}{H H':s9}(h:sD g w H) (e: ∀i,qO H i=qO H' i):sD g w H':=
 ⟨fun i b hb=>h.blk i b (by rw[e];exact hb),fun i j bi bj b o hij h1 h2=>h.dis i j bi bj b o hij (by rw[e];exact h1) (by rw[e];exact h2),h.sl,h.tab.1,fun i b bb oo hb ho=>h.tab.2 i b bb oo (by rw[e];exact hb) ho⟩
def rN.more {g:Gh}{w:q9}{H:s9}{sd sd2:List Prop}{s:qM}{U U2:List (Nat×qJ)}{r r2:q8}{g':Gh}{w':q9}{v:qB}(h:rN g w H ⟨sd,s,U,r⟩ g' w' v) (hg: ∀i,qO (r6 U2 H) i=qO (r6 U H) i) (hm: ∀i,i∈qQ U->i∈qQ U2):rN g w H ⟨sd2,s,U2,r2⟩ g' w' v:=by
 have mono: ∀b o,sS g H (qQ U) b o->sS g H (qQ U2) b o:=fun b o ⟨j,bj,hj,q⟩=>⟨j,bj,hm j hj,q⟩;refine⟨h.le,h.slot,h.heap.ext0 (fun i=>(hg i).symm),⟨h.fr.os,h.fr.tape,h.fr.output,h.fr.size,fun b hb hn=>h.fr.blk b hb (fun o ho=>hn o (mono b o ho)),fun b o hb hn=>h.fr.cell b o hb (fun ho=>hn (mono b o ho)),fun b o hs=>(h.fr.new b o hs).imp id (Or.imp id (mono b o)),fun b s hs=>(h.fr.shape b s hs).imp id fun h o=>mono b o (h o)⟩,fun i blk b o hi hg2 ho=>?_,fun i hi=>h.gho i (fun q=>hi (hm i q)),fun i u y us hg2=>h.ty i u y us ((hg i).symm.trans hg2)⟩;rw[hg] at hg2;by_cases h1:i∈qQ U
 .exact(h.perm i blk b o h1 hg2 ho).imp id (mono b o)
 exact .inr ⟨i,blk,hi,(AG h1).symm.trans hg2,(xF (h.gho i h1).1 (h.gho i h1).2).1 ho⟩
def uC:Ty->pX
 | .bool=>[.bool false]
 | .int k=>[.int k 0]
 | .str=>[.string ⟨#[]⟩]
 | .list _=>[.slice none 0 0]
 | .unit=>[]
 | .pair a b=>uC a++uC b
 | .ref=>[.pointer none]
 | .clo=>[.nilFunc]
 | .mp=>[.map none]
 | .rl _ _=>[.slice none 0 0]
 | .fn=>[.nilFunc]
 | .mref=>[.pointer none]
 | .ap=>[.nilFunc]
def y7 (t:Ty):qB:=if t.isRow then .agg (uC t).toArray else(uC t).headD undef
def NR (P:Program):Ty->Nat->List Field->Prop
 | .unit,_,[]=>True
 | .pair a b,o,f::r=>f.offset=o/\(P.info? f.type).map (·.size)=some a.cells/\(P.underlying f.type).map (·.isRow)=some a.isRow/\NR P b (o+a.cells) r
 |_,_,_=>False
def QC (P:Program) (e:TypeId):Ty->Nat->Prop
 | .unit,0=>True
 | .pair a b,n+1=>(P.info? e).map (·.size)=some a.cells/\(P.underlying e).map (·.isRow)=some a.isRow/\QC P e b n
 |_,_=>False
inductive a0N where
 |ty (t:TypeId) |fs (o:Nat) (l:List Field) |el (e:TypeId) (i m:Nat)
inductive yW (P:Program):Nat->a0N->Ty->Prop
 |bool {h t}:P.underlying t=some .bool->yW P h (.ty t) .bool
 |int {h t k}:P.underlying t=some (.int k)->yW P h (.ty t) (.int k)
 |str {h t}:P.underlying t=some .string->yW P h (.ty t) .str
 |struct {h t fs ty}:ty.isRow=true->P.underlying t=some (.struct fs)->P.stoodInHeld t=false->yW P h (.fs 0 fs.toList) ty->yW P (h+1) (.ty t) ty
 |arr {h t e n ty}:ty.isRow=true->P.underlying t=some (.array n e)->(P.info? e).isSome=true->yW P h (.el e 0 n) ty->yW P (h+1) (.ty t) ty
 |nil {h o}:yW P h (.fs o []) .unit
 |cons {h o}{f:Field}{r a b}:f.name≠ "_" ->f.offset=o->(P.info? f.type).map (·.size)=some a.cells->(P.underlying f.type).map (·.isRow)=some a.isRow->yW P h (.ty f.type) a->yW P h (.fs (o+a.cells) r) b->yW P h (.fs o (f::r)) (.pair a b)
 |anil {h e i}:yW P h (.el e i 0) .unit
 |acons {h e i m a b}:(P.info? e).map (·.size)=some a.cells->(P.underlying e).map (·.isRow)=some a.isRow->yW P h (.ty e) a->yW P h (.el e (i+1) m) b->yW P h (.el e i (m+1)) (.pair a b)
def a92 (P:Program):Prop:=
 (∀(w:q9) (p:Option Addr),Calls P IH #[.pointer p] w fun e w'=> ∃b,e= .returned (.func (.func IG) #[] #[.pointer (some ⟨b,0,none⟩)])/\w.heap.size<=b/\b<w'.heap.size/\w'.cell? ⟨b,0,none⟩=some (.pointer p)/\Below w.heap.size w w')/\
 (∀args w,(callFunc IH args).run P w= .ok (.enter IH args) w)/\(∀args w,(callFunc IG args).run P w= .ok (.enter IG args) w)/\
 ∀(w:q9) (b:Nat) (α:Addr) (y s:pM) (ok:Bool),w.cell? ⟨b,0,none⟩=some (.pointer (some α))->w.cell? α=some (.string ⟨y.toArray⟩)->w.frozen? α=false->α.spot=none->((y++s).length:Int)<=9223372036854775807->
  (∀w1,Below w.heap.size w w1->Calls P GG #[.string ⟨(y++s).toArray⟩] w1 fun e w'=>e= .returned (.bool ok)/\Below w1.heap.size w1 w')->
  Calls P IG #[.string ⟨s.toArray⟩,.pointer (some ⟨b,0,none⟩)] w fun e w'=>e= .returned (.bool ok)/\∃w1,Below w.heap.size w w1/\w'=if ok=true then w1.setCells α.block α.off [.string ⟨(y++s).toArray⟩] else w1
def xG (P:Program) (t:TypeId) (ti:TI):Prop:=
 match ti.ty with
 | .bool=>P.underlying t=some .bool
 | .int k=>P.underlying t=some (.int k)
 | .str=>P.underlying t=some .string
 | .ref=> ∃e,P.underlying t=some (.pointer e)
 | .clo=> ∃a b c,P.underlying t=some (.func a b c)
 | .mp=>P.underlying t=some (.map ti.elem ti.bytes)
 | .rl _ _=> ∃e,P.underlying t=some (.slice e)
 | .fn=> ∃a b c,P.underlying t=some (.func a b c)
 | .mref=> ∃e,P.underlying t=some (.pointer e)
 | .ap=>(∃a b c,P.underlying t=some (.func a b c))/\a92 P
 | .list u=>P.underlying t=some (.slice ti.elem)/\(P.info? ti.elem).map (fun i=>(i.size,i.bytes,i.zero))=some (u.cells,ti.bytes,some (y7 u))/\(P.underlying ti.elem).map (·.isRow)=some u.isRow
 |ty=>((ti.arr=false/\∃fs,P.underlying t=some (.struct fs)/\NR P ty 0 fs.toList)\/(ti.arr=true/\∃n e,P.underlying t=some (.array n e)/\QC P e ty n/\(P.info? e).isSome=true))/\(ti.bytes=1->P.eqGuardType P.depth t=false/\∃h,h<9000/\yW P h (.ty t) ty)
def tH (P:Program) (t:TypeId) (ti:TI):Prop:=(P.info? t).map (fun i=>(i.size,i.zero))=some (ti.ty.cells,some (y7 ti.ty))/\xG P t ti
def xH (P:Program):sQ->Prop
 |[]=>True
 |(t,ti)::r=>tH P t ti/\xH P r
theorem sZ {P:Program}: ∀{T:sQ},xH P T->∀{t:TypeId}{ti:TI},rT T t=some ti->tH P t ti
 |[],_,_,_,h=>by simp [rT] at h
 |(k,ti)::r,hT,t,ti',h=>by
  simp only[rT] at h;by_cases hk:k=t
  .rw[aTr hk] at h;subst hk;rw[<-aTv h];exact hT.1
  rw[aTs hk] at h;exact sZ hT.2 h
theorem EA (g:Gh) (w:q9): ∀t:Ty,Rd g w t t.zero (uC t)
 | .bool=>rfl
 | .int _=>rfl
 | .str=>rfl
 | .list _=>⟨none,0,rfl,aTO _,.inl rfl⟩
 | .unit=>rfl
 | .pair a b=>⟨_,_,rfl,EA g w a,EA g w b⟩
 | .ref=>rfl
 | .clo=>rfl
 | .mp=>rfl
 | .rl _ _=>rfl
 | .fn=>rfl
 | .mref=>rfl
 | .ap=> .inl ⟨rfl,rfl⟩
theorem LC (g:Gh) (w:q9) (t:Ty):tD g w t t.zero (y7 t):=by
 unfold tD y7;by_cases h:t.isRow=true
 .left;rw[aTr h];exact⟨h,_,rfl,EA g w t⟩
 right;rw[aTs h];refine⟨by simpa using h,?_⟩;cases t<;>first|exact EA g w _|(simp [Ty.isRow] at h)
theorem FK {g:Gh}{w:q9}{t:Ty}{x:t.den}{v:qB}(h:tD g w t x v):Rd g w t x v.cells.toList:=by
 rcases h with⟨_,cs,rfl,r⟩ |⟨hr,r⟩
 .simpa[Value.cells] using r
 have h1:=AE r v pS;have:v.cells= #[v]:=by cases v<;>first|rfl|(simp [Value.oneCell'] at h1)
 rw[this];exact r
theorem xI {g:Gh}{w:q9}{t:Ty}{x:t.den}{v:qB}(hr:t.isRow=false) (h:tD g w t x v):Rd g w t x [v]:=by
 rcases h with⟨h1,_⟩ |⟨_,r⟩
 .rw[hr] at h1;cases h1
 exact r
theorem vX {g:Gh}{w:q9}{k:IntKind}{n:Int}{v:qB}(h:tD g w (.int k) n v):v= .int k n:=by
 have:=xI rfl h;simp only[Rd,aUf,and_true] at this;exact this
theorem vE {g:Gh}{w:q9}{n:Bool}{v:qB}(h:tD g w .bool n v):v= .bool n:=by
 have:=xI rfl h;simp only[Rd,aUf,and_true] at this;exact this
theorem wK {g:Gh}{w:q9}{l:pM}{v:qB}(h:tD g w .str l v):v= .string ⟨l.toArray⟩:=by
 have:=xI rfl h;simp only[Rd,aUf,and_true] at this;exact this
theorem EB {g:Gh}{w:q9}{t:Ty}{l:List t.den}{v:qB}(h:tD g w (.list t) l v): ∃a cap,v= .slice a l.length cap/\l.length<=cap/\(l=[]\/∃b o,a=some ⟨b,o,none⟩/\yM (Rd g w t) w g.S t.cells b o l):=by
 have:=xI rfl h;obtain⟨a,cap,e,h1,h2⟩:=this;simp only[aUf,and_true] at e;exact⟨a,cap,e,h1,h2⟩
theorem xJ {g:Gh}{w:q9}{i o:Nat}{v:qB}(h:tD g w .ref (some (i,o)) v): ∃p,g.J i=some p/\v= .pointer (some ⟨p.1,p.2+o,none⟩):=by
 have:=xI rfl h;obtain⟨p,h1,e⟩:=this;simp only[aUf,and_true] at e;exact⟨p,h1,e⟩
theorem LD {g:Gh}{w:q9}{t:Ty}{x:t.den}{v:qB}(hr:t.isRow=true) (h:tD g w t x v): ∃cs:pX,v= .agg cs.toArray/\Rd g w t x cs:=by
 rcases h with⟨_,r⟩ |⟨h1,_⟩
 .exact r
 rw[hr] at h1;cases h1
theorem w4 (g:Gh) (w:q9) (k:IntKind) (n:Int):tD g w (.int k) n (.int k n):= .inr ⟨rfl,rfl⟩
theorem vF (g:Gh) (w:q9) (b:Bool):tD g w .bool b (.bool b):= .inr ⟨rfl,rfl⟩
theorem CR (g:Gh) (w:q9) (l:pM):tD g w .str l (.string ⟨l.toArray⟩):= .inr ⟨rfl,rfl⟩
def rK (P:Program) (o:Oper) (a:Act) (g:Gh) (w:q9) (H:s9) (e:qS):Prop:=
 ∀(K:Act->q9->Prop) (Q:Exit->Act->q9->Prop),(∀g' w' v,A0 g w H e g' w' v->K (a.put o.dst v) w')->o.wp P a w K Q
theorem rK.valueW {P:Program}{o:Oper}{a:Act}{g g':Gh}{w w':q9}{H:s9}{e:qS}{v:qB}(hr:(execOp a.eval o).run P w= .ok (.value v) w') (h:A0 g w H e g' w' v):rK P o a g w H e:=by
 intro K Q hK;unfold Oper.wp;rw[hr];exact hK g' w' v h
theorem rK.skipW {P:Program}{o:Oper}{a:Act}{g g':Gh}{w w':q9}{H:s9}{e:qS}(hr:(execOp a.eval o).run P w= .ok .skip w') (h:A0 g w H e g' w' undef):rK P o a g w H e:=by
 intro K Q hK;unfold Oper.wp;rw[hr];exact hK g' w' undef h
theorem rK.value {P:Program}{o:Oper}{a:Act}{g g':Gh}{w w':q9}{H:s9}{e:qS}{v:qB}(hr:(execOp a.eval o).run P w= .ok (.value v) w') (h:rN g w H e g' w' v):rK P o a g w H e:= .valueW hr h.w
theorem rK.skip {P:Program}{o:Oper}{a:Act}{g g':Gh}{w w':q9}{H:s9}{e:qS}(hr:(execOp a.eval o).run P w= .ok .skip w') (h:rN g w H e g' w' undef):rK P o a g w H e:= .skipW hr h.w
theorem rK.pure {P:Program}{o:Oper}{a:Act}{g:Gh}{w:q9}{H:s9}{side:List Prop}{d:DV}{rds:q8}{v:qB}(hH:sD g w H) (hr:(execOp a.eval o).run P w= .ok (.value v) w) (h:yV g w d v):
  rK P o a g w H ⟨side,(d,none),[],rds⟩:= .value hr (.pure hH ⟨h,trivial⟩)
section
variable {P:Program}{o:Oper}{a:Act}{g:Gh}{w:q9}{H:s9}
theorem V2 {g:Gh}{w:q9}{k:IntKind}(q:Int) (hq: ∀p∈(KG k q).1,p):yV g w (KG k q).2 (.int k (k.wrap q)):=by
 cases k<;>simp only[KG] at hq|- <;>first|exact w4 _ _ _ _|skip
 have h0:=hq _ (aTH.2 rfl);rw[show IntKind.i64.wrap q=q from IntWalk.i64_in q pQ];exact w4 _ _ _ _
theorem aI2 (g:Gh) {op:BinOp}{xt:TypeId}{x y:Operand}{k:IntKind}{m n:Int}{r:List Prop×DV}(hr:Z6 k m n op=some r) (hs: ∀p∈r.1,p):
  ∃v,(do eqGuard op xt x y (.int k m) (.int k n);Go.binOp op xt (.int k m) (.int k n):Sem qB).run P w= .ok v w/\yV g w r.2 v:=by
 cases op<;>simp only[Z6,aTq,reduceCtorEq] at hr
 all_goals subst hr
 case add=>exact⟨.int k (k.wrap _),by simp [eqGuard,Go.binOp,Op.intArith],V2 _ hs⟩
 case sub=>exact⟨.int k (k.wrap _),by simp [eqGuard,Go.binOp,Op.intArith],V2 _ hs⟩
 case mul=>exact⟨.int k (k.wrap _),by simp [eqGuard,Go.binOp,Op.intArith],V2 _ hs⟩
 case eql=>exact⟨.bool (decide (m=n)),by simp [eqGuard,Go.binOp,Op.intCmp];rfl,vF _ _ _⟩
 case neq=>exact⟨.bool (!decide (m=n)),by simp [eqGuard,Go.binOp,Op.intCmp,bne];rfl,vF _ _ _⟩
 case lss=>exact⟨.bool (decide _),by simp [eqGuard,Go.binOp,Op.intCmp],vF _ _ _⟩
 case leq=>exact⟨.bool (decide _),by simp [eqGuard,Go.binOp,Op.intCmp],vF _ _ _⟩
 case gtr=>exact⟨.bool (decide (n<m)),by simp [eqGuard,Go.binOp,Op.intCmp],vF _ _ _⟩
 case geq=>exact⟨.bool (decide (n<=m)),by simp [eqGuard,Go.binOp,Op.intCmp],vF _ _ _⟩
 case quo=>
  have h0:=hs _ (aTH.2 rfl);exact⟨.int k (k.wrap (Int.tdiv m n)),by simp [eqGuard,Go.binOp,Op.intDiv,h0],w4 _ _ _ _⟩
 case rem=>
  have h0:=hs _ (aTH.2 rfl);exact⟨.int k (Int.tmod m n),by simp [eqGuard,Go.binOp,Op.intDiv,h0],w4 _ _ _ _⟩
 case and=>exact⟨.int k (bits .and k m n),by simp [eqGuard,Go.binOp,intBits_and],w4 _ _ _ _⟩
 case or=>exact⟨.int k (bits .or k m n),by simp [eqGuard,Go.binOp,intBits_or],w4 _ _ _ _⟩
 case xor=>exact⟨.int k (bits .xor k m n),by simp [eqGuard,Go.binOp,intBits_xor],w4 _ _ _ _⟩
 case andNot=>exact⟨.int k (bits .andNot k m n),by simp [eqGuard,Go.binOp,intBits_andNot],w4 _ _ _ _⟩
theorem QD (m n:pM):(m==n)=decide (m=n):=by rw[aVq];simp
theorem aI3 (g:Gh) {op:BinOp}{xt:TypeId}{x y:Operand}{m n:pM}{r:List Prop×DV}(hr:Z8 m n op=some r) (hs: ∀p∈r.1,p):
  ∃v,(do eqGuard op xt x y (.string ⟨m.toArray⟩) (.string ⟨n.toArray⟩);Go.binOp op xt (.string ⟨m.toArray⟩) (.string ⟨n.toArray⟩):Sem qB).run P w= .ok v w/\yV g w r.2 v:=by
 have hl: ∀l:pM,(⟨l.toArray⟩:ByteArray).size=l.length:=fun l=>by simp [ByteArray.size]
 cases op<;>simp only[Z8,aTq,reduceCtorEq] at hr
 all_goals subst hr
 case add=>
  have h0:=hs _ (aTH.2 rfl);refine⟨.string ⟨(m++n).toArray⟩,?_,CR _ _ _⟩;rw[aTt] at h0;have h1: ¬(((⟨m.toArray⟩:ByteArray).size+(⟨n.toArray⟩:ByteArray).size:Nat):Int) >IntKind.i64.max:=by rw[hl,hl,show IntKind.i64.max=9223372036854775807 from by decide];omega
  simp only[eqGuard,Go.binOp,Op.stringOp,aTC,aTs h1];simp;rfl
 case eql=>exact⟨.bool (decide (m=n)),by simp [eqGuard,Go.binOp,Op.stringOp,QD],vF _ _ _⟩
 case neq=>exact⟨.bool (!decide (m=n)),by simp [eqGuard,Go.binOp,Op.stringOp,QD],vF _ _ _⟩
 case lss=>exact⟨.bool (Op.bytesLess m n),by simp [eqGuard,Go.binOp,Op.stringOp],vF _ _ _⟩
 case leq=>exact⟨.bool (Op.bytesLess m n||decide (m=n)),by simp [eqGuard,Go.binOp,Op.stringOp,QD],vF _ _ _⟩
 case gtr=>exact⟨.bool (!(Op.bytesLess m n||decide (m=n))),by simp [eqGuard,Go.binOp,Op.stringOp,QD],vF _ _ _⟩
 case geq=>exact⟨.bool (!Op.bytesLess m n),by simp [eqGuard,Go.binOp,Op.stringOp],vF _ _ _⟩
theorem IZ {r:Option (List Prop×DV)}{e:qS}(h:AT r=some e): ∃q,r=some q/\e=⟨q.1,(q.2,none),[],[]⟩:=by
 cases r with
 |none=>cases h
 |some q=>obtain⟨p,d⟩:=q;exact⟨(p,d),rfl,(aTv h).symm⟩
theorem aI4 (hH:sD g w H) {op:BinOp}{xt yt:TypeId}{x y:Operand}(ho:o.op= .binOp op xt x y yt) {sx sy:qM}(hx:rP g w sx (a.eval x)) (hy:rP g w sy (a.eval y)) {e:qS}
  (hr:AT (T0 op sx sy)=some e) (hs: ∀p∈e.side,p):rK P o a g w H e:=by
 obtain⟨q,hq,rfl⟩:=IZ hr;have go: ∀{u v:qB},a.eval x=u->a.eval y=v->(∃z,(do eqGuard op xt x y u v;Go.binOp op xt u v:Sem qB).run P w= .ok z w/\yV g w q.2 z)->rK P o a g w H ⟨q.1,(q.2,none),[],[]⟩:=by
  rintro u v rfl rfl ⟨z,hz,hd⟩;refine rK.pure hH (v:=z) ?_ hd;unfold execOp;rw[ho];simp only[aTC,aTS] at hz|-;rw[hz];rfl
 obtain⟨dx,kx⟩:=sx;obtain⟨dy,ky⟩:=sy;replace hx:=hx.1;replace hy:=hy.1;unfold T0 at hq;split at hq
 .rename_i k m k1 k' n k2 e1 e2;simp only[aTU] at e1 e2;obtain⟨rfl,-⟩:=e1;obtain⟨rfl,-⟩:=e2;unfold a87 at hq;split at hq
  .cases hq;have h0:=hs _ (aTH.2 rfl);exact go (vX hx) (vX hy) ⟨.int k (Z7 k m n),by simp [eqGuard,Go.binOp,Op.shift,Z7,Int.not_lt.2 h0],w4 _ _ _ _⟩
  .cases hq;have h0:=hs _ (aTH.2 rfl);exact go (vX hx) (vX hy) ⟨.int k (yI k m n),by simp [eqGuard,Go.binOp,Op.shift,yI,Int.not_lt.2 h0],w4 _ _ _ _⟩
  by_cases hk:k=k'
  .subst hk;rw[aTr rfl] at hq;exact go (vX hx) (vX hy) (aI2 g hq hs)
  rw[aTs hk] at hq;cases hq
 .rename_i m k1 n k2 e1 e2;simp only[aTU] at e1 e2;obtain⟨rfl,-⟩:=e1;obtain⟨rfl,-⟩:=e2;exact go (wK hx) (wK hy) (aI3 g hq hs)
 cases hq
theorem aI5 (hH:sD g w H) {op:BinOp}{xt yt:TypeId}{x y:Operand}(ho:o.op= .binOp op xt x y yt) {ti:Option TI}{sx sy:qM}(hx:rP g w sx (a.eval x)) (hy:rP g w sy (a.eval y)) {e:qS}
  (hr:AT (T5 op ti sx sy)=some e):rK P o a g w H e:=by
 obtain⟨q,hq,rfl⟩:=IZ hr;unfold T5 at hq;split at hq
 .rename_i k m _ k' n _;by_cases hk:k=k'
  .subst hk;rw[aTr rfl] at hq;have hx1:=vX hx.1;have hy1:=vX hy.1;cases op<;>simp only[a88,aTq,reduceCtorEq] at hq
   all_goals subst hq
   all_goals refine rK.pure hH (v:= .int k (k.wrap _)) ?_ (w4 _ _ _ _)
   all_goals
    unfold execOp;rw[ho];simp [hx1,hy1,eqGuard,Go.binOp,Op.intArith]
  rw[aTs hk] at hq;cases hq
 cases hq
theorem aI6 (hH:sD g w H) {op:UnOp}{xt:TypeId}{x:Operand}(ho:o.op= .unOp op xt x) {sx:qM}(hx:rP g w sx (a.eval x)) {e:qS}
  (hr:AT (ZB op sx)=some e) (hs: ∀p∈e.side,p):rK P o a g w H e:=by
 obtain⟨q,hq,rfl⟩:=IZ hr;replace hx:=hx.1;unfold ZB at hq;split at hq
 .have:=vE hx;cases hq;refine rK.pure hH (v:= .bool _) ?_ (vF _ _ _);simp [execOp,ho,this,Op.unary]
 .rename_i k n _;have:=vX hx;cases hq;refine rK.pure hH (v:= .int k (k.wrap (-n))) ?_ (V2 _ hs);simp [execOp,ho,this,Op.unary,Op.intArith]
 cases hq
theorem V3 {t:TypeId}{ti:TI}(h:tH P t ti): ∃d,P.underlying t=some d/\d.isRow=ti.ty.isRow:=by
 have h2:=h.2;unfold xG at h2;obtain⟨ty,el,by',ar,ls⟩:=ti;cases ty<;>simp only at h2
 case bool=>exact⟨_,h2,rfl⟩
 case int=>exact⟨_,h2,rfl⟩
 case str=>exact⟨_,h2,rfl⟩
 case list=>exact⟨_,h2.1,rfl⟩
 case ref=>obtain⟨e,h⟩:=h2;exact⟨_,h,rfl⟩
 case clo=>obtain⟨a,b,c,h⟩:=h2;exact⟨_,h,rfl⟩
 case mp=>exact⟨_,h2,rfl⟩
 case rl=>obtain⟨e,h⟩:=h2;exact⟨_,h,rfl⟩
 case fn=>obtain⟨a,b,c,h⟩:=h2;exact⟨_,h,rfl⟩
 case ap=>obtain⟨⟨a,b,c,h⟩,_⟩:=h2;exact⟨_,h,rfl⟩
 case mref=>obtain⟨e,h⟩:=h2;exact⟨_,h,rfl⟩
 all_goals
  rcases h2.1 with⟨_,fs,h,_⟩ |⟨_,n,e,h,_⟩
  .exact⟨_,h,rfl⟩
  exact⟨_,h,rfl⟩
theorem EC {t:TypeId}{ti:TI}(h:tH P t ti): ∃i,P.info? t=some i/\i.size=ti.ty.cells/\i.zero=some (y7 ti.ty):=by
 obtain⟨i,hi,he⟩:=aTG.1 h.1;simp only[aTU] at he;exact⟨i,hi,he.1,he.2⟩
theorem aI7 {T:sQ}(hT:xH P T) (hH:sD g w H) {st dt:TypeId}{x:Operand}(ho:o.op= .convert st dt x) {sx:qM}(hx:rP g w sx (a.eval x)) {e:qS}
  (hr:AT (T7 (rT T st) (rT T dt) sx)=some e):rK P o a g w H e:=by
 obtain⟨q,hq,rfl⟩:=IZ hr;replace hx:=hx.1;generalize hs:rT T st=os at hq;generalize hd:rT T dt=od at hq;unfold T7 at hq;split at hq
 .rename_i k' k _ _ _ _ k0 n _;obtain⟨d,hd1,_⟩:=V3 (sZ hT hs);have hd2:=(sZ hT hd).2;simp only[xG] at hd2;have:=vX hx;cases hq;refine rK.pure hH (v:= .int k (k.wrap n)) ?_ (w4 _ _ _ _);simp [execOp,ho,this,Go.convert,aTP hd1,aTP hd2,Conv.intToInt]
 .rename_i k' _ _ _ _ s _;obtain⟨d,hd1,_⟩:=V3 (sZ hT hs);have hd2:=(sZ hT hd).2;simp only[xG] at hd2;have:=wK hx;cases hq;refine rK.pure hH (v:= .string ⟨List.toArray s⟩) ?_ (CR _ _ _);simp [execOp,ho,this,Go.convert,aTP hd1,aTP hd2]
 cases hq
theorem LE {α:Type}{R:α->pX->Prop}{w:q9}{S:Nat->Nat->Prop}{c b:Nat}: ∀{l:List α}{o i:Nat}{x:α},yM R w S c b o l->l[i]? =some x->
  ∃cs,cs.length=c/\w.rangeAt b (o+i*c) cs/\(∀j,j<c->S b (o+i*c+j))/\R x cs
 |y::l,o,0,x,⟨⟨cs,h1,h2,h3,h4⟩,_⟩,h=>by
  simp only[aT0,aTq] at h;subst h;exact⟨cs,h1,by simpa using h2,by simpa using h3,h4⟩
 |y::l,o,i+1,x,⟨_,h5⟩,h=>by
  simp only[aUc] at h;obtain⟨cs,h1,h2,h3,h4⟩:=LE h5 h;have e:o+c+i*c=o+(i+1)*c:=by rw[aUC];omega
  exact⟨cs,h1,by rw[<-e];exact h2,by rw[<-e];exact h3,h4⟩
theorem a93 {α:Type}{R:α->pX->Prop}{w:q9}{S:Nat->Nat->Prop}{c b:Nat}: ∀{l:List α}{o:Nat}(i:Nat),yM R w S c b o l->i<=l.length->yM R w S c b (o+i*c) (l.drop i)
 |_,o,0,h,_=>by simpa using h
 |[],o,i+1,_,h=>by simp at h
 |y::l,o,i+1,⟨_,h5⟩,h=>by
  have:=a93 i h5 (by simpa using h);have e:o+c+i*c=o+(i+1)*c:=by rw[aUC];omega
  rw[<-e];simpa using this
theorem a94 {α:Type}{R:α->pX->Prop}{w:q9}{S:Nat->Nat->Prop}{c b:Nat}: ∀{l:List α}{o:Nat}(i:Nat),yM R w S c b o l->yM R w S c b o (l.take i)
 |_,_,0,_=>by simp [yM]
 |[],_,_+1,_=>by simp [yM]
 |_::_,_,i+1,⟨h,h5⟩=>by simpa[yM] using⟨h,a94 i h5⟩
theorem a0O {g:Gh}{w:q9}: ∀{t:Ty}{x:t.den}{cs:pX}{f:Nat}{u:Ty}{y:u.den},Rd g w t x cs->t.proj x f=some ⟨u,y⟩->
  ∃o c1 c2 c3,t.offs f=some o/\t.fld f=some u/\cs=c1++c2++c3/\c1.length=o/\Rd g w u y c2:=by
 intro t
 induction t with
 |pair a b _ ihb=>
  intro x cs f u y r h;obtain⟨c1,c2,e,r1,r2⟩:=r;cases f with
  |zero=>
   simp only[Ty.proj,aTq,Sigma.mk.injEq] at h;obtain⟨rfl,h2⟩:=h;obtain rfl:=eq_of_heq h2;exact⟨0,[],c1,c2,rfl,rfl,by simpa using e,rfl,r1⟩
  |succ f=>
   simp only[Ty.proj] at h;obtain⟨o,d1,d2,d3,h1,h2,h3,h4,h5⟩:=ihb r2 h;refine⟨a.cells+o,c1++d1,d2,d3,by simp [Ty.offs,h1],by simpa[Ty.fld] using h2,by rw[e,h3];simp,?_,h5⟩;rw[aTt,h4,sT r1]
 |_=>intro x cs f u y r h;cases f<;>simp [Ty.proj] at h
theorem a0P {P:Program}: ∀{ty:Ty}{off:Nat}{fs:List Field}{f o:Nat}{u:Ty},NR P ty off fs->ty.offs f=some o->ty.fld f=some u->
  ∃fd,fs[f]? =some fd/\fd.offset=off+o/\(P.info? fd.type).map (·.size)=some u.cells/\(P.underlying fd.type).map (·.isRow)=some u.isRow:=by
 intro ty
 induction ty with
 |pair a b _ ihb=>
  intro off fs f o u h ho hu;cases fs with
  |nil=>exact h.elim
  |cons fd fs=>
   obtain⟨h1,h2,h3,h4⟩:=h;cases f with
   |zero=>
    simp only[Ty.offs,aTq] at ho;simp only[Ty.fld,aTq] at hu;subst ho;subst hu;exact⟨fd,rfl,pQ,h2,h3⟩
   |succ f=>
    simp only[Ty.offs,aTG] at ho;obtain⟨o',ho',rfl⟩:=ho;obtain⟨fd',k1,k2,k3,k4⟩:=ihb h4 ho' hu;exact⟨fd',by simpa using k1,pQ,k3,k4⟩
 |_=>intro off fs f o u h ho hu;cases f<;>simp [Ty.offs] at ho
theorem a0Q {P:Program}{e:TypeId}: ∀{ty:Ty}{n f o:Nat}{u:Ty},QC P e ty n->ty.offs f=some o->ty.fld f=some u->
  f<n/\(P.info? e).map (·.size)=some u.cells/\(P.underlying e).map (·.isRow)=some u.isRow/\o=f*u.cells:=by
 intro ty
 induction ty with
 |pair a b _ ihb=>
  intro n f o u h ho hu;cases n with
  |zero=>exact h.elim
  |succ n=>
   obtain⟨h2,h3,h4⟩:=h;cases f with
   |zero=>
    simp only[Ty.offs,aTq] at ho;simp only[Ty.fld,aTq] at hu;subst ho;subst hu;exact⟨pQ,h2,h3,by simp⟩
   |succ f=>
    simp only[Ty.offs,aTG] at ho;obtain⟨o',ho',rfl⟩:=ho;obtain⟨k1,k2,k3,k4⟩:=ihb h4 ho' hu;rw[h2] at k2;have hc:a.cells=u.cells:=aTv k2;exact⟨pQ,by rw[h2,hc],k3,by rw[k4,hc,aUC];omega⟩
 |_=>intro n f o u h ho hu;cases f<;>simp [Ty.offs] at ho
theorem QE {t:TypeId}{u:Ty}(hi:(P.info? t).map (·.size)=some u.cells) (hr:(P.underlying t).map (·.isRow)=some u.isRow) {y:u.den}{c1 c2 c3:pX}(h:Rd g w u y c2):
  ∃v,(part t (c1++c2++c3).toArray c1.length).run P w= .ok v w/\tD g w u y v:=by
 obtain⟨i,hi,hsz⟩:=aTG.1 hi;obtain⟨d,hd,hrow⟩:=aTG.1 hr;have hl:=sT h;by_cases hu:u.isRow=true
 .refine⟨.agg c2.toArray,?_,.inl ⟨hu,c2,rfl,h⟩⟩;have hagg:(isAgg t).run P w= .ok true w:=by
   unfold isAgg;rw[aTC,aTP hd w];rw[hu] at hrow;cases d<;>simp_all [TypeDesc.isRow]
  simp only[part,aTC,hagg,aTz,aU2,sizeOf,typeInfo,aUo,hi,hsz,aTS];congr 2;apply aUy.1;simp [<-hl]
 have hu':u.isRow=false:=by simpa using hu
 have h1:u.cells=1:=by cases u<;>first|rfl|(simp [Ty.isRow] at hu')
 obtain⟨v,rfl⟩: ∃v,c2=[v]:=by
  rw[h1] at hl;exact aUK.1 hl
 refine⟨v,?_,.inr ⟨hu',h⟩⟩;have hagg:(isAgg t).run P w= .ok false w:=by
  unfold isAgg;rw[aTC,aTP hd w];rw[hu'] at hrow;cases d<;>simp_all [TypeDesc.isRow]
 simp only[part,aTC,hagg,aTz];simp
theorem a0R {t:TypeId}{ti:TI}(h:tH P t ti) (hr:ti.ty.isRow=true):
  (ti.arr=false/\∃fs,P.underlying t=some (.struct fs)/\NR P ti.ty 0 fs.toList)\/(ti.arr=true/\∃n e,P.underlying t=some (.array n e)/\QC P e ti.ty n/\(P.info? e).isSome=true):=by
 have h2:=h.2;unfold xG at h2;obtain⟨ty,el,by',ar,ls⟩:=ti;cases ty<;>simp only[Ty.isRow,aUT] at hr<;>exact h2.1
theorem a95 {t:TypeId}{ti:TI}(h:tH P t ti) (hr:ti.ty.isRow=true) (ha:ti.arr=false): ∃fs,P.underlying t=some (.struct fs)/\NR P ti.ty 0 fs.toList:=by
 rcases a0R h hr with⟨_,h⟩ |⟨h,_⟩
 .exact h
 rw[ha] at h;cases h
theorem a96 {t:TypeId}{ti:TI}(h:tH P t ti) (hr:ti.ty.isRow=true) (ha:ti.arr=true): ∃n e,P.underlying t=some (.array n e)/\QC P e ti.ty n/\(P.info? e).isSome=true:=by
 rcases a0R h hr with⟨h,_⟩ |⟨_,h⟩
 .rw[ha] at h;cases h
 exact h
theorem aI8 {t:Ty}{x:t.den}{f:Nat}{q: Σ u:Ty,u.den}(h:t.proj x f=some q):t.isRow=true:=by
 cases t<;>first|rfl|(cases f<;>simp [Ty.proj] at h)
theorem aI9 {t:Ty}{f o:Nat}(h:t.offs f=some o):t.isRow=true:=by
 cases t<;>first|rfl|(cases f<;>simp [Ty.offs] at h)
end
theorem aJa (l:pM) (n:Nat) (h:n<l.length):(⟨l.toArray⟩:ByteArray)[n]? =some l[n]:=by
 have:n<(⟨l.toArray⟩:ByteArray).size:=by simpa[ByteArray.size] using h
 rw[getElem?_pos (⟨l.toArray⟩:ByteArray) n this];rfl
theorem GT {i:Int}{n:Nat}(h0:0<=i) (h1:i<n):i.toNat<n:=by omega
theorem a97 {i:Int}{n:Nat}(h0:0<=i) (h1:i.toNat<n):i<n:=by omega
section
variable {P:Program}{o:Oper}{a:Act}{g:Gh}{w:q9}{H:s9}{T:sQ}(hT:xH P T) (hH:sD g w H)
include hT hH
theorem aJb {t:TypeId}{x:Operand}{f:Nat}(ho:o.op= .field t x f) {sx:qM}(hx:rP g w sx (a.eval x)) {e:qS}(hr:a0l f (rT T t) sx=some e):rK P o a g w H e:=by
 generalize hs:rT T t=ot at hr;replace hx:=hx.1;unfold a0l at hr;split at hr
 .rename_i ty el by' ls_ u y _;split at hr
  .rename_i hu;subst hu;have hty:=sZ hT hs;generalize hp:u.proj y f=q at hr;cases q with
   |none=>cases hr
   |some q=>
    obtain⟨u,z⟩:=q;cases hr;have hrow:=aI8 hp;obtain⟨cs,hv,hR⟩:=LD hrow hx;obtain⟨oo,c1,c2,c3,h1,h2,rfl,rfl,h5⟩:=a0O hR hp;obtain⟨fs,hfs,hfe⟩:=a95 hty hrow rfl;obtain⟨fd,k1,k2,k3,k4⟩:=a0P hfe h1 h2;obtain⟨v,hv1,hv2⟩:=QE k3 k4 (P:=P) (c1:=c1) (c3:=c3) h5;refine rK.pure hH (v:=v) ?_ hv2;have k1':fs[f]? =some fd:=by simpa using k1
    simp only[execOp,ho,hv,Instr.field,aTC,aTP hfs,aTz,k1',asAgg,aTS,k2,aTW,hv1]
  cases hr
 cases hr
theorem a0S {t:TypeId}{ti:TI}(hty:tH P t ti) (har:ti.arr=false) {f oo:Nat}{u:Ty}(h1:ti.ty.offs f=some oo) (h2:ti.ty.fld f=some u) (hpos:0<u.cells) (b off:Nat):
  (Instr.fieldAt t (.pointer (some ⟨b,off,none⟩)) f).run P w= .ok (.pointer (some ⟨b,off+oo,none⟩)) w:=by
 obtain⟨fs,hfs,hfe⟩:=a95 hty (aI9 h1) har;obtain⟨fd,k1,k2,k3,k4⟩:=a0P hfe h1 h2;obtain⟨i,hi,hsz⟩:=aTG.1 k3;have k1':fs[f]? =some fd:=by simpa using k1
 have hne: ¬(u.cells=0):=by omega
 simp only[Instr.fieldAt,aTC,aTP hfs,aTz,k1',Instr.sureAddr,aTS,fieldPlace,sizeOf,typeInfo,aUo,hi,hsz,aTs hne,k2,aTW,aUE]
theorem aJc {t:TypeId}{x:Operand}{f:Nat}(ho:o.op= .fieldAddr t x f) {sx:qM}(hx:rP g w sx (a.eval x)) {e:qS}(hr:a0k f (rT T t) sx=some e):rK P o a g w H e:=by
 generalize hs:rT T t=ot at hr;replace hx:=hx.1;unfold a0k at hr;split at hr
 .rename_i ty el by' ls_ k n c i o' _;have hty:=sZ hT hs;generalize h1:ty.offs f=o1 at hr;generalize h2:ty.fld f=o2 at hr;unfold a9C at hr;split at hr
  .split at hr
   .rename_i oo u hpos;cases hr;obtain⟨b,cap,hc,hi0,hi1,hv⟩:=hx;refine rK.pure hH (v:= .pointer (some ⟨b,i.toNat*c+o'+oo,none⟩)) ?_ ⟨b,cap,hc,hi0,hi1,by rw[aT3]⟩;simp only[execOp,ho,hv,aTC,a0S hT hH hty rfl h1 h2 hpos,aTz,aTS]
   cases hr
  cases hr
 .rename_i ty el by' ls_ u y _;split at hr
  .rename_i hu;subst hu;have hty:=sZ hT hs;generalize hp:u.proj y f=q at hr;cases q with
   |none=>cases hr
   |some q=>
    obtain⟨u,z⟩:=q;simp only[U8] at hr;split at hr
    .rename_i hpos;cases hr;obtain⟨b,off,cs,hv,hra,hS,hR⟩:=hx;obtain⟨oo,c1,c2,c3,h1,h2,rfl,rfl,h5⟩:=a0O hR hp;refine rK.pure hH (v:= .pointer (some ⟨b,off+c1.length,none⟩)) ?_ ⟨b,off+c1.length,c2,rfl,fun j v hj=>?_,fun j hj=>?_,h5⟩
     .simp only[execOp,ho,hv,aTC,a0S hT hH hty rfl h1 h2 hpos,aTz,aTS]
     .have:=hra (c1.length+j) v (by
       have hj':=(aTF.1 hj).1;rw[aTD,aTA pQ,aUb,aTK hj'];exact hj)
      rw[aT3];exact this
     have:=hS (c1.length+j) (by
      have:=sT hR;have h6:=sT h5;simp only[aTt] at this;omega)
     rw[aT3];exact this
    cases hr
  cases hr
 .rename_i ty el by' ls_ i off _;have hty:=sZ hT hs;generalize h1:ty.offs f=o1 at hr;generalize h2:ty.fld f=o2 at hr;unfold U9 at hr;split at hr
  .split at hr
   .rename_i oo u hpos;cases hr;obtain⟨p,hp,hv⟩:=xJ hx;refine rK.pure hH (v:= .pointer (some ⟨p.1,p.2+off+oo,none⟩)) ?_ (.inr ⟨rfl,p,hp,by rw[aT3]⟩);simp only[execOp,ho,hv,aTC,a0S hT hH hty rfl h1 h2 hpos,aTz,aTS]
   cases hr
  cases hr
 cases hr
theorem aJd {x:Operand}{i:Nat}(ho:o.op= .extract x i) {sx:qM}(hx:rP g w sx (a.eval x)) {e:qS}(hr:a0o i sx=some e) (hs: ∀p∈e.side,p):rK P o a g w H e:=by
 replace hx:=hx.1;unfold a0o at hr;split at hr
 rotate_left
 .rename_i b p c _;have run: ∀(v:qB) (vs:Array qB),a.eval x= .tuple vs->vs[i]? =some v->(execOp a.eval o).run P w= .ok (.value v) w:=by
   intro v vs h1 h2;simp [execOp,ho,h1,Instr.extract,h2]
  obtain⟨h1,h2⟩:=hx;unfold a9D at hr;split at hr
  .cases hr;cases b with
   |true=>exact rK.pure hH (run (.bool true) _ (h1 rfl) rfl) (vF _ _ _)
   |false=>exact rK.pure hH (run (.bool false) _ (h2 rfl) rfl) (vF _ _ _)
  .cases hr;have hb:=hs (b=true) pS;exact rK.pure hH (run (.int .i64 p) _ (h1 hb) rfl) (w4 _ _ _ _)
  .cases hr;have hb:=hs (b=true) pS;exact rK.pure hH (run (.int .i32 c) _ (h1 hb) rfl) (w4 _ _ _ _)
  cases hr
 rotate_left
 .rename_i l _;obtain⟨vs,hv,hl⟩:=hx;have key: ∀(l:List ((Σ t:Ty,t.den)×pZ)) (vs:pX) (i:Nat),IX g w l vs->UA l i=some e->∃v,vs[i]? =some v/\rP g w e.slot v/\e.upd=[]/\e.rds=[]:=by
   intro l
   induction l with
   |nil=>intro vs i _ h;cases i<;>cases h
   |cons q l ih=>
    obtain⟨⟨t,x⟩,k⟩:=q;rintro vs i ⟨v,vs',rfl,r1,r2,r3⟩ h;cases i with
    |zero=>
     simp only[UA,aTq] at h;subst h;refine⟨v,rfl,?_,rfl,rfl⟩;have gen:rP g w (.val t x,k) v:=⟨r1,by
      cases k with
      |none=>trivial
      |some k=>exact r2⟩
     cases t with
     |rl e u=>
      cases x with
      |none=>exact⟨r1,trivial⟩
      |some q=>
       obtain⟨k',n⟩:=q;obtain⟨v',h1,h2,h3⟩:=xI rfl r1;simp only[aUf,and_true] at h2;subst h2;exact⟨⟨h1,h3⟩,trivial⟩
     |_=>exact gen
    |succ i=>
     obtain⟨v',h1,h2,h3,h4⟩:=ih vs' i r3 h;exact⟨v',by simpa using h1,h2,h3,h4⟩
  obtain⟨v,h1,h2,h3,h4⟩:=key l vs i hl hr;obtain⟨side,slot,upd,rds⟩:=e;simp only at h2 h3 h4;subst h3;refine rK.value (v:=v) (g':=g) (w':=w) ?_ (.pure hH h2);have:vs.toArray[i]? =some v:=by simpa using h1
  simp [execOp,ho,hv,Instr.extract,this]
 cases hr
theorem aJe {x:Operand}(ho:o.op= .nilCheck x) {sx:qM}(hx:rP g w sx (a.eval x)) {e:qS}(hr:a0j sx=some e):rK P o a g w H e:=by
 replace hx:=hx.1;unfold a0j at hr;split at hr
 .rename_i p _;obtain⟨i,off⟩:=p;cases hr;obtain⟨p,hp,hv⟩:=xJ hx;refine rK.pure hH (v:=a.eval x) ?_ hx;simp [execOp,ho,hv]
 .cases hr;obtain⟨b,off,cs,hv,h⟩:=hx;refine rK.pure hH (v:=a.eval x) ?_ ⟨b,off,cs,hv,h⟩;simp [execOp,ho,hv]
 .cases hr;obtain⟨b,cap,h1,h2,h3,hv⟩:=hx;refine rK.pure hH (v:=a.eval x) ?_ ⟨b,cap,h1,h2,h3,hv⟩;simp [execOp,ho,hv]
 cases hr
theorem aJf {t:TypeId}{x ix:Operand}(ho:o.op= .index t x ix) {sx si:qM}(hx:rP g w sx (a.eval x)) (hi:rP g w si (a.eval ix)) {e:qS}(hr:a0n (rT T t) sx si=some e) (hs: ∀p∈e.side,p):rK P o a g w H e:=by
 generalize hst:rT T t=ot at hr;replace hx:=hx.1;replace hi:=hi.1;unfold a0n at hr;split at hr
 .rename_i _ _ _ _ l _ k i _;cases hr;have hb:=hs _ (aTH.2 rfl);have h2:=(sZ hT hst).2;simp only[xG] at h2;have hv:=wK hx;have hvi:=vX hi;have hlt:(Int.toNat i)<List.length l:=GT hb.1 hb.2;refine rK.pure hH (v:= .int .u8 (sX l i)) ?_ (w4 _ _ _ _);have hget:(if (0:Int)<=i then(⟨List.toArray l⟩:ByteArray)[Int.toNat i]? else none)=some (l[Int.toNat i]):=by
   rw[aTr hb.1];exact aJa l _ hlt
  have hbyte:sX l i=((l[Int.toNat i]).toNat:Int):=by
   unfold sX;rw[aTM,aTy hlt];rfl
  simp only[execOp,ho,hv,hvi,Instr.index,asIntOf,aTC,aTS,aTz,aTP h2,hget,hbyte]
 cases hr
theorem aJg {t:TypeId}{x ix:Operand}(ho:o.op= .indexAddr t x ix) {sx si:qM}(hx:rP g w sx (a.eval x)) (hi:rP g w si (a.eval ix)) {e:qS}(hr:a0m (rT T t) sx si=some e) (hs: ∀p∈e.side,p):rK P o a g w H e:=by
 generalize hst:rT T t=ot at hr;replace hx:=hx.1;replace hi:=hi.1;unfold a0m at hr;split at hr
 .rename_i t' el by' ar ls_ k n _ k' i _;split at hr
  .rename_i hpos;cases hr;have hb:=hs _ (aTH.2 rfl);obtain⟨h2,h3,_⟩:=(sZ hT hst).2;obtain⟨ei,hei,hz⟩:=aTG.1 h3;simp only[aTU] at hz;have hvi:=vX hi;obtain⟨hc,hv⟩:=hx;rcases hv with⟨_,rfl⟩ |⟨b,cap,hv,hcap⟩
   .exact absurd (Int.lt_of_le_of_lt hb.1 hb.2) (Int.lt_irrefl 0)
   refine rK.pure hH (v:= .pointer (some ⟨b,0+Int.toNat i*t'.cells,none⟩)) ?_ ⟨b,cap,by rw[<-hv];exact hc,hb.1,hb.2,by rw[aTW,aUx]⟩;simp only[execOp,ho,hv,hvi,Instr.indexAt,asIntOf,aTC,aTS,aTz,aTP h2,sizeOf,typeInfo,aUo,hei,hz.1,aTr hb,aUE]
  cases hr
 .rename_i t' el by' ar ls_ t1 l _ k i _;split at hr
  .rename_i htt;subst htt;cases hr;have hb:=hs _ (aTH.2 rfl);obtain⟨h2,h3,_⟩:=(sZ hT hst).2;obtain⟨ei,hei,hz⟩:=aTG.1 h3;simp only[aTU] at hz;have hvi:=vX hi;obtain⟨ad,cap,hv,hle,hl⟩:=EB hx;have hlt:(Int.toNat i)<List.length l:=GT hb.1 hb.2;rcases hl with rfl|⟨b,off,rfl,hL⟩
   .simp at hlt
   have hnth:l[Int.toNat i]? =some (qV t1 l i):=by
    unfold qV;rw[aTM,aTy hlt];rfl
   obtain⟨cs,hc1,hc2,hc3,hc4⟩:=LE hL hnth;refine rK.pure hH (v:= .pointer (some ⟨b,off+Int.toNat i*t1.cells,none⟩)) ?_ ⟨b,_,cs,rfl,hc2,hc3,hc4⟩;simp only[execOp,ho,hv,hvi,Instr.indexAt,asIntOf,aTC,aTS,aTz,aTP h2,sizeOf,typeInfo,aUo,hei,hz.1,aTr hb,aUE]
  cases hr
 .rename_i s u el by' ls_ i off _ k n _;have hty:=sZ hT hst;generalize h1:(Ty.pair s u).offs (Int.toNat n)=o1 at hr;generalize h2:(Ty.pair s u).fld (Int.toNat n)=o2 at hr;unfold U9 at hr;split at hr
  .split at hr
   .rename_i oo v hpos;cases hr;have hn0:=hs _ (aTH.2 rfl);obtain⟨p,hp,hv⟩:=xJ hx;have hvi:=vX hi;obtain⟨len,el',hu,hel,_⟩:=a96 hty rfl rfl;obtain⟨k1,k2,k3,k4⟩:=a0Q hel h1 h2;obtain⟨ei,hei,hz⟩:=aTG.1 k2;have hb:(0:Int)<=n/\(n:Int)<(len:Int):=⟨hn0,a97 hn0 k1⟩;refine rK.pure hH (v:= .pointer (some ⟨p.1,p.2+off+oo,none⟩)) ?_ (.inr ⟨rfl,p,hp,by rw[aT3]⟩);simp only[execOp,ho,hv,hvi,Instr.indexAt,Instr.sureAddr,asIntOf,aTC,aTS,aTz,aTP hu,sizeOf,typeInfo,aUo,hei,hz,aTr hb,aUE,k4]
   cases hr
  cases hr
 .rename_i s u el by' ls_ u' y _ k n _;split at hr
  .rename_i hu';subst hu';have hty:=sZ hT hst;generalize hp:(Ty.pair s u).proj y (Int.toNat n)=q at hr;cases q with
   |none=>cases hr
   |some q=>
    obtain⟨v,z⟩:=q;simp only[U8] at hr;split at hr
    .rename_i hpos;cases hr;have hn0:=hs _ (aTH.2 rfl);obtain⟨b,off,cs,hv,hra,hS,hR⟩:=hx;have hvi:=vX hi;obtain⟨oo,c1,c2,c3,h1,h2,rfl,rfl,h5⟩:=a0O hR hp;obtain⟨len,el',hu,hel,_⟩:=a96 hty rfl rfl;obtain⟨k1,k2,k3,k4⟩:=a0Q hel h1 h2;obtain⟨ei,hei,hz⟩:=aTG.1 k2;have hb:(0:Int)<=n/\(n:Int)<(len:Int):=⟨hn0,a97 hn0 k1⟩;refine rK.pure hH (v:= .pointer (some ⟨b,off+c1.length,none⟩)) ?_ ⟨b,off+c1.length,c2,rfl,fun j v hj=>?_,fun j hj=>?_,h5⟩
     .simp only[execOp,ho,hv,hvi,Instr.indexAt,Instr.sureAddr,asIntOf,aTC,aTS,aTz,aTP hu,sizeOf,typeInfo,aUo,hei,hz,aTr hb,aUE,<-k4]
     .have:=hra (c1.length+j) v (by
       have hj':=(aTF.1 hj).1;rw[aTD,aTA pQ,aUb,aTK hj'];exact hj)
      rw[aT3];exact this
     have:=hS (c1.length+j) (by
      have:=sT hR;have h6:=sT h5;simp only[aTt] at this;omega)
     rw[aT3];exact this
    cases hr
  cases hr
 cases hr
end
theorem a98 (off:Nat): ∀(vl:pX) (k:Nat) (cs:Array qB) (c1 c2 c3:pX),cs.toList=c1++c2++c3->c1.length=off+k->c2.length=vl.length->
  ((vl.zipIdx k).foldl (fun(cs:Array qB) (p:qB×Nat)=>cs.setIfInBounds (off+p.2) p.1) cs).toList=c1++vl++c3
 |[],_,cs,c1,c2,c3,h,_,h2=>by
  have:c2=[]:=aTX (by simpa using h2);subst this;simpa using h
 |v::vl,k,cs,c1,c2,c3,h,h1,h2=>by
  cases c2 with
  |nil=>simp at h2
  |cons u c2=>
   simp only[List.zipIdx_cons,List.foldl_cons];have:=a98 off vl (k+1) (cs.setIfInBounds (off+k) v) (c1++[v]) c2 c3 (by
    rw[Array.toList_setIfInBounds,h,<-h1];simp) pT (by simpa using h2)
   rw[this];simp
theorem aJh (off:Nat) (vs cs:Array qB) (c1 c2 c3:pX) (h:cs.toList=c1++c2++c3) (h1:c1.length=off) (h2:c2.length=vs.size):
  (vs.zipIdx.foldl (fun(cs:Array qB) (x:qB×Nat)=>match x with|(c,j)=>cs.setIfInBounds (off+j) c) cs).toList=c1++vs.toList++c3:=by
 rw[<-aVr,Array.toList_zipIdx];exact a98 off vs.toList 0 cs c1 c2 c3 h pQ (by simpa using h2)
theorem a99 {place:Nat->pY}{cells:Array qB}{i:Nat}{v:qB}{rest:List (Nat×qB)}{off size:Nat}{c1 c2 c3:pX}(hp:place i=some (off,size)) (hs:v.cells.size=size)
  (h:cells.toList=c1++c2++c3) (h1:c1.length=off) (h2:c2.length=size):
  Instr.fill place cells ((i,v)::rest)=Instr.fill place (c1++v.cells.toList++c3).toArray rest:=by
 have hsz:cells.size=c1.length+c2.length+c3.length:=by rw[<-aUm,h];simp;omega
 simp only[Instr.fill,hp];rw[aTs (by simp [hs];omega)];congr 1;apply aUy.1;rw[aJh off v.cells cells c1 c2 c3 h h1 pQ]
theorem a0T {k:Nat}: ∀{t:Ty}{o:Nat}{cs:pX},KO t=false->cs.length=t.cells->y6 k t o cs
 | .bool,_,_,_,_=>trivial
 | .int _,_,_,_,_=>trivial
 | .str,_,_,_,_=>trivial
 | .unit,_,_,_,_=>trivial
 | .ref,_,_,_,_=>trivial
 | .clo,_,_,_,_=>trivial
 | .mp,_,_,_,_=>trivial
 | .rl _ _,_,_,_,_=>trivial
 | .fn,_,_,_,_=>trivial
 | .mref,_,_,_,_=>trivial
 | .ap,_,_,_,_=>trivial
 | .list _,_,_,h,_=>by simp [KO] at h
 | .pair a b,_,cs,h,hl=>by
  simp only[KO,aUO] at h;simp only[Ty.cells] at hl;exact⟨cs.take a.cells,cs.drop a.cells,by simp,by rw[aUg];omega,a0T h.1 (by rw[aUg];omega),a0T h.2 (by rw[aT2];omega)⟩
theorem a0U: ∀t:Ty,(uC t).length=t.cells
 | .bool=>rfl
 | .int _=>rfl
 | .str=>rfl
 | .unit=>rfl
 | .ref=>rfl
 | .clo=>rfl
 | .mp=>rfl
 | .rl _ _=>rfl
 | .fn=>rfl
 | .mref=>rfl
 | .ap=>rfl
 | .list _=>rfl
 | .pair a b=>by simp only[uC,aTt,a0U a,a0U b,Ty.cells]
theorem V4 {k:Nat}: ∀(t:Ty) (o:Nat),y6 k t o (uC t)
 | .bool,_=>trivial
 | .int _,_=>trivial
 | .str,_=>trivial
 | .unit,_=>trivial
 | .ref,_=>trivial
 | .clo,_=>trivial
 | .mp,_=>trivial
 | .rl _ _,_=>trivial
 | .fn,_=>trivial
 | .mref,_=>trivial
 | .ap,_=>trivial
 | .list _,_=> .inr rfl
 | .pair a b,_=>⟨uC a,uC b,rfl,a0U a,V4 a _,V4 b _⟩
theorem aAa {g:Gh}{w:q9}{k:Nat}: ∀{t:Ty}{x:t.den}{cs:pX}{off o:Nat},y6 k t off cs->Rd g w t x cs->FC t o=true->off+o+1≠k->∃(u:Ty),rC (.list u) t x o=some []/\cs[o]? =some (.slice none 0 0):=by
 intro t
 induction t with
 |pair a b iha ihb=>
  intro x cs off o hn hr hl hk;obtain⟨c1,c2,e,h1,h2,h3⟩:=hn;obtain⟨d1,d2,e',r1,r2⟩:=hr;have hd:c1=d1/\c2=d2:=aU9 (e.symm.trans e') (by rw[h1,sT r1]);obtain⟨rfl,rfl⟩:=hd;have key: ∀(u:Ty) q,rC (.list u) (.pair a b) x q=if q<a.cells then rC (.list u) a x.1 q else rC (.list u) b x.2 (q-a.cells):=by
   intro u q;cases q with
   |zero=>
    conv=>lhs;unfold rC
    rw[aUU (by intro e;cases e),Nat.zero_sub]
   |succ q=>simp [rC]
  have hl':(if o<a.cells then FC a o else FC b (o-a.cells))=true:=by
   cases o<;>simpa[FC] using hl
  by_cases ho:o<a.cells
  .rw[aTr ho] at hl';obtain⟨u,k1,k2⟩:=iha h2 r1 hl' hk;exact⟨u,by rw[key,aTr ho];exact k1,by rw[e,aTK pQ];exact k2⟩
  .rw[aTs ho] at hl';obtain⟨u,k1,k2⟩:=ihb h3 r2 hl' pQ;exact⟨u,by rw[key,aTs ho];exact k1,by rw[e,aTA pQ,h1];exact k2⟩
 |list u=>
  intro x cs off o hn hr hl hk;cases o with
  |succ o=>simp [FC] at hl
  |zero=>
   obtain⟨a,cap,e,_,_⟩:=hr;have hn':cs=[.slice none 0 0]:=hn.resolve_left (by simpa using hk);rw[hn'] at e;simp only[aUf,aU8,and_true] at e;have:(x:List u.den)=[]:=aTX e.2.1.symm;subst this;exact⟨u,by unfold rC;simp [u7],by rw[hn'];rfl⟩
 |_=>intro x cs off o hn hr hl;cases o<;>simp [FC] at hl
theorem aJi {g:Gh}{w:q9}{u:Ty}{y:u.den}{cy:pX}(hy:Rd g w u y cy): ∀{t:Ty}{x z:t.den}{cs:pX}{f:Nat},Rd g w t x cs->Ty.setPart u y t x f=some z->
  ∃o c1 c2 c3,t.offs f=some o/\t.fld f=some u/\cs=c1++c2++c3/\c1.length=o/\c2.length=u.cells/\Rd g w t z (c1++cy++c3)/\(∀k off,y6 k t off cs->y6 k u (off+o) cy->y6 k t off (c1++cy++c3)):=by
 intro t
 induction t with
 |pair a b _ ihb=>
  intro x z cs f r h;obtain⟨c1,c2,e,r1,r2⟩:=r;cases f with
  |zero=>
   simp only[Ty.setPart] at h;split at h
   .rename_i hu;subst hu;simp only[u7,aTq] at h;subst h;refine⟨0,[],c1,c2,rfl,rfl,by simpa using e,rfl,sT r1,⟨cy,c2,by simp,hy,r2⟩,fun k off ⟨d1,d2,e',k1,_,k3⟩ hcy=>?_⟩;obtain⟨rfl,rfl⟩:=aU9 (e'.symm.trans e) (by rw[k1,sT r1]);exact⟨cy,d2,by simp,sT hy,hcy,k3⟩
   .cases h
  |succ f=>
   simp only[Ty.setPart,aTG] at h;obtain⟨q,hq,rfl⟩:=h;obtain⟨o,d1,d2,d3,h1,h2,h3,h4,h5,h6,h7⟩:=ihb r2 hq;refine⟨a.cells+o,c1++d1,d2,d3,by simp [Ty.offs,h1],by simpa[Ty.fld] using h2,by rw[e,h3];simp,?_,h5,⟨c1,d1++cy++d3,by simp,r1,h6⟩,fun k off ⟨k1,k2,e',k3,k4,k5⟩ hcy=>by
    obtain⟨rfl,rfl⟩:=aU9 (e'.symm.trans e) (by rw[k3,sT r1]);exact⟨k1,d1++cy++d3,by simp,k3,k4,h7 k _ k5 (by rw[aT3];exact hcy)⟩⟩
   rw[aTt,h4,sT r1]
 |_=>intro x z cs f r h;cases f<;>simp [Ty.setPart] at h
theorem a0V {g:Gh}{w:q9}{t:Ty}{ev:Operand->qB}{ρ:Operand->qM}{place:Nat->pY}(hp: ∀f o u,t.offs f=some o->t.fld f=some u->place f=some (o,u.cells)):
  ∀(ps:List (Nat×Operand)) (x z:t.den) (cs:pX),Rd g w t x cs->(∀q∈ps,rP g w (ρ q.2) (ev q.2))->AU t (some x) (uG ρ ps)=some z->
  ∃cs',Instr.fill place cs.toArray (ps.map fun q=>(q.1,ev q.2))=some cs'.toArray/\Rd g w t z cs'/\(∀m k,AV t (uG ρ ps)=some m->m=0\/m=k->y6 k t 0 cs->y6 k t 0 cs')
 |[],x,z,cs,r,_,h=>by
  simp only[uG,AU,aTq] at h;subst h;exact⟨cs,rfl,r,fun _ _ _ _ h=>h⟩
 |(i,q)::ps,x,z,cs,r,hq,h=>by
  have h0:=hq (i,q) pS;have step: ∀{u:Ty}{y:u.den}{z1:t.den},tD g w u y (ev q)->Ty.setPart u y t x i=some z1->AU t (some z1) (uG ρ ps)=some z->(∀m k,AV t (uG ρ ((i,q)::ps))=some m->m=0\/m=k->(∀o,t.offs i=some o->y6 k u o (ev q).cells.toList)/\∃m',AV t (uG ρ ps)=some m'/\(m'=0\/m'=k))->
    ∃cs',Instr.fill place cs.toArray (((i,q)::ps).map fun q=>(q.1,ev q.2))=some cs'.toArray/\Rd g w t z cs'/\(∀m k,AV t (uG ρ ((i,q)::ps))=some m->m=0\/m=k->y6 k t 0 cs->y6 k t 0 cs'):=by
   intro u y z1 hv hset h hpl;obtain⟨o,c1,c2,c3,h1,h2,rfl,h4,h5,h6,h7⟩:=aJi (FK hv) r hset;obtain⟨cs',hf,hr,hn⟩:=a0V hp ps z1 z _ h6 (fun q hq'=>hq q (by simp [hq'])) h;refine⟨cs',?_,hr,fun m k hpp hm hcs=>?_⟩
   rotate_left
   .obtain⟨q1,m',q2,q3⟩:=hpl m k hpp hm;exact hn m' k q2 q3 (h7 k 0 hcs (by rw[aTW];exact q1 o h1))
   simp only[aUt];rw[a99 (hp i o u h1 h2) (by have:=sT (FK hv);simpa using this) (c1:=c1) (c2:=c2) (c3:=c3) pS h4 h5];exact hf
  generalize hs:ρ q=s at h0;simp only[uG,hs] at h;obtain⟨d,k⟩:=s;cases d with
  |val u y=>
   simp only[AU] at h;generalize hset:Ty.setPart u y t x i=o1 at h;cases o1 with
   |none=>cases ps with
    |nil=>simp [uG,AU] at h
    |cons p ps=>simp [uG,AU] at h
   |some z1=>
    have hpl: ∀m k,AV t (uG ρ ((i,q)::ps))=some m->m=0\/m=k->(∀o,t.offs i=some o->y6 k u o (ev q).cells.toList)/\∃m',AV t (uG ρ ps)=some m'/\(m'=0\/m'=k):=by
     intro m k hpp hm;simp only[uG,hs,AV] at hpp;cases hu:KO u with
     |false=>
      rw[hu] at hpp;simp only[TP] at hpp;exact⟨fun o _=>a0T hu (sT (FK h0.1)),m,hpp,hm⟩
     |true=>
      rw[hu] at hpp;cases hu2:ZQ u with
      |false=>rw[hu2] at hpp;simp [TP] at hpp
      |true=>
       rw[hu2] at hpp;simp only[TP] at hpp;cases ho:t.offs i with
       |none=>rw[ho] at hpp;simp [TO] at hpp
       |some o=>
        rw[ho] at hpp;cases hm2:AV t (uG ρ ps) with
        |none=>rw[hm2] at hpp;simp [TO] at hpp
        |some m'=>
         rw[hm2] at hpp;simp only[TO] at hpp;split at hpp
         .rename_i hm0;subst hm0;simp only[aTq] at hpp;refine⟨fun o' ho'=>?_,0,rfl,.inl rfl⟩;obtain rfl:=aTv ho';cases u with
          |list u=>exact .inl pQ
          |_=>simp [ZQ] at hu2
         cases hpp
    obtain⟨cs',k1,k2,k3⟩:=step h0.1 hset h hpl;exact⟨cs',k1,k2,k3⟩
  |nilS=>
   simp only[AU] at h;generalize hfl:t.fld i=fl at h;cases fl with
   |none=>cases ps<;>simp [T9,uG,AU] at h
   |some u=>
    cases u with
    |list u=>
     simp only[T9] at h;generalize hset:Ty.setPart (.list u) [] t x i=o1 at h;cases o1 with
     |none=>cases ps<;>simp [uG,AU] at h
     |some z1=>
      have hev:ev q= .slice none 0 0:=h0.1;refine step (u:= .list u) (y:=[]) ?_ hset h (fun m k hpp hm=>?_)
      .rw[hev];exact .inr ⟨rfl,none,0,rfl,aTO _,.inl rfl⟩
      .simp only[uG,hs,AV] at hpp;exact⟨fun o _=>by rw[hev];exact .inr rfl,m,hpp,hm⟩
    |_=>cases ps<;>simp [T9,uG,AU] at h
  |_=>simp [AU] at h
section
variable {P:Program}{o:Oper}{a:Act}{g:Gh}{w:q9}{H:s9}{T:sQ}(hT:xH P T) (hH:sD g w H)
include hT hH
theorem aAb {P:Program}(w:q9): ∀(fs:List Field),(∀f∈fs,∃n,(P.info? f.type).map (·.size)=some n)->
  (fs.mapM (fun f=>do pure (f.offset,<-sizeOf f.type):Field->Sem (Nat×Nat))).run P w= .ok (fs.map fun f=>(f.offset,((P.info? f.type).map (·.size)).getD 0)) w
 |[],_=>rfl
 |f::fs,h=>by
  obtain⟨n,hn⟩:=h f pS;obtain⟨i,hi,hsz⟩:=aTG.1 hn;rw[List.mapM_cons];simp only[aTC,sizeOf,typeInfo,aUo,hi,aTz,aTS];have:=aAb w fs (fun f hf=>h f (by simp [hf]));simp only[sizeOf,typeInfo,aTC,aUo] at this;rw[this];simp [hi]
theorem aJj {P:Program}: ∀{ty:Ty}{off:Nat}{fs:List Field},NR P ty off fs->∀f∈fs,∃n,(P.info? f.type).map (·.size)=some n:=by
 intro ty
 induction ty with
 |pair a b _ ihb=>
  intro off fs h f hf;cases fs with
  |nil=>cases hf
  |cons fd fs=>
   obtain⟨_,h2,_,h4⟩:=h;rcases aTE.1 hf with rfl|hf
   .exact⟨_,h2⟩
   .exact ihb h4 f hf
 |unit=>intro off fs h f hf;cases fs with|nil=>cases hf|cons=>exact h.elim
 |_=>intro off fs h f hf;cases fs<;>exact h.elim
omit hT hH in
theorem aAc {t:Ty}{x:t.den}{cs:pX}{ps:List (Nat×qM)}(h: ∀m k,AV t ps=some m->m=0\/m=k->y6 k t 0 (uC t)->y6 k t 0 cs):match ((DV.val t x,ZR t (AV t ps)):qM) with
  |(_,none)=>True
  |(.val t x,some k)=>DI g t x (.agg cs.toArray) (some k)
  |(_,some _)=>False:=by
 cases hp:AV t ps with
 |none=>cases t<;>trivial
 |some m=>
  cases t with
  |pair a b=>
   have:=h m m hp (.inr rfl) (V4 _ _);simpa[ZR,DI,Value.cells] using this
  |_=>trivial
omit hT in
theorem rK.pureS {s:qM}{v:qB}(hr:(execOp a.eval o).run P w= .ok (.value v) w) (hs:rP g w s v):rK P o a g w H ⟨[],s,[],[]⟩:=
 rK.value hr (.pure hH hs)
theorem aJk {t:TypeId}{ps:Array (Nat×Operand)}(ho:o.op= .build t ps) {ρ:Operand->qM}(hρ: ∀q∈ps.toList,rP g w (ρ q.2) (a.eval q.2)) {e:qS}(hr:ZS (uG ρ ps.toList) (rT T t)=some e):rK P o a g w H e:=by
 generalize hs:rT T t=ot at hr;cases ot with
 |none=>cases hr
 |some ti=>
  have hty:=sZ hT hs;simp only[ZS] at hr;by_cases hrow:ti.ty.isRow=true
  case neg=>rw[aTs hrow] at hr;cases hr
  rw[aTr hrow] at hr;generalize hb:AU ti.ty (some ti.ty.zero) (uG ρ ps.toList)=ox at hr;cases ox with
  |none=>cases hr
  |some x=>
   cases hr;obtain⟨i,hi,hsz,hz⟩:=EC hty;have hzv:y7 ti.ty= .agg (uC ti.ty).toArray:=by unfold y7;rw[aTr hrow]
   have hzr: ∀w,(zeroValue t).run P w= .ok (.agg (uC ti.ty).toArray) w:=by
    intro w;simp [zeroValue,typeInfo,hi,hz,hzv]
   have hmap:(ps.map fun(q:Nat×Operand)=>(q.1,a.eval q.2)).toList=ps.toList.map fun q=>(q.1,a.eval q.2):=by simp
   rcases a0R hty hrow with⟨har,fs,hfs,hfe⟩ |⟨har,n,el,hu,hel,hsome⟩
   .have hpl:=aAb (P:=P) hT hH w fs.toList (aJj hT hH hfe);obtain⟨cs',hf,hR,hN⟩:=a0V (g:=g) (w:=w) (ev:=a.eval) (ρ:=ρ) (t:=ti.ty) (place:=fun j=>((fs.map fun f=>(f.offset,((P.info? f.type).map (·.size)).getD 0))[j]?)) (fun f oo u h1 h2=>by
     obtain⟨fd,k1,k2,k3,_⟩:=a0P hfe h1 h2;have k1':fs[f]? =some fd:=by simpa using k1
     simp [k1',k2,k3]) ps.toList ti.ty.zero x (uC ti.ty) (EA g w ti.ty) hρ hb
    refine rK.pureS hH (v:= .agg cs'.toArray) ?_ ⟨.inl ⟨hrow,cs',rfl,hR⟩,aAc hN⟩;have hmp:(fs.mapM (fun f=>do pure (f.offset,<-sizeOf f.type):Field->Sem (Nat×Nat))).run P w= .ok (fs.map fun f=>(f.offset,((P.info? f.type).map (·.size)).getD 0)) w:=by
     rw[Array.mapM_eq_mapM_toList,Sem.run_map,hpl];simp only[aTz];congr 1;apply aUy.1;simp
    simp only[execOp,ho,Instr.build,aTC,hzr,aTz,aTP hfs,hmp,Value.cells];rw[hmap,hf];rfl
   obtain⟨cs',hf,hR,hN⟩:=a0V (g:=g) (w:=w) (ev:=a.eval) (ρ:=ρ) (t:=ti.ty) (place:=fun j=>some (j*((P.info? el).map (·.size)).getD 0,((P.info? el).map (·.size)).getD 0)) (fun f oo u h1 h2=>by
    obtain⟨k1,k2,k3,k4⟩:=a0Q hel h1 h2;simp [k2,k4]) ps.toList ti.ty.zero x (uC ti.ty) (EA g w ti.ty) hρ hb
   refine rK.pureS hH (v:= .agg cs'.toArray) ?_ ⟨.inl ⟨hrow,cs',rfl,hR⟩,aAc hN⟩;obtain⟨ei,hei⟩:=aTw.1 hsome;simp only[hei,Option.map_some,aVs] at hf;simp only[execOp,ho,Instr.build,aTC,hzr,aTz,aTP hu,sizeOf,typeInfo,aUo,hei,aTS,Value.cells];rw[hmap,hf];rfl
theorem a0W {ρ:Operand->qM}{ev:Operand->qB}: ∀{xs:List Operand}{ss:List qM},(∀x∈xs,rP g w (ρ x) (ev x))->vO ρ xs=ss->∃vs,xs.map ev=vs/\vs.length=ss.length/\∀(i:Nat) (s:qM) (v:qB),ss[i]? =some s->vs[i]? =some v->rP g w s v
 |[],_,_,h=>⟨[],rfl,by rw[<-h];rfl,fun i s v _ hv=>by simp at hv⟩
 |x::xs,ss,hx,h=>by
  subst h;obtain⟨vs,h1,h2,h3⟩:=a0W (fun y hy=>hx y (by simp [hy])) rfl (xs:=xs);refine⟨ev x::vs,by simp [h1],by simp [vO,h2],fun i s v hs hv=>?_⟩;cases i with
  |zero=>
   simp only[vO,aT0,aTq] at hs hv;subst hs;subst hv;exact hx x pS
  |succ i=>
   simp only[vO,aUc] at hs hv;exact h3 i s v hs hv
theorem V5 {ρ:Operand->qM}{ev:Operand->qB}{args:Array Operand}{s:qM}(hρ: ∀x∈args.toList,rP g w (ρ x) (ev x)) (h:vO ρ args.toList=[s]): ∃v,args.map ev= #[v]/\rP g w s v:=by
 obtain⟨vs,h1,h2,h3⟩:=a0W hT hH hρ h;obtain⟨v,rfl⟩:=aUK.1 h2;exact⟨v,by apply aUy.1;simpa using h1,h3 0 s v rfl rfl⟩
theorem V6 {ρ:Operand->qM}{ev:Operand->qB}{args:Array Operand}{s t:qM}(hρ: ∀x∈args.toList,rP g w (ρ x) (ev x)) (h:vO ρ args.toList=[s,t]): ∃v u,args.map ev= #[v,u]/\rP g w s v/\rP g w t u:=by
 obtain⟨vs,h1,h2,h3⟩:=a0W hT hH hρ h
 match vs,h2 with
 |[v,u],_=>exact⟨v,u,by apply aUy.1;simpa using h1,h3 0 s v rfl rfl,h3 1 t u rfl rfl⟩
theorem GU {b:Builtin}{args:Array Operand}{tys:Array TypeId}(ho:o.op= .call ⟨.builtin b,args,tys⟩):
  ∃cs,execOp a.eval o=builtin b tys o.type cs (args.map a.eval):=by
 refine⟨args.map fun| .const _=>true|_=>false,?_⟩
 unfold execOp;rw[ho];rfl
theorem aJl (x y:Int):(if y<x then y else x)=min x y:=by rw[Int.min_def];split<;>split<;>omega
theorem aJm (x y:Int):(if y>x then y else x)=max x y:=by rw[Int.max_def];split<;>split<;>omega
theorem aJn {args:Array Operand}{tys:Array TypeId}(ho:o.op= .call ⟨.builtin .len,args,tys⟩) {ρ:Operand->qM}(hρ: ∀x∈args.toList,rP g w (ρ x) (a.eval x)) {e:qS}
  (hr:UH T H (vO ρ args.toList) tys.toList=some e):rK P o a g w H e:=by
 obtain⟨t0,tr,htl⟩: ∃t0 tr,tys.toList=t0::tr:=by cases h:tys.toList with|nil=>(rw[h] at hr;cases hr) |cons t r=>exact⟨t,r,rfl⟩
 have ht0:tys[0]? =some t0:=by rw[<-aUv,htl];rfl
 rw[htl] at hr;simp only[UH] at hr;generalize hst:rT T t0=ot at hr;generalize hss:vO ρ args.toList=ss at hr;unfold a0p at hr;split at hr
 .rename_i el fl ar ls_ i k;generalize hb:qO H i=ob at hr;unfold UB at hr;split at hr
  .rename_i kt vt l;cases hr;obtain⟨v,hv,hs⟩:=V5 hT hH hρ hss;have h2:=(sZ hT hst).2;simp only[xG] at h2;obtain⟨p,es,cl,hp,hp0,hh,hM,hS⟩:=hH.blk i _ hb;obtain⟨p',hp',hxv⟩: ∃p,g.J i=some p/\v= .map (some p.1):=by
    rcases hs.1 with⟨h1,_⟩ |⟨_,p,h3,h4⟩
    .cases h1
    simp only[aUf,and_true] at h4;exact⟨p,h3,h4⟩
   rw[hp] at hp';obtain rfl:=aTv hp';have hlen: ∀{l:List (kt.den×vt.den)}{es:List MapEntry},E9 g w kt vt l es->es.length=l.length:=by
    intro l
    induction l with
    |nil=>intro es h;rw[show es=[] from h];rfl
    |cons q l ih=>intro es h;obtain⟨e,es',rfl,_,_,h5⟩:=h;simp [ih h5]
   refine rK.pure hH (v:= .int .i64 (List.length l:Int)) ?_ (w4 _ _ _ _);obtain⟨cs,hx⟩:=GU (a:=a) hT hH ho;rw[hx,hv,hxv];have harg:(#[Value.map (some p.1)]:Array qB)[0]? =some (.map (some p.1)):=rfl;have hobj:(getObj p.1).run P w= .ok (.map es cl) w:=by simp [getObj,Sem.run,hh]
   simp only[builtin,Builtin.len_,ht0,harg,aTC,aTP h2,aTz,aTS,goInt,hobj];rw[<-hlen hM,aUm]
  cases hr
 .rename_i el by' ar ls_ l k;cases hr;obtain⟨v,hv,hs⟩:=V5 hT hH hρ hss;have h2:=(sZ hT hst).2;simp only[xG] at h2;have hv':=wK hs.1;refine rK.pure hH (v:= .int .i64 (List.length l:Int)) ?_ (w4 _ _ _ _);subst hv';obtain⟨cs,hx⟩:=GU (a:=a) hT hH ho;rw[hx,hv];have harg:(#[Value.string ⟨List.toArray l⟩]:Array qB)[0]? =some (.string ⟨List.toArray l⟩):=rfl;simp only[builtin,Builtin.len_,ht0,harg,aTC,aTP h2,aTz,aTS,goInt];rfl
 .rename_i u el by' ar ls_ t l k;cases hr;obtain⟨v,hv,hs⟩:=V5 hT hH hρ hss;have h2:=(sZ hT hst).2.1;obtain⟨ad,cap,rfl,_⟩:=EB hs.1;refine rK.pure hH (v:= .int .i64 (List.length l:Int)) ?_ (w4 _ _ _ _);obtain⟨cs,hx⟩:=GU (a:=a) hT hH ho;rw[hx,hv];have harg:(#[Value.slice ad (List.length l) cap]:Array qB)[0]? =some (.slice ad (List.length l) cap):=rfl;simp only[builtin,Builtin.len_,ht0,harg,aTC,aTP h2,aTz,aTS,goInt]
 .rename_i u el by' ar ls_ ko n k;cases hr;obtain⟨v,hv,hs⟩:=V5 hT hH hρ hss;have h2:=(sZ hT hst).2.1;obtain⟨ad,cap,rfl⟩: ∃ad cap,v= .slice ad n cap:=by
   rcases hs.1.2 with⟨h,rfl⟩ |⟨b,cap,h,_⟩
   .exact⟨_,_,h⟩
   exact⟨_,_,h⟩
  refine rK.pure hH (v:= .int .i64 (n:Int)) ?_ (w4 _ _ _ _);obtain⟨cs,hx⟩:=GU (a:=a) hT hH ho;rw[hx,hv];have harg:(#[Value.slice ad n cap]:Array qB)[0]? =some (.slice ad n cap):=rfl;simp only[builtin,Builtin.len_,ht0,harg,aTC,aTP h2,aTz,aTS,goInt]
 cases hr
theorem aAd {args:Array Operand}{tys:Array TypeId}{mx:Bool}(ho:o.op= .call ⟨.builtin (if mx then .max else .min),args,tys⟩) {ρ:Operand->qM}(hρ: ∀x∈args.toList,rP g w (ρ x) (a.eval x)) {e:qS}
  (hr:AT (UF mx (vO ρ args.toList))=some e):rK P o a g w H e:=by
 obtain⟨q,hq,rfl⟩:=IZ hr;generalize hss:vO ρ args.toList=ss at hq;unfold UF at hq;split at hq
 .rename_i k x k1 k' y k2;split at hq
  .rename_i hk;subst hk;cases hq;obtain⟨v,u,hv,hs1,hs2⟩:=V6 hT hH hρ hss;have e1:=vX hs1.1;have e2:=vX hs2.1;subst e1;subst e2;cases mx
   .refine rK.pure hH (v:= .int k (min (x:Int) y)) ?_ (w4 _ _ _ _);obtain⟨cs,hx⟩:=GU (a:=a) hT hH ho;rw[hx,hv];have:=aJl hT hH x y;simp [builtin,Builtin.min_,Builtin.min2,this]
   refine rK.pure hH (v:= .int k (max (x:Int) y)) ?_ (w4 _ _ _ _);obtain⟨cs,hx⟩:=GU (a:=a) hT hH ho;rw[hx,hv];have:=aJm hT hH x y;simp [builtin,Builtin.max_,Builtin.max2,this]
  cases hq
 cases hq
theorem aJo {f:FuncId}{caps:Array Operand}(ho:o.op= .makeFunc (.func f) #[] caps) {ρ:Operand->qM}(hρ: ∀x∈caps.toList,rP g w (ρ x) (a.eval x)) {e:qS}
  (hr:a9B f (KH (vO ρ caps.toList))=some e):rK P o a g w H e:=by
 generalize hc:KH (vO ρ caps.toList)=oc at hr;cases oc with
 |none=>cases hr
 |some l=>
  cases hr;have key: ∀(xs:List Operand) (l:pV),(∀x∈xs,rP g w (ρ x) (a.eval x))->KH (vO ρ xs)=some l->yN g l (xs.map a.eval):=by
   intro xs
   induction xs with
   |nil=>intro l _ h;simp only[vO,KH,aTq] at h;subst h;rfl
   |cons x xs ih=>
    intro l hx h;have h0:=hx x pS;generalize hs:ρ x=s at h0;simp only[vO,hs] at h;obtain⟨d,k⟩:=s;unfold KH at h;split at h
    .cases ‹_=[]›
    .rename_i p k r heq;simp only[aUf,aTU] at heq;obtain⟨⟨rfl,rfl⟩,rfl⟩:=heq;obtain⟨l',hl',rfl⟩:=aTG.1 h;obtain⟨i,off⟩:=p;obtain⟨p,hp,hv⟩:=xJ h0.1;exact⟨p,_,hp,by rw[aUt,hv],ih l' (fun y hy=>hx y (by simp [hy])) hl'⟩
    cases h
  refine rK.pure hH (v:= .func (.func f) #[] (caps.map a.eval)) ?_ (.inr ⟨rfl,caps.toList.map a.eval,key _ _ hρ hc,by congr 2;apply aUy.1;simp⟩);simp [execOp,ho,Instr.makeFunc]
end
theorem a0X {α:Type}{l:List α}{m n:Int}(h0:0≤m) (h1:m≤n) (h2:n≤(l.length:Int)):(s7 l m n).length=n.toNat-m.toNat:=by
  unfold s7;rw[aUg,aT2];omega
theorem V7 {α:Type}{R:α→pX→Prop}{c:Nat}: ∀{l:List α}{cs:pX}{i:Nat}{x:α},tZ R c l cs→l[i]? =some x→∃c1 c2 c3,cs=c1++c2++c3∧c1.length=i*c∧c2.length=c∧R x c2
  | y::l,_,0,x,⟨c1,c2,e,h1,h2,h3⟩,h=>by
    simp only[aT0,aTq] at h;subst h;exact⟨[],c1,c2,by simpa using e,by simp,h1,h2⟩
  | y::l,_,i+1,x,⟨c1,c2,e,h1,h2,h3⟩,h=>by
    simp only[aUc] at h;obtain⟨d1,d2,d3,e1,e2,e3,e4⟩:=V7 h3 h;exact⟨c1++d1,d2,d3,by rw[e,e1];simp,by rw[aTt,h1,e2,aUC];omega,e3,e4⟩
theorem aAe {t:Ty}{l:List t.den}{i:Int}(h0:0≤i) (h:i.toNat<l.length):l[i.toNat]? =some (qV t l i):=by
  unfold qV;rw[aTM,aTy h];rfl
theorem J0 {α:Type}{R:α→pX→Prop}{w:q9}{S:Nat→Nat→Prop}{c b:Nat}: ∀{l:List α}{o:Nat}{cs:pX},tZ R c l cs→w.rangeAt b o cs→(∀j,j<l.length*c→S b (o+j))→yM R w S c b o l
  |[],_,_,_,_,_=>trivial
  | x::l,o,cs,⟨c1,c2,e,h1,h2,h3⟩,hr,hS=>by
    subst e;refine⟨⟨c1,h1,fun j v hv=>hr j v (by rw[aTK (aTF.1 hv).1];exact hv),fun j hj=>hS j (by rw[aTx,aUC];omega),h2⟩,J0 h3 (fun j v hv=>?_) (fun j hj=>?_)⟩
    · have:=hr (c+j) v (by rw[aTA pQ,h1,aUb];exact hv)
      rwa [←aT3] at this
    have:=hS (c+j) (by rw[aTx,aUC];omega)
    rwa [←aT3] at this
theorem a0Y {u0:Ty}{l:List u0.den}: ∀{t:Ty}{x:t.den}{q: Σ t:Ty,t.den},zX u0 l t x=some q→q.1.cells=t.cells:=by
  intro t
  induction t with
  | rl e u=>
    intro x q h;cases x with
    |none=>cases h
    | some p=>
      simp only[zX,ZW] at h;split at h
      .cases h;rfl
      .cases h
  | pair a b iha ihb=>
    intro x q h;simp only[zX] at h;cases hf:BV a x.1 with
    | some p=>
      rw[hf] at h;cases hq:zX u0 l a x.1 with
      |none=>rw[hq] at h;cases h
      | some r=>
        obtain⟨a',x'⟩:=r;rw[hq] at h;simp only[KP,aTq] at h;subst h;have:=iha hq;simp only[Ty.cells] at this|-;omega
    | none=>
      rw[hf] at h;cases hq:zX u0 l b x.2 with
      |none=>rw[hq] at h;simp [KP] at h
      | some r=>
        obtain⟨b',y'⟩:=r;rw[hq] at h;simp only[KP,aTq] at h;subst h;have:=ihb hq;simp only[Ty.cells] at this|-;omega
  |_=>intro x q h;simp [zX] at h
theorem aJp {g:Gh}{w:q9}{k n:Nat}{u0:Ty}{l:List u0.den}(hk: ∀cs,BY g (some (k,n)) cs→Rd g w (.list u0) l cs): ∀{t:Ty}{x:t.den}{cs:pX}{q: Σ t:Ty,t.den},BV t x=some (k,n)→zX u0 l t x=some q→Rd g w t x cs→Rd g w q.1 q.2 cs:=by
  intro t
  induction t with
  | rl e u=>
    intro x cs q hf h r;simp only[BV] at hf;subst hf;simp only[zX,ZW] at h;split at h
    · cases h
      exact hk _ r
    .cases h
  | pair a b iha ihb=>
    intro x cs q hf h r;obtain⟨c1,c2,e,r1,r2⟩:=r;simp only[BV] at hf;simp only[zX] at h;cases hfa:BV a x.1 with
    | some p=>
      rw[hfa] at h hf;simp only[ZV,aTq] at hf;subst hf;cases hq:zX u0 l a x.1 with
      |none=>rw[hq] at h;cases h
      | some z=>
        obtain⟨a',x'⟩:=z;rw[hq] at h;simp only[KP,aTq] at h;subst h;exact⟨c1,c2,e,iha hfa hq r1,r2⟩
    | none=>
      rw[hfa] at h hf;simp only[ZV] at hf;cases hq:zX u0 l b x.2 with
      |none=>rw[hq] at h;simp [KP] at h
      | some z=>
        obtain⟨b',y'⟩:=z;rw[hq] at h;simp only[KP,aTq] at h;subst h;exact⟨c1,c2,e,r1,ihb hf hq r2⟩
  |_=>intro x cs q hf;simp [BV] at hf
theorem aJq {g:Gh}{w:q9}{H:s9}(hH:sD g w H) {k i:Nat}{e:TypeId}{t:Ty}{l:List t.den}{n:Nat}(hk:qO H k=some (.row e t l n)) {u:Ty}{x:u.den}{toks:pV}(hi:qO H i=some (.cells u x toks)) (hfr:BV u x=some (k,n)) {q: Σ t:Ty,t.den}(hq:zX t l u x=some q):
    ∃ g',sD g' w (r6 [(i,qJ.cells q.1 q.2 []),(k,qJ.grow e t.cells (List.length l))] H)∧g'.J=g.J∧
      ∀side s rds v,IJ rds=true→rP g' w s v→A0 g w H ⟨side,s,[(i,qJ.cells q.1 q.2 []),(k,qJ.grow e t.cells (List.length l))],rds⟩ g' w v:=by
  obtain⟨hl,v,xs,hv,hown,hF,hnone,hseal⟩:=hH.blk k _ hk
  let g':Gh:={g with S:=fun b o=>g.S b o∨(v.ownBlock=some b∧o<n*t.cells)}
  have le:Le g w g' w:=⟨fun _ _ h=> .inl h,fun _ _ _=>rfl,fun _ _ h=>h,fun _ _ _ h=>h⟩;have hown2: ∀b,v.ownBlock=some b→∀o,sC g k (.row e t l n) b o:=fun b hb o=>⟨v,hv,hb⟩
  have hlist: ∀u,g.cur k n=some u→((u= .slice none 0 0∧n=0)∨∃b cap,u= .slice (some ⟨b,0,none⟩) n cap∧n≤cap)→tD g' w (.list t) l u:=by
    intro u hu hshape;rw[hv] at hu;obtain rfl:=aTv hu;rcases hshape with⟨rfl,h0⟩ |⟨b,cap,rfl,hcap⟩
    · have:l=[]:=aTX (by rw[hl,h0])
      subst this;exact .inr ⟨rfl,none,0,rfl,aTO _,.inl rfl⟩
    refine .inr ⟨rfl,some ⟨b,0,none⟩,cap,by rw[hl],by rw[hl];exact hcap,.inr ⟨b,0,rfl,J0 (CP (fun _ _ h=>wE le h) hF) (fun j u hu=>?_) (fun j hj=>?_)⟩⟩
    · have:=hown.cells (g:=b) rfl j u hu
      rwa [aUE] at this
    right
    exact⟨rfl,by rw[hl] at hj;omega⟩
  have hik:i≠k:=fun e1=>by rw[e1,hk] at hi;cases hi
  obtain⟨p0,cs0,hp0,hR0,hra0,hth0,hns0,_⟩:=hH.blk i _ hi
  let b':qJ:= .cells q.1 q.2 []
  let H':s9:=(i,b')::(k,qJ.grow e t.cells (List.length l))::H
  have hget: ∀i' b,qO H' i'=some b→(i'=i∧b=b')∨(i'=k∧b= .grow e t.cells (List.length l))∨(i'≠k∧i'≠i∧qO H i'=some b):=by
    intro i' b hb;simp only[H',qO] at hb;split at hb
    .rename_i e1;exact .inl ⟨e1.symm,(aTv hb).symm⟩
    rename_i e1
    split at hb
    .rename_i e2;exact .inr (.inl ⟨e2.symm,(aTv hb).symm⟩)
    rename_i e2;exact .inr (.inr ⟨Ne.symm e2,Ne.symm e1,hb⟩)
  have howns: ∀i' b bb o,qO H' i'=some b→sC g' i' b bb o→∃b0,qO H i'=some b0∧sC g i' b0 bb o:=by
    intro i' b bb o hb ho;rcases hget i' b hb with⟨rfl,rfl⟩ |⟨rfl,rfl⟩ |⟨_,_,h1⟩
    · obtain⟨p,hp,e1,e2,e3⟩:=ho
      rw[a0Y hq] at e3;exact⟨_,hi,p,hp,e1,e2,e3⟩
    · obtain⟨u,hu,hub⟩:=ho
      have hu':g.cur i' (List.length l)=some u:=hu;rw[hl] at hu';exact⟨_,hk,u,hu',hub⟩
    exact⟨b,h1,(xF (g':=g') (g:=g) rfl rfl).1 ho⟩
  have hheap:sD g' w H':=by
    refine⟨fun i' b hb=>?_,fun i' j bi bj b o hij h1 h2 o1 o2=>?_,fun b o hS=>?_,hH.tab.1,fun i' b bb oo hb ho=>by
      obtain⟨c1,k1,k2⟩:=howns i' b bb oo hb ho;exact hH.tab.2 i' c1 bb oo k1 k2⟩
    · rcases hget i' b hb with⟨rfl,rfl⟩ |⟨rfl,rfl⟩ |⟨hne,_,h1⟩
      · have hk2: ∀cs,BY g' (some (k,n)) cs→Rd g' w (.list t) l cs:=by
          rintro cs ⟨v1,z1,z2,z3⟩;rw[z2];exact xI rfl (hlist v1 z1 z3)
        refine⟨p0,cs0,hp0,aJp (n:=n) hk2 hfr hq (wE le hR0),hra0,?_,?_,fun _ _ hm=>by cases hm⟩
        .rw[a0Y hq];exact⟨hth0.1,hth0.2⟩
        rw[a0Y hq]
        intro j hj hS;rcases hS with hS|hS
        .exact hns0 j hj hS
        exact hH.dis i' k _ _ p0.1 (p0.2+j) hik hi hk ⟨p0,hp0,rfl,pQ,pQ⟩ (hown2 _ hS.1 _)
      · refine⟨v,xs,by rw[hl];exact hv,by rw[hl];exact hown,fun m hm=>hnone m (by rw[hl] at hm;exact hm),fun b hb o hS=>?_⟩
        rw[hl];rcases hS with hS|hS
        .exact absurd hS (hseal b hb o)
        exact hS.2
      exact IY (hH.blk i' b h1) le rfl rfl (fun _ _ _=>⟨rfl,rfl⟩) (fun _ _=>rfl) (fun bb o ho hS=>by
         rcases hS with hS|hS
         .exact hS
         exact absurd (hown2 bb hS.1 o) (fun h5=>hH.dis i' k b _ bb o hne h1 hk ho h5)) (fun _ _ _ _ h=>h)
    · obtain⟨c1,k1,k2⟩:=howns i' bi b o h1 o1
      obtain⟨c2,k3,k4⟩:=howns j bj b o h2 o2;exact hH.dis i' j c1 c2 b o hij k1 k3 k2 k4
    rcases hS with hS|hS
    .exact hH.sl b o hS
    exact L9 hown hS.1
  refine⟨g',hheap,rfl,fun side s rds vv hre hs=>⟨le,hs,hheap,⟨rfl,rfl,rfl,aTO _,fun _ _ _=>rfl,fun _ _ _ _=>⟨rfl,rfl⟩,fun b o hS=>?_,fun _ _ h=> .inl h⟩,fun i' blk b o hm hg ho=>?_,fun _ _=>⟨rfl,rfl⟩,fun h=>by rw[hre] at h;cases h⟩⟩
  · rcases hS with hS|hS
    .exact .inl hS
    exact .inr (.inr ⟨k,_,by simp [qQ],hk,hown2 b hS.1 o⟩)
  obtain⟨b0,k1,k2⟩:=howns i' blk b o hg ho
  exact .inr ⟨i',b0,hm,k1,k2⟩
theorem aJr {g:Gh}{w:q9}{H:s9}(hH:sD g w H) {k:Nat}{e:TypeId}{t:Ty}{l:List t.den}{n:Nat}(hk:qO H k=some (.row e t l n)):
    ∃g',g'.J=g.J∧g'.cur=g.cur∧rN g w H ⟨[],(.any,none),[(k,qJ.grow e t.cells (List.length l))],[]⟩ g' w undef∧∀cs,BY g' (some (k,n)) cs→Rd g' w (.list t) l cs:=by
  obtain⟨hl,v,xs,hv,hown,hF,hnone,hseal⟩:=hH.blk k _ hk
  let g':Gh:={g with S:=fun b o=>g.S b o∨(v.ownBlock=some b∧o<n*t.cells)}
  have le:Le g w g' w:=⟨fun _ _ h=> .inl h,fun _ _ _=>rfl,fun _ _ h=>h,fun _ _ _ h=>h⟩;have hown2: ∀b,v.ownBlock=some b→∀o,sC g k (.row e t l n) b o:=fun b hb o=>⟨v,hv,hb⟩
  have hlist: ∀u,g.cur k n=some u→((u= .slice none 0 0∧n=0)∨∃b cap,u= .slice (some ⟨b,0,none⟩) n cap∧n≤cap)→tD g' w (.list t) l u:=by
    intro u hu hshape;rw[hv] at hu;obtain rfl:=aTv hu;rcases hshape with⟨rfl,h0⟩ |⟨b,cap,rfl,hcap⟩
    · have:l=[]:=aTX (by rw[hl,h0])
      subst this;exact .inr ⟨rfl,none,0,rfl,aTO _,.inl rfl⟩
    refine .inr ⟨rfl,some ⟨b,0,none⟩,cap,by rw[hl],by rw[hl];exact hcap,.inr ⟨b,0,rfl,J0 (CP (fun _ _ h=>wE le h) hF) (fun j u hu=>?_) (fun j hj=>?_)⟩⟩
    · have:=hown.cells (g:=b) rfl j u hu
      rwa [aUE] at this
    right
    exact⟨rfl,by rw[hl] at hj;omega⟩
  have hget: ∀i' b,qO ((k,qJ.grow e t.cells (List.length l))::H) i'=some b→(i'=k∧b= .grow e t.cells (List.length l))∨(i'≠k∧qO H i'=some b):=by
    intro i' b hb;simp only[qO] at hb;split at hb
    .rename_i e1;exact .inl ⟨e1.symm,(aTv hb).symm⟩
    rename_i e1;exact .inr ⟨Ne.symm e1,hb⟩
  have howns: ∀i' b bb o,qO ((k,qJ.grow e t.cells (List.length l))::H) i'=some b→sC g' i' b bb o→∃b0,qO H i'=some b0∧sC g i' b0 bb o:=by
    intro i' b bb o hb ho;rcases hget i' b hb with⟨rfl,rfl⟩ |⟨_,h1⟩
    · obtain⟨u,hu,hub⟩:=ho
      have hu':g.cur i' (List.length l)=some u:=hu;rw[hl] at hu';exact⟨_,hk,u,hu',hub⟩
    exact⟨b,h1,(xF (g':=g') (g:=g) rfl rfl).1 ho⟩
  have hheap:sD g' w ((k,qJ.grow e t.cells (List.length l))::H):=by
    refine⟨fun i' b hb=>?_,fun i' j bi bj b o hij h1 h2 o1 o2=>?_,fun b o hS=>?_,hH.tab.1,fun i' b bb oo hb ho=>by
      obtain⟨c1,k1,k2⟩:=howns i' b bb oo hb ho;exact hH.tab.2 i' c1 bb oo k1 k2⟩
    · rcases hget i' b hb with⟨rfl,rfl⟩ |⟨hne,h1⟩
      · refine⟨v,xs,by rw[hl];exact hv,by rw[hl];exact hown,fun m hm=>hnone m (by rw[hl] at hm;exact hm),fun b hb o hS=>?_⟩
        rw[hl];rcases hS with hS|hS
        .exact absurd hS (hseal b hb o)
        exact hS.2
      exact IY (hH.blk i' b h1) le rfl rfl (fun _ _ _=>⟨rfl,rfl⟩) (fun _ _=>rfl) (fun bb o ho hS=>by
         rcases hS with hS|hS
         .exact hS
         exact absurd (hown2 bb hS.1 o) (fun h5=>hH.dis i' k b _ bb o hne h1 hk ho h5)) (fun _ _ _ _ h=>h)
    · obtain⟨c1,k1,k2⟩:=howns i' bi b o h1 o1
      obtain⟨c2,k3,k4⟩:=howns j bj b o h2 o2;exact hH.dis i' j c1 c2 b o hij k1 k3 k2 k4
    rcases hS with hS|hS
    .exact hH.sl b o hS
    exact L9 hown hS.1
  refine⟨g',rfl,rfl,⟨le,⟨trivial,trivial⟩,hheap,⟨rfl,rfl,rfl,aTO _,fun _ _ _=>rfl,fun _ _ _ _=>⟨rfl,rfl⟩,fun b o hS=>?_,fun _ _ h=> .inl h⟩,fun i' blk b o hm hg ho=>?_,fun _ _=>⟨rfl,rfl⟩,fun i' u y us hg=>?_⟩,?_⟩
  · rcases hS with hS|hS
    .exact .inl hS
    exact .inr (.inr ⟨k,_,by simp [qQ],hk,hown2 b hS.1 o⟩)
  · obtain⟨b0,k1,k2⟩:=howns i' blk b o hg ho
    exact .inr ⟨i',b0,hm,k1,k2⟩
  · rcases hget i' _ hg with⟨_,h1⟩ |⟨_,h1⟩
    .cases h1
    exact .inl ⟨y,us,h1⟩
  rintro cs ⟨v1,z1,z2,z3⟩
  rw[z2];exact xI rfl (hlist v1 z1 z3)
theorem aAf {g:Gh}{w:q9}{H:s9}(hH:sD g w H) {k:Nat}{e:TypeId}{t:Ty}{l:List t.den}{n:Nat}(hk:qO H k=some (.row e t l n)):
    ∃g',g'.J=g.J∧g'.cur=g.cur∧rN g w H ⟨[],(.any,none),[(k,qJ.grow e t.cells n)],[]⟩ g' w undef∧∀cs,BY g' (some (k,n)) cs→Rd g' w (.list t) l cs:=by
  have hl:l.length=n:=(hH.blk k _ hk).1;obtain⟨g',h1,h2,h3,h4⟩:=aJr hH hk;rw[hl] at h3;exact⟨g',h1,h2,h3,h4⟩
theorem aAg {k:Nat}: ∀{r:pV},PV k r=false→∀p∈r,p.1≠k
  |[],_,p,hp=>by cases hp
  | (j,m)::r,h,p,hp=>by
    simp only[PV] at h;split at h
    .cases h
    rename_i hne
    rcases aTE.1 hp with rfl|hp
    .exact hne
    exact aAg h p hp
theorem aAh {w:q9}{H:s9}: ∀{ks:pV}{ps:List Prop}{bs:List (Nat×qJ)}{g:Gh},sD g w H→BW H ks=some (ps,bs)→(∀p∈ps,p)→
    ∃g',g'.J=g.J∧g'.cur=g.cur∧rN g w H ⟨[],(.any,none),bs,[]⟩ g' w undef∧(∀i,i∈qQ bs→∃p∈ks,p.1=i)∧∀p∈ks,∀e t l m,qO H p.1=some (.row e t l m)→∀cs,BY g' (some p) cs→Rd g' w (.list t) l cs
  | [],ps,bs,g,hH,h,_=>by
    simp only[BW,aTq,aTU] at h;obtain⟨rfl,rfl⟩:=h;exact⟨g,rfl,rfl,.pure hH ⟨trivial,trivial⟩,fun i hi=>(by cases hi),fun p hp=>(by cases hp)⟩
  | (k,n)::r,ps,bs,g,hH,h,hs=>by
    simp only[BW] at h;split at h
    .cases h
    rename_i hk
    have hk:PV k r=false:=by simpa using hk
    cases h1:TU k n (qO H k) with
    |none=>rw[h1] at h;simp [KQ] at h
    | some q=>
      obtain⟨pp,b⟩:=q;cases h2:BW H r with
      |none=>rw[h1,h2] at h;simp [KQ] at h
      | some q2=>
        obtain⟨ps2,bs2⟩:=q2;rw[h1,h2] at h;simp only[KQ,aTq,aTU] at h;obtain⟨rfl,rfl⟩:=h;obtain⟨g1,k1,k2,k3,k4,k5⟩:=aAh hH h2 (fun p hp=>hs p (aTB _ hp));unfold TU at h1;split at h1
        · rename_i e t l m hg
          cases h1;have hnm:n=m:=hs _ aTJ;subst hnm
          have hni:k∉qQ bs2:=fun hi=>by
            obtain⟨p,hp,e1⟩:=k4 k hi;exact aAg hk p hp e1
          have hg2:qO (r6 bs2 H) k=some (.row e t l n):=(AG hni).trans hg;obtain⟨g2,m1,m2,m3,m4⟩:=aAf k3.heap hg2;refine⟨g2,m1.trans k1,m2.trans k2,k3.trans m3,fun i hi=>?_,fun p hp e' t' l' m' hp2 cs hr=>?_⟩
          · simp only[r6,qQ,aTE] at hi
            rcases hi with rfl|hi
            .exact⟨_,aTJ,rfl⟩
            obtain⟨p,hp,e1⟩:=k4 i hi
            exact⟨p,aTB _ hp,e1⟩
          rcases aTE.1 hp with rfl|hp
          · simp only at hp2
            rw[hg] at hp2;simp only[aTq,qJ.row.injEq] at hp2;obtain⟨rfl,rfl,rfl,rfl⟩:=hp2;exact m4 cs hr
          obtain⟨j,q⟩:=p
          refine wE m3.le (k5 _ hp e' t' l' m' hp2 cs ?_);obtain⟨v,v1,v2⟩:=hr;exact⟨v,by rw[←m2];exact v1,v2⟩
        cases h1
theorem aJs {g:Gh}{w:q9}{H:s9}: ∀{t:Ty}{x:t.den}{y:(GL t).den}{cs:pX},AW H t x=some y→Rd g w t x cs→(∀p∈AX t x,∀e t' l m,qO H p.1=some (.row e t' l m)→∀cs,BY g (some p) cs→Rd g w (.list t') l cs)→Rd g w (GL t) y cs:=by
  intro t
  induction t with
  | rl e u=>
    intro x y cs h r hk;cases x with
    | none=>
      obtain rfl:[]=y:=aTv h;exact⟨none,0,r,aTO _,.inl rfl⟩
    | some p=>
      obtain⟨k,n⟩:=p;simp only[AW,ZZ] at h;unfold a9u at h;split at h
      · rename_i e' t' l m hg
        split at h
        · rename_i htu
          subst htu;cases h;exact hk (k,n) (by simp [AX,a0a]) _ _ _ _ hg cs r
        cases h
      .cases h
  | pair a b iha ihb=>
    intro x y cs h r hk;simp only[AW] at h;obtain⟨c1,c2,e,r1,r2⟩:=r;cases h1:AW H a x.1 with
    |none=>rw[h1] at h;simp [FB] at h
    | some y1=>
      cases h2:AW H b x.2 with
      |none=>rw[h1,h2] at h;simp [FB] at h
      | some y2=>
        rw[h1,h2] at h;cases h;exact⟨c1,c2,e,iha h1 r1 (fun p hp=>hk p (by simp only[AX];exact GS.2 (.inl hp))),ihb h2 r2 (fun p hp=>hk p (by simp only[AX];exact GS.2 (.inr hp)))⟩
  |_=>intro x y cs h r _;cases h;exact r
section
variable {P:Program}{o:Oper}{a:Act}{g:Gh}{w:q9}{H:s9}{T:sQ}(hT:xH P T) (hH:sD g w H)
include hT hH
theorem NS {t:TypeId}{ti:TI}(hty:tH P t ti) {x:ti.ty.den}{b off:Nat}{cs:pX}(hra:w.rangeAt b off cs) (hR:Rd g w ti.ty x cs):
    ∃v,(Instr.loadAt t (.pointer (some ⟨b,off,none⟩))).run P w= .ok v w∧tD g w ti.ty x v∧v.cells.toList=cs:=by
  obtain⟨d,hd,hrow⟩:=V3 hty;obtain⟨i,hi,hsz,_⟩:=EC hty;have hl:=sT hR;by_cases hr:ti.ty.isRow=true
  .refine⟨.agg cs.toArray,run_loadAt_mid w b off t cs d hra hd (by rw[hrow,hr]) (by rw[hi,Option.map_some,hsz,hl]),.inl ⟨hr,cs,rfl,hR⟩,by simp [Value.cells]⟩
  have hr':ti.ty.isRow=false:=by simpa using hr
  have h1:ti.ty.cells=1:=by
    obtain⟨ty,el,by',ar,ls⟩:=ti;cases ty<;>first|rfl|(simp [Ty.isRow] at hr')
  obtain⟨v,rfl⟩: ∃v,cs=[v]:=by rw[h1] at hl;exact aUK.1 hl
  have hv1:=AE hR v pS;refine⟨v,?_,.inr ⟨hr',hR⟩,by cases v<;>first|rfl|(simp [Value.oneCell'] at hv1)⟩
  have hc:w.cell? ⟨b,off,none⟩=some v:=by simpa using hra 0 v rfl
  have hagg:(isAgg t).run P w= .ok false w:=by
    unfold isAgg;rw[aTC,aTP hd w];rw[hr'] at hrow;cases d<;>simp_all [TypeDesc.isRow]
  simp [Instr.loadAt,Instr.sureAddr,loadVar,aTC,hagg,hc]
theorem LF {b off:Nat}{c1 c2 c3:pX}(h:w.rangeAt b off (c1++c2++c3)):w.rangeAt b (off+c1.length) c2:=fun j v hj=>by
  have:=h (c1.length+j) v (by
    have hj':=(aTF.1 hj).1;rw[aTD,aTA pQ,aUb,aTK hj'];exact hj)
  rw[aT3];exact this
theorem aAi {k n c:Nat}{i:Int}{o':Nat}{v:qB}(hx:yV g w (.elt k n c i o') v) {e:TypeId}{t:Ty}{l:List t.den}{m:Nat}(hk:qO H k=some (.row e t l m)) (hnm:n=m) (hc:c=t.cells):
    ∃ b cap xs c1 c2 c3,v= .pointer (some ⟨b,i.toNat*c+o',none⟩)∧g.cur k m=some (.slice (some ⟨b,0,none⟩) m cap)∧w.ownsRow 0 e t.cells (.slice (some ⟨b,0,none⟩) m cap) m xs∧tZ (Rd g w t) t.cells l xs∧l.length=m∧i.toNat<l.length∧0≤i∧
      xs=c1++c2++c3∧c1.length=i.toNat*c∧c2.length=c∧Rd g w t (qV t l i) c2:=by
  subst hnm;subst hc;obtain⟨b,cap,h1,h2,h3,hv⟩:=hx;obtain⟨hl,v0,xs,hv0,hown,hF,hnone,hseal⟩:=hH.blk k _ hk;rw[h1] at hv0;obtain rfl:=aTv hv0;have hi:i.toNat<l.length:=by rw[hl];omega
  obtain⟨c1,c2,c3,e1,e2,e3,e4⟩:=V7 hF (aAe h2 hi);exact⟨b,cap,xs,c1,c2,c3,hv,h1,hown,hF,hl,hi,h2,e1,e2,e3,e4⟩
theorem aJt {e:TypeId}{c n:Nat}{q cap:Nat}{xs:pX}(h:w.ownsRow 0 e c (.slice (some ⟨q,0,none⟩) n cap) n xs):w.rangeAt q 0 xs:=fun j u hu=>by
  have:=h.cells (g:=q) rfl j u hu;rwa [aUE] at this
theorem aJu {t:TypeId}{ti:TI}(hst:rT T t=some ti) {k n c:Nat}{i:Int}{o':Nat}{vx:qB}(hx:yV g w (.elt k n c i o') vx) {e:qS}(hr:PU ti.ty k n c i o' (qO H k)=some e) (hs: ∀p∈e.side,p):
    ∃v,(Instr.loadAt t vx).run P w= .ok v w∧rP g w e.slot v∧e.upd=[]:=by
  generalize hk:qO H k=ob at hr;unfold PU at hr;split at hr
  · rename_i e' t' l m
    split at hr
    · rename_i hc
      generalize hga:rC ti.ty t' (qV t' l i) o'=oy at hr;cases oy with
      |none=>cases hr
      | some y=>
        cases hr;have hnm:=hs _ (aTH.2 rfl);obtain⟨b,cap,xs,c1,c2,c3,hv,hcur,hown,hF,hl,hi,h0,e1,e2,e3,e4⟩:=aAi hT hH hx hk hnm hc;obtain⟨d1,d2,d3,f1,f2,f3⟩:=BZ e4 hga;have hra:=aJt hT hH hown;rw[e1] at hra;have hra2:=LF hT hH hra;rw[f1] at hra2;have hra3:=LF hT hH hra2;rw[aTW,e2,f2] at hra3;obtain⟨v,h1,h2,_⟩:=NS hT hH (sZ hT hst) hra3 f3;exact⟨v,by rw[hv];exact h1,⟨h2,trivial⟩,rfl⟩
    cases hr
  cases hr
theorem a0Z: ∀{toks:pV}{q k:Nat},xD toks q=some k→(q,k)∈toks
  |[],_,_,h=>by simp [xD] at h
  | (q',k')::r,q,k,h=>by
    simp only[xD] at h;split at h
    · rename_i e
      subst e;simp only[aTq] at h;subst h;simp
    exact aTB _ (a0Z h)
theorem aAj {u v:Ty}: ∀{t:Ty}{x:t.den}{q:Nat}{l:List u.den}{y:v.den},rC (.list u) t x q=some l→rC v t x q=some y→v.isRow=false→∃h:v= .list u,u7 h y=l:=by
  intro t
  induction t with
  | pair s t ihs iht=>
    intro x q l y h1 h2 hv
    have key: ∀q,(if q<s.cells then rC (.list u) s x.1 q else rC (.list u) t x.2 (q-s.cells))=some l→(if q<s.cells then rC v s x.1 q else rC v t x.2 (q-s.cells))=some y→∃h:v= .list u,u7 h y=l:=by
      intro q h1 h2;by_cases hq:q<s.cells
      .rw[aTr hq] at h1 h2;exact ihs h1 h2 hv
      rw[aTs hq] at h1 h2;exact iht h1 h2 hv
    cases q with
    | zero=>
      have e1:Ty.pair s t≠.list u:=by intro h;cases h
      have e2:Ty.pair s t≠v:=by intro h;subst h;simp [Ty.isRow] at hv
      unfold rC at h1 h2;rw[aUU e1] at h1;rw[aUU e2] at h2;exact key 0 (by simpa using h1) (by simpa using h2)
    |succ q=>exact key (q+1) (by simpa[rC] using h1) (by simpa[rC] using h2)
  | _=>
    intro x q l y h1 h2 hv;cases q with
    | zero=>
      unfold rC at h1 h2;split at h1
      · rename_i e1
        split at h2
        · rename_i e2
          first
          |(cases e1;done)
          | (subst e2
             injection e1 with e1'
             subst e1';simp only[u7,aTq] at h1 h2;subst h1;subst h2;exact⟨rfl,rfl⟩)
        simp at h2
      .simp at h1
    |succ q=>simp [rC] at h1
theorem aJv {t:TypeId}{ti:TI}(hty:tH P t ti) (hr:ti.ty.isRow=false) {b off:Nat}{v:qB}(hc:w.cell? ⟨b,off,none⟩=some v):
    (Instr.loadAt t (.pointer (some ⟨b,off,none⟩))).run P w= .ok v w:=by
  obtain⟨d,hd,hrow⟩:=V3 hty
  have hagg:(isAgg t).run P w= .ok false w:=by
    unfold isAgg;rw[aTC,aTP hd w];rw[hr] at hrow;cases d<;>simp_all [TypeDesc.isRow]
  simp [Instr.loadAt,Instr.sureAddr,loadVar,aTC,hagg,hc]
omit hT hH in
theorem aAk {a b:Option qS}{e:qS}(h:orE a b=some e):a=some e∨b=some e:=by
  cases a with
  |some r=>exact .inl h
  |none=>exact .inr h
omit hT hH in
theorem aAl {H:List (Nat×qJ)}{t:Ty}{i off:Nat}{b:Option qJ}{x:Option qS}{e:qS}(h:orS H t i off b x=some e):x=some e∨(x=none∧IN H t i off b=some e):=by
  cases x with
  |some r=>exact .inl h
  |none=>exact .inr ⟨rfl,h⟩
theorem aJw {t:TypeId}{ti:TI}{x:Operand}(ho:o.op= .load t x) (hs:rT T t=some ti) {i off:Nat}(hx:tD g w .ref (some (i,off)) (a.eval x)) {e:qS}(hr:TR i off ti (qO H i)=some e):rK P o a g w H e:=by
  have hty:=sZ hT hs;generalize hb:qO H i=ob at hr;unfold TR at hr;split at hr
  · rename_i u el _ _ _ v x' toks
    generalize hga:rC (.rl el u) v x' off=oy at hr;unfold ZU at hr;split at hr
    · rename_i k n
      cases hr;obtain⟨p,hp,hv⟩:=xJ hx;obtain⟨p',cs,hp',hR,hra,_⟩:=hH.blk i _ hb;rw[hp] at hp';obtain rfl:=aTv hp';obtain⟨c1,c2,c3,rfl,rfl,hR2⟩:=BZ hR hga;obtain⟨v0,hcur,rfl,hsh⟩:=hR2;have hc:w.cell? ⟨p.1,p.2+c1.length,none⟩=some v0:=by simpa using LF hT hH hra 0 _ rfl
      have h1:=aJv (P:=P) hT hH hty rfl hc;exact rK.value (v:=v0) (g':=g) (w':=w) (by simp only[execOp,ho,hv,aTC,h1,aTz,aTS]) (.pure hH ⟨⟨hcur,hsh⟩,trivial⟩)
    cases hr
  cases hr
theorem aJx {t:TypeId}{ti:TI}{x:Operand}(ho:o.op= .load t x) (hs:rT T t=some ti) {i off:Nat}(hx:tD g w .ref (some (i,off)) (a.eval x)) {e:qS}(hr:IN H ti.ty i off (qO H i)=some e) (hside: ∀p∈e.side,p):rK P o a g w H e:=by
  have hty:=sZ hT hs;generalize hb:qO H i=ob at hr;unfold IN at hr;split at hr
  case h_2=>cases hr
  rename_i v z toks;generalize hf:BV v z=of at hr;cases of with
  |none=>cases hr
  | some kn=>
    obtain⟨k,n0⟩:=kn;simp only[TT] at hr;generalize hk:qO H k=ok at hr;unfold TS at hr;split at hr
    case h_2=>cases hr
    rename_i el u0 l m;generalize hz:zX u0 l v z=oq at hr;cases oq with
    |none=>cases hr
    |some q=>
    obtain⟨v',x'⟩:=q;simp only[ZY] at hr;generalize hga:rC ti.ty v' x' off=oy at hr;cases oy with
    |none=>cases hr
    | some y=>
      simp only[ZX,aTq] at hr;subst hr;have hnm:n0=m:=hside _ (aTH.2 rfl);subst hnm;obtain⟨g',hH',hJ,heff⟩:=aJq hH hk hb hf hz;obtain⟨p,hp,hv⟩:=xJ hx;obtain⟨p',cs,hp',hR,hra,_,_,_⟩:=hH'.blk i (.cells v' x' []) (by simp [r6,qO]);rw[hJ,hp] at hp';obtain rfl:=aTv hp';obtain⟨c1,c2,c3,rfl,rfl,hR2⟩:=BZ hR hga;obtain⟨v0,h1,h2,_⟩:=NS hT hH' hty (LF hT hH' hra) hR2;exact rK.valueW (v:=v0) (g':=g') (w':=w) (by simp only[execOp,ho,hv,aTC,h1,aTz,aTS]) (heff _ _ _ _ rfl ⟨h2,trivial⟩)
theorem aJy {t:TypeId}{ti:TI}{x:Operand}(ho:o.op= .load t x) (hs:rT T t=some ti) {i off:Nat}(hx:tD g w .ref (some (i,off)) (a.eval x)) {e:qS}(hr:KR H ti.ty i off (qO H i)=some e) (hside: ∀p∈e.side,p):rK P o a g w H e:=by
  have hty:=sZ hT hs;generalize hb:qO H i=ob at hr;unfold KR at hr;split at hr
  case h_2=>cases hr
  rename_i v z toks;generalize hu:AW H v z=ou at hr;cases ou with
  |none=>cases hr
  | some z2=>
    simp only[TW] at hr;generalize hsa:BW H (AX v z)=osa at hr;generalize hga:rC ti.ty (GL v) z2 off=oy at hr;cases osa with
    |none=>cases hr
    | some q=>
      obtain⟨ps,bs⟩:=q;cases oy with
      |none=>cases hr
      | some y=>
        simp only[TV,aTq] at hr;subst hr;obtain⟨g',k1,k2,k3,_,k5⟩:=aAh hH hsa hside;obtain⟨p,hp,hv⟩:=xJ hx;obtain⟨p',cs,hp',hR,hra,_,_,_⟩:=hH.blk i _ hb;rw[hp] at hp';obtain rfl:=aTv hp';have hRz:=aJs hu (wE k3.le hR) k5;obtain⟨c1,c2,c3,rfl,rfl,hR2⟩:=BZ hRz hga;obtain⟨v0,h1,h2,_⟩:=NS hT k3.heap hty (LF hT hH hra) hR2;exact rK.value (v:=v0) (g':=g') (w':=w) (by simp only[execOp,ho,hv,aTC,h1,aTz,aTS]) (k3.slot' ⟨h2,trivial⟩)
theorem aJz {t:TypeId}{x:Operand}(ho:o.op= .load t x) {sx:qM}(hx:rP g w sx (a.eval x)) {e:qS}(hr:TX H (rT T t) sx=some e) (hside: ∀p∈e.side,p):rK P o a g w H e:=by
  generalize hs:rT T t=ot at hr;replace hx:=hx.1;unfold TX at hr;split at hr
  · rename_i ti k n c i o' _
    obtain⟨v,h1,h2,h3⟩:=aJu hT hH hs hx hr hside;obtain⟨side,slot,upd,rds⟩:=e;simp only at h2 h3;subst h3;exact rK.value (v:=v) (g':=g) (w':=w) (by simp only[execOp,ho,aTC,h1,aTz,aTS]) (.pure hH h2)
  · rename_i ti u y k
    split at hr
    · rename_i hu
      subst hu;cases hr;have hty:=sZ hT hs;obtain⟨b,off,cs,hv,hra,hS,hR⟩:=hx;obtain⟨v,h1,h2,_⟩:=NS hT hH hty hra hR;exact rK.pure hH (v:=v) (by simp only[execOp,ho,hv,aTC,h1,aTz,aTS]) h2
    cases hr
  · rename_i ti i off k
    split at hr
    .exact aJy hT hH ho hs hx hr hside
    rcases aAl hr with hr|⟨_,hr⟩
    case inr=>exact aJx hT hH ho hs hx hr hside
    rcases aAk hr with hr|hr
    case inr=>exact aJw hT hH ho hs hx hr
    have hty:=sZ hT hs;generalize hb:qO H i=ob at hr;unfold PT at hr;split at hr
    · rename_i u z toks
      generalize hga:rC ti.ty u z off=oy at hr;cases oy with
      |none=>cases hr
      | some y=>
        cases hr;obtain⟨p,hp,hv⟩:=xJ hx;obtain⟨p',cs,hp',hR,hra,_,_,htk⟩:=hH.blk i _ hb;rw[hp] at hp';obtain rfl:=aTv hp';obtain⟨c1,c2,c3,rfl,rfl,hR2⟩:=BZ hR hga;obtain⟨v,h1,h2,h3⟩:=NS hT hH hty (LF hT hH hra) hR2;refine rK.value (v:=v) (g':=g) (w':=w) (by simp only[execOp,ho,hv,aTC,h1,aTz,aTS]) (.pure hH ⟨h2,?_⟩);obtain⟨ty,el,by',ar,ls⟩:=ti;cases ty with
        | list u'=>
          simp only[F9];generalize htt:xD toks c1.length=ok;cases ok with
          |none=>trivial
          | some k=>
            obtain⟨u2,l,v',g1,g2,g3⟩:=htk _ _ (a0Z hT hH htt);obtain⟨heq,hl⟩:=aAj hT hH g1 hga rfl;injection heq with heq'
            subst heq';have hlen:=sT hR2;obtain⟨v2,rfl⟩:=aUK.1 hlen
            have e2:v'=v2:=by
              have e:(c1++[v2]++c3)[c1.length]? =some v2:=by simp
              rw[e] at g2;exact(aTv g2).symm
            have e3:v=v2:=by
              have h4:=xI rfl h2;have hone:=AE h4 v pS;have:v.cells= #[v]:=by cases v<;>first|rfl|(simp [Value.oneCell'] at hone)
              rw[this] at h3;simpa using h3
            subst e2;subst e3;have e4:(y:List u'.den)=l:=hl;subst e4;exact g3
        |_=>trivial
    cases hr
  cases hr
theorem V8 {ρ:Operand→qM}{x:Option Operand}{n m:Int}(hρ: ∀y∈x.toList,rP g w (ρ y) (a.eval y)) (h:E5 (zY ρ x) n=some m):(x=none∧m=n)∨∃y k,x=some y∧a.eval y= .int k m:=by
  cases x with
  |none=>simp only[zY,E5,aTq] at h;exact .inl ⟨rfl,h.symm⟩
  | some y=>
    have h0:=hρ y pS;simp only[zY] at h;unfold E5 at h;split at h
    .cases ‹some _=none›
    · rename_i k q kk heq
      simp only[aTq] at heq h;rw[heq] at h0;subst h;exact .inr ⟨y,k,rfl,vX h0.1⟩
    cases h
theorem aAm {isSlice:Bool}{len cap:Nat}{lo hi:Option Operand}{m n:Int}(hlo:(lo=none∧m=0)∨∃y k,lo=some y∧a.eval y= .int k m) (hhi:(hi=none∧n=(len:Int))∨∃y k,hi=some y∧a.eval y= .int k n)
    (h0:0≤m) (h1:m≤n) (h2:n≤(len:Int)) (h3:len≤cap):(Instr.sliceBounds isSlice len cap (lo.map a.eval) (hi.map a.eval) none).run P w= .ok (m.toNat,n.toNat,cap) w:=by
  have e1:(n.toNat:Int)=n:=Int.toNat_of_nonneg pQ;rcases hlo with⟨rfl,rfl⟩ |⟨y,k,rfl,hy⟩<;>rcases hhi with⟨rfl,rfl⟩ |⟨z,k',rfl,hz⟩
  .simp [Instr.sliceBounds]
  .simp [Instr.sliceBounds,hz,run_sliceBound,(by omega:0≤n),(by omega:n≤(cap:Int))]
  .simp [Instr.sliceBounds,hy,run_sliceBound,h0,h1]
  simp [Instr.sliceBounds,hy,hz,run_sliceBound,(by omega:0≤n),(by omega:n≤(cap:Int)),e1,h0,h1]
theorem aJA {t:TypeId}{x:Operand}{lo hi:Option Operand}(ho:o.op= .slice t x lo hi none) {ρ:Operand→qM}(hx:rP g w (ρ x) (a.eval x)) (hlo: ∀y∈lo.toList,rP g w (ρ y) (a.eval y)) (hhi: ∀y∈hi.toList,rP g w (ρ y) (a.eval y)) {e:qS}
    (hr:AT (ZD (rT T t) (ρ x) (zY ρ lo) (zY ρ hi))=some e) (hs: ∀p∈e.side,p):rK P o a g w H e:=by
  obtain⟨q,hq,rfl⟩:=IZ hr;replace hx:=hx.1;generalize hst:rT T t=ot at hq;generalize hsx:ρ x=sx at hq hx;unfold ZD at hq;split at hq
  · rename_i el by' ar ls_ l k
    generalize hb1:E5 (zY ρ lo) 0=o1 at hq;generalize hb2:E5 (zY ρ hi) (List.length l)=o2 at hq;unfold T8 at hq;split at hq
    · rename_i m n
      cases hq;obtain⟨k1,k2,k3⟩:=hs _ (aTH.2 rfl);have h2:=(sZ hT hst).2;simp only[xG] at h2;have hv:=wK hx;have hbd:=aAm (P:=P) (isSlice:=false) (cap:=List.length l) hT hH (V8 hT hH hlo hb1) (V8 hT hH hhi hb2) k1 k2 k3 (aTO _);refine rK.pure hH (v:= .string ⟨(s7 l m n).toArray⟩) ?_ (CR _ _ _);have hsz:(⟨List.toArray l⟩:ByteArray).size=List.length l:=by simp [ByteArray.size]
      have hext:(⟨List.toArray l⟩:ByteArray).extract m.toNat n.toNat=⟨(s7 l m n).toArray⟩:=by
        apply ByteArray.ext;apply aUy.1;simp [s7]
      simp only[execOp,ho,hv,Option.map_none,Instr.sliceAt,Instr.slice,aTC,aTP h2,aTz,Option.isSome_none,aUT,aVt,hsz,hbd,hext,aTS]
    cases hq
  · rename_i u el by' ar ls_ t1 l k
    split at hq
    · rename_i htu
      subst htu;generalize hb1:E5 (zY ρ lo) 0=o1 at hq;generalize hb2:E5 (zY ρ hi) (List.length l)=o2 at hq;unfold T8 at hq;split at hq
      · rename_i m n
        cases hq;obtain⟨k1,k2,k3⟩:=hs _ (aTH.2 rfl);obtain⟨h2,h3,_⟩:=(sZ hT hst).2;obtain⟨ei,hei,hz⟩:=aTG.1 h3;simp only[aTU] at hz;obtain⟨ad,cap,hv,hle,hl⟩:=EB hx;have hbd:=aAm (P:=P) (isSlice:=true) (cap:=cap) hT hH (V8 hT hH hlo hb1) (V8 hT hH hhi hb2) k1 k2 k3 hle;refine rK.pure hH (v:= .slice (if cap=m.toNat then ad else ad.map (·.add (m.toNat*t1.cells))) (n.toNat-m.toNat) (cap-m.toNat)) ?_ (.inr ⟨rfl,(if cap=m.toNat then ad else ad.map (·.add (m.toNat*t1.cells))),cap-m.toNat,?_,?_,?_⟩)
        .simp only[execOp,ho,hv,Option.map_none,Instr.sliceAt,Instr.slice,aTC,aTP h2,aTz,hbd,sizeOf,typeInfo,aUo,hei,hz.1,aTS]
        .rw[a0X k1 k2 k3]
        .rw[a0X k1 k2 k3];omega
        rcases hl with rfl|⟨b,off,rfl,hL⟩
        .exact .inl (by simp [s7])
        by_cases hc:cap=m.toNat
        · left
          apply aTX;rw[a0X k1 k2 k3];omega
        right
        rw[aTs hc];refine⟨b,off+m.toNat*t1.cells,by simp [aUE],?_⟩;exact a94 _ (a93 _ hL pQ)
      cases hq
    cases hq
  cases hq
end
theorem a00 {α:Type}{R:α->pX->Prop}{c:Nat}(hR: ∀x cs,R x cs->∀v∈cs,v.oneCell'=true): ∀{l:List α}{cs:pX},tZ R c l cs->∀v∈cs,v.oneCell'=true
 |[],_,h=>by rw[h];simp
 |_::_,_,⟨c1,c2,e,_,h2,h3⟩=>by
  subst e;intro v hv;rcases aUe.1 hv with h|h
  .exact hR _ _ h2 v h
  exact a00 hR h3 v h
theorem V9 {α:Type}{R:α->pX->Prop}{c:Nat}: ∀{l:List α}{cs cy:pX}{i:Nat}{y:α},tZ R c l cs->R y cy->cy.length=c->i<l.length->
  ∃c1 c2 c3,cs=c1++c2++c3/\c1.length=i*c/\c2.length=c/\tZ R c (l.set i y) (c1++cy++c3)
 |[],_,_,_,_,_,_,_,h=>by simp at h
 |_::l,_,cy,0,y,⟨c1,c2,e,h1,_,h3⟩,hy,hc,_=>⟨[],c1,c2,by simpa using e,by simp,h1,⟨cy,c2,by simp,hc,hy,h3⟩⟩
 |x::l,_,cy,i+1,y,⟨c1,c2,e,h1,h2,h3⟩,hy,hc,hi=>by
  obtain⟨d1,d2,d3,e1,e2,e3,e4⟩:=V9 h3 hy hc (by simpa using hi);refine⟨c1++d1,d2,d3,by rw[e,e1];simp,by rw[aTt,h1,e2,aUC];omega,e3,⟨c1,d1++cy++d3,by simp,h1,h2,e4⟩⟩
theorem QF {α:Type}{R:α->pX->Prop}{w:q9}{S:Nat->Nat->Prop}{c b:Nat}: ∀{l:List α}{o:Nat},yM R w S c b o l->∃cs,tZ R c l cs/\w.rangeAt b o cs/\∀j,j<l.length*c->S b (o+j)
 |[],o,_=>⟨[],rfl,fun j v h=>by simp at h,fun j h=>by simp at h⟩
 |x::l,o,⟨⟨c1,h1,h2,h3,h4⟩,h5⟩=>by
  obtain⟨c2,k1,k2,k3⟩:=QF h5;refine⟨c1++c2,⟨c1,c2,rfl,h1,h4,k1⟩,fun j v hv=>?_,fun j hj=>?_⟩
  .by_cases hj:j<c
   .exact h2 j v (by rwa [aTK pQ] at hv)
   have:=k2 (j-c) v (by rw[aTA pQ,h1] at hv;exact hv);rwa [show o+c+(j-c)=o+j from by omega] at this
  by_cases hj':j<c
  .exact h3 j hj'
  have:=k3 (j-c) (by rw[aTx,aUC] at hj;omega);rwa [show o+c+(j-c)=o+j from by omega] at this
theorem aAn {g:Gh}{w:q9}{t:Ty}: ∀n,tZ (Rd g w t) t.cells (DG t n) (List.flatten (List.replicate n (uC t)))
 |0=>rfl
 |n+1=>⟨uC t,_,rfl,sT (EA g w t),EA g w t,aAn n⟩
theorem aAo (t:Ty): ∀n,(DG t n).length=n
 |0=>rfl
 |n+1=>by simp [DG,aAo t n]
def Gh.tok (g:Gh) (k n:Nat) (v:qB):Gh:={g with cur:=fun k' n'=>if k'=k/\n'=n then some v else g.cur k' n'}
def Gh.var (g:Gh) (i b:Nat) (k:Option (TypeId×Nat)):Gh:={g with J:=fun i'=>if i'=i then some ⟨b,0,k⟩ else g.J i'}
def Gh.shut (g:Gh) (b m:Nat):Gh:={g with S:=fun b' o=>g.S b' o\/(b'=b/\o<m)}
section
variable {g:Gh}{w:q9}{H:s9}(hH:sD g w H)
include hH
theorem rN.nilTok {side:List Prop}{d:DV}{rds:q8}{base e c:Nat}{u:Ty}(hd:d= .val (.list u) []) (hf: ∀n,g.cur base n=none):
  rN g w H ⟨side,(d,some base),[(base,.grow e c 0)],rds⟩ (g.tok base 0 (.slice none 0 0)) w (.slice none 0 0):=by
 have le:Le g w (g.tok base 0 (.slice none 0 0)) w:=⟨fun _ _ h=>h,fun _ _ _=>rfl,fun _ _ h=>h,fun k n v h=>by
  show (if k=base/\n=0 then _ else _)=_;rw[aTs (fun⟨e1,_⟩=>by rw[e1,hf] at h;cases h)];exact h⟩
 have fr:Fr (sS g H (qQ [(base,qJ.grow e c 0)])) w w g.S (g.tok base 0 (.slice none 0 0)).S:= .refl _ _ _;have gho: ∀i,i∉qQ [(base,qJ.grow e c 0)]->(g.tok base 0 (.slice none 0 0)).J i=g.J i/\(g.tok base 0 (.slice none 0 0)).cur i=g.cur i:=fun i hi=>⟨rfl,by
  funext n;show (if i=base/\n=0 then _ else _)=_;rw[aTs (fun⟨e1,_⟩=>hi (by simp [qQ,e1]))]⟩
 have cur0:(g.tok base 0 (.slice none 0 0)).cur base 0=some (.slice none 0 0):=by simp [Gh.tok]
 have own: ∀i blk b o,i∈qQ [(base,qJ.grow e c 0)]->qO (r6 [(base,qJ.grow e c 0)] H) i=some blk->¬sC (g.tok base 0 (.slice none 0 0)) i blk b o:=by
  intro i blk b o hi hg ho;simp only[qQ,aTH] at hi;subst hi;simp only[r6,qO,aU2,aTq] at hg;subst hg;obtain⟨v,hv,hb⟩:=ho;rw[cur0] at hv;obtain rfl:=aTv hv;cases hb
 subst hd;refine⟨le,⟨.inr ⟨rfl,none,0,rfl,aTO _,.inl rfl⟩,cur0⟩,hH.upd le fr (fun i blk b o h1 h2 h3=>absurd h3 (own i blk b o h1 h2)) gho (fun i blk hi hg=>?_) (fun i j bi bj b o hi hj hij hgi hgj hoi hoj=>own i bi b o hi hgi hoi) hH.sl,fr,fun i blk b o h1 h2 h3=>absurd h3 (own i blk b o h1 h2),gho,fun i u' y us h=>by
  simp only[r6,qO] at h;split at h
  .cases h
  exact .inl ⟨y,us,h⟩⟩
 simp only[qQ,aTH] at hi;subst hi;simp only[r6,qO,aU2,aTq] at hg;subst hg;refine⟨.slice none 0 0,[],cur0,World.ownsRow_nil w 0 e c,fun m hm=>?_,fun b hb=>by cases hb⟩;show (if i=i/\m=0 then _ else _)=_;rw[aTs pQ];exact hf m
theorem rN.row {side:List Prop}{rds:q8}{s:qM}{val:qB}{k:Nat}{e:TypeId}{t:Ty}{l:List t.den}{n:Nat}{v:qB}{xs:pX}{w':q9}
  (hl:l.length=n) (hown:w'.ownsRow 0 e t.cells v n xs) (hF:tZ (Rd g w t) t.cells l xs) (hnone: ∀m,n<m->g.cur k m=none) (hcur: ∀u,g.cur k n=some u->u=v)
  (hg:w.grownBy w' (v.ownBlock)\/∃q,w.grownBy w' q/\∀b,q=some b->∀o,sS g H [k] b o)
  (hcell: ∀b o,g.S b o->w'.cell? ⟨b,o,none⟩=w.cell? ⟨b,o,none⟩)
  (hseal: ∀b,v.ownBlock=some b->∀o,¬g.S b o)
  (hperm: ∀b,v.ownBlock=some b->w.heap.size<=b\/∀o,sS g H [k] b o)
  (hslot:rP (g.tok k n v) w' s val):rN g w H ⟨side,s,[(k,.row e t l n)],rds⟩ (g.tok k n v) w' val:=by
 have le:Le g w (g.tok k n v) w':=⟨fun _ _ h=>h,fun b o h=>hcell b o h,fun _ _ h=>h,fun k' n' v' h=>by
  show (if k'=k/\n'=n then _ else _)=_;by_cases hk:k'=k/\n'=n
  .obtain⟨rfl,rfl⟩:=hk;rw[aTr ⟨rfl,rfl⟩,hcur _ h]
  rw[aTs hk];exact h⟩
 have cur1:(g.tok k n v).cur k n=some v:=by simp [Gh.tok]
 have hblk: ∀b,b<w.heap.size->(∀o,¬sS g H (qQ [(k,qJ.row e t l n)]) b o)->w'.heap[b]? =w.heap[b]? :=by
  intro b hb hno;rcases hg with hg|⟨q,hg,hq⟩
  .refine hg.block b hb (fun e1=>?_);rcases hperm b e1.symm with h|h
   .omega
   exact hno 0 (h 0)
  exact hg.block b hb (fun e1=>hno 0 (hq b e1.symm 0))
 have hgo:w'.os=w.os/\w'.tape=w.tape/\w'.output=w.output/\w.heap.size<=w'.heap.size:=by
  rcases hg with hg|⟨q,hg,_⟩
  .exact⟨hg.os,hg.tape,hg.output,hg.size⟩
  exact⟨hg.os,hg.tape,hg.output,hg.size⟩
 have hall: ∀b o,sS g H (qQ [(k,qJ.row e t l n)]) b o->True:=fun _ _ _=>trivial;have hcell2: ∀b o,b<w.heap.size->¬sS g H (qQ [(k,qJ.row e t l n)]) b o->(w'.cell? ⟨b,o,none⟩=w.cell? ⟨b,o,none⟩/\w'.frozen? ⟨b,o,none⟩=w.frozen? ⟨b,o,none⟩):=by
  intro b o hb hno;have:w'.heap[b]? =w.heap[b]? :=by
   rcases hg with hg|⟨q,hg,hq⟩
   .refine hg.block b hb (fun e1=>?_);rcases hperm b e1.symm with h|h
    .omega
    exact hno (h o)
   exact hg.block b hb (fun e1=>hno (hq b e1.symm o))
  exact⟨aTQ (a:=⟨b,o,none⟩) this,aUh (a:=⟨b,o,none⟩) this⟩
 have hshape: ∀b s,w.shape? b=some s->w'.shape? b=some s\/∀o,sS g H (qQ [(k,qJ.row e t l n)]) b o:=by
  intro b s hs;rcases hg with hg|⟨q,hg,hq⟩
  .by_cases e1:v.ownBlock=some b
   .rcases hperm b e1 with h|h
    .have:=C0 hs;omega
    exact .inr h
   exact .inl ((C1 (hg.block b (C0 hs) (fun h=>e1 h.symm))).trans hs)
  by_cases e1:q=some b
  .exact .inr (hq b e1)
  exact .inl ((C1 (hg.block b (C0 hs) (fun h=>e1 h.symm))).trans hs)
 have fr:Fr (sS g H (qQ [(k,qJ.row e t l n)])) w w' g.S (g.tok k n v).S:=⟨hgo.1,hgo.2.1,hgo.2.2.1,hgo.2.2.2,hblk,hcell2,fun b o h=> .inl h,hshape⟩;have gho: ∀i,i∉qQ [(k,qJ.row e t l n)]->(g.tok k n v).J i=g.J i/\(g.tok k n v).cur i=g.cur i:=fun i hi=>⟨rfl,by
  funext n';show (if i=k/\n'=n then _ else _)=_;rw[aTs (fun⟨e1,_⟩=>hi (by simp [qQ,e1]))]⟩
 have get: ∀i blk,i∈qQ [(k,qJ.row e t l n)]->qO (r6 [(k,qJ.row e t l n)] H) i=some blk->i=k/\blk= .row e t l n:=by
  intro i blk hi hg;simp only[qQ,aTH] at hi;subst hi;simp only[r6,qO,aU2,aTq] at hg;exact⟨rfl,hg.symm⟩
 have perm: ∀i blk b o,i∈qQ [(k,qJ.row e t l n)]->qO (r6 [(k,qJ.row e t l n)] H) i=some blk->sC (g.tok k n v) i blk b o->w.heap.size<=b\/sS g H (qQ [(k,qJ.row e t l n)]) b o:=by
  intro i blk b o hi hgt ho;obtain⟨rfl,rfl⟩:=get i blk hi hgt;obtain⟨v',hv',hb⟩:=ho;rw[cur1] at hv';obtain rfl:=aTv hv';exact(hperm b hb).imp id (fun h=>h o)
 refine⟨le,hslot,hH.upd le fr perm gho (fun i blk hi hgt=>?_) (fun i j bi bj b o hi hj hij hgi hgj _ _=>hij ((get i bi hi hgi).1.trans (get j bj hj hgj).1.symm)) (fun b o h=>aT1 (hH.sl b o h) hgo.2.2.2),fr,perm,gho,fun i u' y us h=>by
  simp only[r6,qO] at h;split at h
  .cases h
  exact .inl ⟨y,us,h⟩⟩
 obtain⟨rfl,rfl⟩:=get i blk hi hgt;refine⟨hl,v,xs,cur1,hown,CP (fun _ _ h=>wE le h) hF,fun m hm=>?_,hseal⟩;show (if i=i/\m=n then _ else _)=_;rw[aTs pQ];exact hnone m hm
theorem rN.newVarJ {side:List Prop}{rds:q8}{base:Nat}{t:Ty}{x:t.den}{toks:pV}{cs:pX}{e:TypeId}(hR:Rd (g.var base w.heap.size (some (e,cs.length))) w t x cs) (htk:GR g t x cs toks) (hf:g.J base=none) (hc:g.cur base=fun _=>none):
  rN g w H ⟨side,(.val .ref (some (base,0)),none),[(base,.cells t x toks)],rds⟩ (g.var base w.heap.size (some (e,cs.length))) (w.alloc (.cells cs.toArray e)) (.pointer (some ⟨w.heap.size,0,none⟩)):=by
 have hJ:(g.var base w.heap.size (some (e,cs.length))).J base=some ⟨w.heap.size,0,some (e,cs.length)⟩:=by simp [Gh.var]
 have le:Le g w (g.var base w.heap.size (some (e,cs.length))) (w.alloc (.cells cs.toArray e)):=⟨fun _ _ h=>h,fun b o h=>aTQ (a:=⟨b,o,none⟩) (aTY _ _ _ (hH.sl b o h)),fun i p h=>by
  show (if i=base then _ else _)=_;rw[aTs (fun e1=>by rw[e1,hf] at h;cases h)];exact h,fun _ _ _ h=>h⟩
 have le2:Le (g.var base w.heap.size (some (e,cs.length))) w (g.var base w.heap.size (some (e,cs.length))) (w.alloc (.cells cs.toArray e)):=⟨fun _ _ h=>h,fun b o h=>aTQ (a:=⟨b,o,none⟩) (aTY _ _ _ (hH.sl b o h)),fun _ _ h=>h,fun _ _ _ h=>h⟩;have fr:Fr (sS g H (qQ [(base,qJ.cells t x toks)])) w (w.alloc (.cells cs.toArray e)) g.S (g.var base w.heap.size (some (e,cs.length))).S:=
  ⟨rfl,rfl,rfl,by simp,fun b hb _=>aTY _ _ _ hb,fun b o hb _=>⟨aTQ (a:=⟨b,o,none⟩) (aTY _ _ _ hb),aUh (a:=⟨b,o,none⟩) (aTY _ _ _ hb)⟩,fun b o h=> .inl h,fun b s h=> .inl ((C1 (aTY _ _ _ (C0 h))).trans h)⟩
 have gho: ∀i,i∉qQ [(base,qJ.cells t x toks)]->(g.var base w.heap.size (some (e,cs.length))).J i=g.J i/\(g.var base w.heap.size (some (e,cs.length))).cur i=g.cur i:=fun i hi=>⟨by
  show (if i=base then _ else _)=_;rw[aTs (fun e1=>hi (by simp [qQ,e1]))],rfl⟩
 have get: ∀i blk,i∈qQ [(base,qJ.cells t x toks)]->qO (r6 [(base,qJ.cells t x toks)] H) i=some blk->i=base/\blk= .cells t x toks:=by
  intro i blk hi hg;simp only[qQ,aTH] at hi;subst hi;simp only[r6,qO,aU2,aTq] at hg;exact⟨rfl,hg.symm⟩
 have perm: ∀i blk b o,i∈qQ [(base,qJ.cells t x toks)]->qO (r6 [(base,qJ.cells t x toks)] H) i=some blk->sC (g.var base w.heap.size (some (e,cs.length))) i blk b o->w.heap.size<=b\/sS g H (qQ [(base,qJ.cells t x toks)]) b o:=by
  intro i blk b o hi hg ho;obtain⟨rfl,rfl⟩:=get i blk hi hg;obtain⟨p,hp,h1,_⟩:=ho;rw[hJ] at hp;obtain rfl:=aTv hp;exact .inl (aUZ h1.symm)
 have hl:=sT hR;refine⟨le,⟨.inr ⟨rfl,_,hJ,rfl⟩,trivial⟩,hH.upd le fr perm gho (fun i blk hi hg=>?_) (fun i j bi bj b o hi hj hij hgi hgj _ _=>hij ((get i bi hi hgi).1.trans (get j bj hj hgj).1.symm)) (fun b o h=>aT1 (hH.sl b o h) pS),fr,perm,gho,fun i u' y us h=>by
  simp only[r6,qO] at h;split at h
  .rename_i e1;subst e1;exact .inr ⟨hf,fun n=>by rw[hc]⟩
  exact .inl ⟨y,us,h⟩⟩
 obtain⟨rfl,rfl⟩:=get i blk hi hg;refine⟨_,cs,hJ,wE le2 hR,fun j v hv=>?_,⟨fun j hj=>?_,fun _ s hs=>?_⟩,fun j _ hs=>aVb _ (hH.sl _ _ hs),a91 le.cur htk⟩
 .simp only[aTW];rw[aUR];simpa using hv
 .simp only[aTW];rw[aUR,World.frozen?_alloc_new];exact⟨by simp;omega,rfl⟩
 cases hs;show (match (w.heap.push (.cells cs.toArray e))[w.heap.size]? with|some (.cells c elem _)=>some (elem,c.size) |_=>none)=_
 rw[aVn];simp only[aUq]
theorem rN.newVar {side:List Prop}{rds:q8}{base:Nat}{t:Ty}{x:t.den}{toks:pV}{cs:pX}{e:TypeId}(hR:Rd g w t x cs) (htk:GR g t x cs toks) (hf:g.J base=none) (hc:g.cur base=fun _=>none):
  rN g w H ⟨side,(.val .ref (some (base,0)),none),[(base,.cells t x toks)],rds⟩ (g.var base w.heap.size (some (e,cs.length))) (w.alloc (.cells cs.toArray e)) (.pointer (some ⟨w.heap.size,0,none⟩)):=
 rN.newVarJ hH (wE (g:=g) (g':=g.var base w.heap.size (some (e,cs.length))) (w:=w) (w':=w) ⟨fun _ _ h=>h,fun _ _ _=>rfl,fun i p h=>by
  show (if i=base then _ else _)=_;rw[aTs (fun e1=>by rw[e1,hf] at h;cases h)];exact h,fun _ _ _ h=>h⟩ hR) htk hf hc
end
theorem aAp {P:Program}(w:q9) (t ty e:TypeId) (i:TypeInfo) (z:qB) (size bytes:Nat) (ht:P.underlying t=some (.slice e)) (hi:P.info? e=some i) (hz:i.zero=some z)
  (hsize:i.size=size) (hby:i.bytes=bytes) (hzs:z.cells.size=size)
  (v:qB) (n:Nat) (xs:pX) (hown:w.ownsRow 0 e size v n xs)
  (a:Addr) (m c:Nat) (news:pX) (hl:news.length=m*size) (hnews: ∀j u,news[j]? =some u->w.cell? (a.add j)=some u) (h1: ∀u∈news,u.oneCell'=true) (hm:0<m)
  (h63:n+m<=maxLen) (hbytes:(n+m)*bytes<=140737488355328):
  ∃q cap w',(Builtin.append_ #[t,t] ty #[v,.slice (some a) m c]).run P w= .ok (.slice (some ⟨q,0,none⟩) (n+m) cap) w'/\w'.ownsRow 0 e size (.slice (some ⟨q,0,none⟩) (n+m) cap) (n+m) (xs++news)/\
   (q=w.heap.size\/v.ownBlock=some q)/\w.grownBy w' v.ownBlock/\n+m<=cap/\
   ∀b o,b<w.heap.size->(v.ownBlock=some b->o<n*size)->w'.cell? ⟨b,o,none⟩=w.cell? ⟨b,o,none⟩:=by
 subst hsize;subst hby;have hsmall:n+m<=9223372036854775807:=by simp only[maxLen] at h63;omega
 have hlen:(xs++news).length=(n+m)*i.size:=by rw[aTt,hown.1,hl,Nat.add_mul]
 have grown: ∀(old:Nat),old<n+m->∀(row:pZ),
   (w.drew.alloc (.cells (xs.toArray++news.toArray++Builtin.zeroCells z.cells (grownCap w (n+m) old e- (n+m))) e)).ownsRow 0 e i.size
    (.slice (some ⟨w.heap.size,0,none⟩) (n+m) (grownCap w (n+m) old e)) (n+m) (xs++news)/\
   w.grownBy (w.drew.alloc (.cells (xs.toArray++news.toArray++Builtin.zeroCells z.cells (grownCap w (n+m) old e- (n+m))) e)) row/\n+m<=grownCap w (n+m) old e/\
   ∀b o,b<w.heap.size->(w.drew.alloc (.cells (xs.toArray++news.toArray++Builtin.zeroCells z.cells (grownCap w (n+m) old e- (n+m))) e)).cell? ⟨b,o,none⟩=w.cell? ⟨b,o,none⟩:=by
  intro old ho row;have hge:=grownCap_ge w (n+m) old e;have hcm:grownCap w (n+m) old e<=maxLen:=grownCap_le_maxLen w (n+m) old e h63;refine⟨⟨hlen,.inr ⟨w.heap.size,_,_,rfl,aUp _,aVw w.drew _,hge,hcm,?_,?_⟩⟩,⟨rfl,rfl,rfl,by simp,fun k hk _=>aTY w.drew _ k hk⟩,hge,fun b o hb=>aTQ (w:=w) (a:=⟨b,o,none⟩) (aTY w.drew _ b hb)⟩
  .simp only[aVz,aUq,size_zeroCells,hzs,hown.1,hl,<-Nat.add_mul];congr 1;omega
  simp only[Array.toList_append,aTD];rw[<-aTD,<-hlen];exact aUQ
 rcases hown.2 with⟨rfl,rfl⟩ |⟨g,cap,cur,rfl,hbg,hg,hnc,hcm,hcs,htake⟩
 .have hx:xs=[]:=aTX (by simpa using hown.1);subst hx;have hr:=run_append_nil (P:=P) w t ty e i z ht hi hz a m c news hl hnews pQ pQ (by have hb:=hbytes;simp only[aTW] at hb;omega);have hgr:=grown 0 pQ (Value.ownBlock (.slice none 0 0));simp only[aTW,List.nil_append,Array.empty_append] at hgr|-;exact⟨_,_,_,hr,hgr.1,.inl rfl,hgr.2.1,hgr.2.2.1,fun b o hb _=>hgr.2.2.2 b o hb⟩
 by_cases hroom:n+m<=cap
 .have hfit:n*i.size+news.length<=cur.size:=by rw[hl,hcs,<-Nat.add_mul];exact aUA _ hroom
  have hr:=run_append_room (P:=P) w t ty e i ht hi g n cap cur hg a m c news hl hnews h1 hroom hfit;refine⟨_,_,_,hr,⟨hlen,.inr ⟨g,cap,_,rfl,hbg,aVA w g cur _ e _ hg,hroom,hcm,?_,?_⟩⟩,.inr rfl,⟨rfl,rfl,rfl,by simp,fun k _ hk=>aVh w g k _ (fun e=>hk (by simp [Value.ownBlock,e]))⟩,hroom,fun b o hb hso=>?_⟩
  .simp only[aUq,aTt,aUg,aT2,aUm];omega
  .rw[htake,<-hlen];exact aUQ
  by_cases hbg':b=g
  .subst hbg';have ho:=hso rfl;rw[cell_setRow_same w b o cur _ e _ hg,cell_of_row w b o cur e (0,0) hg];have hlt:o<(cur.toList.take (n*i.size)).length:=by rw[aUg,aUm];omega
   rw[aTD,List.getElem?_toArray,aTK hlt,List.getElem?_take,aTr ho,aUv]
  exact aTQ (w:=w) (a:=⟨b,o,none⟩) (aVh w g b _ hbg')
 have holds: ∀j u,xs[j]? =some u->w.cell? ((⟨g,0,none⟩:Addr).add j)=some u:=hown.cells (g:=g) rfl;have hr:=run_append_grow (P:=P) w t ty e i z ht hi hz ⟨g,0,none⟩ n cap xs hown.1 holds a m c news hl hnews pQ pQ (growslice_fits pQ hbytes);have hgr:=grown cap pQ (Value.ownBlock (.slice (some ⟨g,0,none⟩) n cap));exact⟨_,_,_,hr,hgr.1,.inl rfl,hgr.2.1,hgr.2.2.1,fun b o hb _=>hgr.2.2.2 b o hb⟩
theorem a01 {w:q9}{e:TypeId}{c n:Nat}{q cap:Nat}{xs:pX}(h:w.ownsRow 0 e c (.slice (some ⟨q,0,none⟩) n cap) n xs):w.rangeAt q 0 xs:=fun j u hu=>by
 have:=h.cells (g:=q) rfl j u hu;rwa [aUE] at this
theorem aJB (w:q9) (a:Addr) (v:qB) (b:Nat):(w.setCell a v).shape? b=w.shape? b:=by
 unfold World.shape? World.setCell;simp only[aUw];by_cases h:a.block=b
 .rw[aTr h];cases hb:w.heap[b]? with
  |none=>rfl
  |some x=>
   cases x with
   |cells c e f=>
    simp only[Option.map_some];split<;>simp
   |_=>rfl
 rw[aTs h]
theorem QG (b:Nat): ∀(l:pX) (o:Nat) (w:q9) (b':Nat),(w.setCells b o l).shape? b'=w.shape? b'
 |[],_,_,_=>rfl
 |v::l,o,w,b'=>by rw[World.setCells,QG b l,aJB]
section
variable {g:Gh}{w:q9}{H:s9}(hH:sD g w H)
include hH
theorem rN.append {side:List Prop}{rds:q8}{k e c n:Nat}{u:Ty}{l r:List u.den}{w':q9}{q cap:Nat}{v:qB}{xs news:pX}(hk:qO H k=some (.grow e c n)) (hc:c=u.cells)
  (hln:l.length=n) (hv:g.cur k n=some v) (hown:w.ownsRow 0 e c v n xs) (hnone: ∀m,n<m->g.cur k m=none) (hseal: ∀b,v.ownBlock=some b->∀o,g.S b o->o<n*c) (hl:tZ (Rd g w u) c l xs) (hr:tZ (Rd g w u) c r news) (hm:0<r.length)
  (ho:w'.ownsRow 0 e c (.slice (some ⟨q,0,none⟩) (n+r.length) cap) (n+r.length) (xs++news)) (hq:q=w.heap.size\/v.ownBlock=some q) (hg:w.grownBy w' v.ownBlock) (hcap:n+r.length<=cap)
  (hcell: ∀b o,b<w.heap.size->(v.ownBlock=some b->o<n*c)->w'.cell? ⟨b,o,none⟩=w.cell? ⟨b,o,none⟩):
  rN g w H ⟨side,(.val (.list u) (l++r),some k),[(k,.grow e c (n+r.length))],rds⟩ ((g.tok k (n+r.length) (.slice (some ⟨q,0,none⟩) (n+r.length) cap)).shut q ((n+r.length)*c)) w' (.slice (some ⟨q,0,none⟩) (n+r.length) cap):=by
 have hnb:=hnone (n+r.length) pQ;have hownk: ∀o b,v.ownBlock=some b->sS g H (qQ [(k,qJ.grow e c (n+r.length))]) b o:=fun o b hb=>⟨k,_,by simp [qQ],hk,v,hv,hb⟩;have hqlt:q<w'.heap.size:=(ho.lt q rfl).2;have le:Le g w ((g.tok k (n+r.length) (.slice (some ⟨q,0,none⟩) (n+r.length) cap)).shut q ((n+r.length)*c)) w':=⟨fun _ _ h=> .inl h,fun b o h=>hcell b o (hH.sl b o h) (fun hb=>hseal b hb o h),fun _ _ h=>h,fun k' n' v' h=>by
  show (if k'=k/\n'=n+r.length then _ else _)=_;rw[aTs (fun⟨e1,e2⟩=>by rw[e1,e2,hnb] at h;cases h)];exact h⟩
 have fr:Fr (sS g H (qQ [(k,qJ.grow e c (n+r.length))])) w w' g.S ((g.tok k (n+r.length) (.slice (some ⟨q,0,none⟩) (n+r.length) cap)).shut q ((n+r.length)*c)).S:=by
  have hbk: ∀b,b<w.heap.size->∀o,¬sS g H (qQ [(k,qJ.grow e c (n+r.length))]) b o->w'.heap[b]? =w.heap[b]? :=fun b hb o hno=>hg.block b hb (fun e1=>hno (hownk o b e1.symm));refine⟨hg.os,hg.tape,hg.output,hg.size,fun b hb hno=>hbk b hb 0 (hno 0),fun b o hb hno=>⟨aTQ (a:=⟨b,o,none⟩) (hbk b hb o hno),aUh (a:=⟨b,o,none⟩) (hbk b hb o hno)⟩,fun b o h=>?_,fun b s hs=>?_⟩
  rotate_left
  .by_cases e1:v.ownBlock=some b
   .exact .inr fun o=>hownk o b e1
   exact .inl ((C1 (hg.block b (C0 hs) (fun h=>e1 h.symm))).trans hs)
  rcases h with h|⟨rfl,_⟩
  .exact .inl h
  rcases hq with h|h
  .exact .inr (.inl (aUZ h.symm))
  exact .inr (.inr (hownk o b h))
 have gho: ∀i,i∉qQ [(k,qJ.grow e c (n+r.length))]->((g.tok k (n+r.length) (.slice (some ⟨q,0,none⟩) (n+r.length) cap)).shut q ((n+r.length)*c)).J i=g.J i/\((g.tok k (n+r.length) (.slice (some ⟨q,0,none⟩) (n+r.length) cap)).shut q ((n+r.length)*c)).cur i=g.cur i:=fun i hi=>⟨rfl,by
  funext n';show (if i=k/\n'=n+r.length then _ else _)=_;rw[aTs (fun⟨e1,_⟩=>hi (by simp [qQ,e1]))]⟩
 have cur1:((g.tok k (n+r.length) (.slice (some ⟨q,0,none⟩) (n+r.length) cap)).shut q ((n+r.length)*c)).cur k (n+r.length)=some (.slice (some ⟨q,0,none⟩) (n+r.length) cap):=by
  show (if k=k/\n+r.length=n+r.length then _ else _)=_;simp
 have get: ∀i blk,i∈qQ [(k,qJ.grow e c (n+r.length))]->qO (r6 [(k,qJ.grow e c (n+r.length))] H) i=some blk->i=k/\blk= .grow e c (n+r.length):=by
  intro i blk hi hg;simp only[qQ,aTH] at hi;subst hi;simp only[r6,qO,aU2,aTq] at hg;exact⟨rfl,hg.symm⟩
 have perm: ∀i blk b o,i∈qQ [(k,qJ.grow e c (n+r.length))]->qO (r6 [(k,qJ.grow e c (n+r.length))] H) i=some blk->sC ((g.tok k (n+r.length) (.slice (some ⟨q,0,none⟩) (n+r.length) cap)).shut q ((n+r.length)*c)) i blk b o->w.heap.size<=b\/sS g H (qQ [(k,qJ.grow e c (n+r.length))]) b o:=by
  intro i blk b o hi hgt ho';obtain⟨rfl,rfl⟩:=get i blk hi hgt;obtain⟨v',hv',hb⟩:=ho';rw[cur1] at hv';obtain rfl:=aTv hv';cases hb;rcases hq with h|h
  .exact .inl (aUZ h.symm)
  exact .inr (hownk o _ h)
 have hF:tZ (Rd ((g.tok k (n+r.length) (.slice (some ⟨q,0,none⟩) (n+r.length) cap)).shut q ((n+r.length)*c)) w' u) u.cells (l++r) (xs++news):=hc▸CP (fun _ _ h=>wE le h) (a0M hl hr);have hlr:(l++r).length=n+r.length:=by rw[aTt,hln]
 refine⟨le,⟨.inr ⟨rfl,some ⟨q,0,none⟩,cap,by rw[hlr],by rw[hlr];exact hcap,.inr ⟨q,0,rfl,J0 hF (a01 ho) (fun j hj=>?_)⟩⟩,?_⟩,hH.upd le fr perm gho (fun i blk hi hgt=>?_) (fun i j bi bj b o hi hj hij hgi hgj _ _=>hij ((get i bi hi hgi).1.trans (get j bj hj hgj).1.symm)) (fun b o h=>?_),fr,perm,gho,fun i u' y us h=>by
  simp only[r6,qO] at h;split at h
  .cases h
  exact .inl ⟨y,us,h⟩⟩
 .right;rw[hlr] at hj;exact⟨rfl,by rw[hc];omega⟩
 .show _=_;rw[hlr];exact cur1
 .obtain⟨rfl,rfl⟩:=get i blk hi hgt;refine⟨_,_,cur1,ho,fun m hm'=>?_,fun b hb o h=>?_⟩
  .show (if i=i/\m=n+r.length then _ else _)=_;rw[aTs pQ];exact hnone m pQ
  cases hb;rcases h with h|⟨_,h⟩
  .rcases hq with h2|h2
   .have:q<w.heap.size:=hH.sl _ _ h;omega
   have:=hseal _ h2 o h;rw[Nat.add_mul];omega
  exact h
 rcases h with h|⟨rfl,_⟩
 .exact aT1 (hH.sl b o h) hg.size
 exact hqlt
theorem rN.lit {side:List Prop}{rds:q8}{base e c n:Nat}{u:Ty}{l:List u.den}{cs:pX}(hc:c=u.cells) (hln:l.length=n) (hl:tZ (Rd g w u) c l cs) (hn:n<=maxLen) (hf: ∀m,g.cur base m=none):
  rN g w H ⟨side,(.val (.list u) l,some base),[(base,.grow e c n)],rds⟩ ((g.tok base n (.slice (some ⟨w.heap.size,0,none⟩) n n)).shut w.heap.size (n*c)) (w.alloc (.cells cs.toArray e)) (.slice (some ⟨w.heap.size,0,none⟩) n n):=by
 have hlen:=L8 hl;have le:Le g w ((g.tok base n (.slice (some ⟨w.heap.size,0,none⟩) n n)).shut w.heap.size (n*c)) (w.alloc (.cells cs.toArray e)):=⟨fun _ _ h=> .inl h,fun b o h=>aTQ (a:=⟨b,o,none⟩) (aTY _ _ _ (hH.sl b o h)),fun _ _ h=>h,fun k' n' v' h=>by
  show (if k'=base/\n'=n then _ else _)=_;rw[aTs (fun⟨e1,e2⟩=>by rw[e1,hf] at h;cases h)];exact h⟩
 have fr:Fr (sS g H (qQ [(base,qJ.grow e c n)])) w (w.alloc (.cells cs.toArray e)) g.S ((g.tok base n (.slice (some ⟨w.heap.size,0,none⟩) n n)).shut w.heap.size (n*c)).S:=
  ⟨rfl,rfl,rfl,by simp,fun b hb _=>aTY _ _ _ hb,fun b o hb _=>⟨aTQ (a:=⟨b,o,none⟩) (aTY _ _ _ hb),aUh (a:=⟨b,o,none⟩) (aTY _ _ _ hb)⟩,fun b o h=>h.imp id fun h=> .inl (aUZ h.1.symm),fun b s h=> .inl ((C1 (aTY _ _ _ (C0 h))).trans h)⟩
 have gho: ∀i,i∉qQ [(base,qJ.grow e c n)]->((g.tok base n (.slice (some ⟨w.heap.size,0,none⟩) n n)).shut w.heap.size (n*c)).J i=g.J i/\((g.tok base n (.slice (some ⟨w.heap.size,0,none⟩) n n)).shut w.heap.size (n*c)).cur i=g.cur i:=fun i hi=>⟨rfl,by
  funext n';show (if i=base/\n'=n then _ else _)=_;rw[aTs (fun⟨e1,_⟩=>hi (by simp [qQ,e1]))]⟩
 have cur1:((g.tok base n (.slice (some ⟨w.heap.size,0,none⟩) n n)).shut w.heap.size (n*c)).cur base n=some (.slice (some ⟨w.heap.size,0,none⟩) n n):=by
  show (if base=base/\n=n then _ else _)=_;simp
 have get: ∀i blk,i∈qQ [(base,qJ.grow e c n)]->qO (r6 [(base,qJ.grow e c n)] H) i=some blk->i=base/\blk= .grow e c n:=by
  intro i blk hi hg;simp only[qQ,aTH] at hi;subst hi;simp only[r6,qO,aU2,aTq] at hg;exact⟨rfl,hg.symm⟩
 have perm: ∀i blk b o,i∈qQ [(base,qJ.grow e c n)]->qO (r6 [(base,qJ.grow e c n)] H) i=some blk->sC ((g.tok base n (.slice (some ⟨w.heap.size,0,none⟩) n n)).shut w.heap.size (n*c)) i blk b o->w.heap.size<=b\/sS g H (qQ [(base,qJ.grow e c n)]) b o:=by
  intro i blk b o hi hgt ho';obtain⟨rfl,rfl⟩:=get i blk hi hgt;obtain⟨v',hv',hb⟩:=ho';rw[cur1] at hv';obtain rfl:=aTv hv';cases hb;exact .inl (aTO _)
 have hF:tZ (Rd ((g.tok base n (.slice (some ⟨w.heap.size,0,none⟩) n n)).shut w.heap.size (n*c)) (w.alloc (.cells cs.toArray e)) u) u.cells l cs:=hc▸CP (fun _ _ h=>wE le h) hl;have hra:(w.alloc (.cells cs.toArray e)).rangeAt w.heap.size 0 cs:=fun j v hv=>by
  rw[aTW,aUR];simpa using hv
 refine⟨le,⟨.inr ⟨rfl,some ⟨w.heap.size,0,none⟩,n,by rw[hln],by rw[hln];exact aTO _,.inr ⟨w.heap.size,0,rfl,J0 hF hra (fun j hj=>?_)⟩⟩,?_⟩,hH.upd le fr perm gho (fun i blk hi hgt=>?_) (fun i j bi bj b o hi hj hij hgi hgj _ _=>hij ((get i bi hi hgi).1.trans (get j bj hj hgj).1.symm)) (fun b o h=>?_),fr,perm,gho,fun i u' y us h=>by
  simp only[r6,qO] at h;split at h
  .cases h
  exact .inl ⟨y,us,h⟩⟩
 .right;rw[hln] at hj;exact⟨rfl,by rw[hc];omega⟩
 .show _=_;rw[hln];exact cur1
 .obtain⟨rfl,rfl⟩:=get i blk hi hgt;refine⟨_,cs,cur1,⟨by rw[hlen,hln],.inr ⟨w.heap.size,n,cs.toArray,rfl,aUp _,aVw w _,aTO _,hn,by simp [hlen,hln],by simp [<-hln,<-hlen]⟩⟩,fun m hm'=>?_,fun b hb o h=>?_⟩
  .show (if i=i/\m=n then _ else _)=_;rw[aTs pQ];exact hf m
  cases hb;rcases h with h|⟨_,h⟩
  .exact absurd (hH.sl _ _ h) (aVb _)
  exact h
 rcases h with h|⟨rfl,_⟩
 .exact aT1 (hH.sl b o h) pS
 simp
theorem a02: ∀{toks:pV}{off n q k:Nat},(q,k)∈tK toks off n->(q,k)∈toks/\¬(off<=q/\q<off+n)
 |[],_,_,_,_,h=>by simp [tK] at h
 |(q',k')::r,off,n,q,k,h=>by
  simp only[tK] at h;split at h
  .obtain⟨h1,h2⟩:=a02 h;exact⟨aTB _ h1,h2⟩
  rename_i hn;rcases aTE.1 h with h|h
  .cases h;exact⟨by simp,hn⟩
  obtain⟨h1,h2⟩:=a02 h;exact⟨aTB _ h1,h2⟩
theorem aJC {u:Ty}{y:u.den}: ∀{t:Ty}{x z:t.den}{o:Nat},u.isRow=false->sI u y t x o=some z->rC u t z o=some y:=by
 intro t
 induction t with
 |pair a b iha ihb=>
  intro x z o hu h;have hne:u≠.pair a b:=by intro e;rw[e] at hu;cases hu
  have key: ∀o,(if o<a.cells then(sI u y a x.1 o).map (fun q=>(q,x.2)) else(sI u y b x.2 (o-a.cells)).map (fun q=>(x.1,q)))=some z->
    (if o<a.cells then rC u a z.1 o else rC u b z.2 (o-a.cells))=some y:=by
   intro o h;by_cases ho:o<a.cells
   .rw[aTr ho] at h|-;obtain⟨q,hq,rfl⟩:=aTG.1 h;exact iha hu hq
   rw[aTs ho] at h|-;obtain⟨q,hq,rfl⟩:=aTG.1 h;exact ihb hu hq
  cases o with
  |zero=>
   unfold sI at h;unfold rC;rw[aUU hne] at h;rw[aUU (Ne.symm hne)];have:=key 0 (by simpa using h);simpa using this
  |succ o=>
   have:=key (o+1) (by simpa[sI] using h);simpa[rC] using this
 |_=>
  intro x z o hu h;cases o with
  |zero=>
   unfold sI at h;split at h
   .rename_i e;subst e;simp only[u7,aTq] at h
    try subst h
    unfold rC;simp [u7]
   .simp at h
  |succ o=>simp [sI] at h
theorem VA {u v:Ty}{y:u.den}: ∀{t:Ty}{x z:t.den}{o q:Nat}{l:(Ty.list v).den},sI u y t x o=some z->rC (.list v) t x q=some l->¬(o<=q/\q<o+u.cells)->rC (.list v) t z q=some l:=by
 intro t
 induction t with
 |pair a b iha ihb=>
  intro x z o q l h g hq;by_cases hu:o=0/\u= .pair a b
  .obtain⟨rfl,rfl⟩:=hu;exfalso;apply hq;have: ∀(t:Ty) (x:t.den) (q:Nat) (l:(Ty.list v).den),rC (.list v) t x q=some l->q<t.cells:=by
    intro t
    induction t with
    |pair s t ihs iht=>
     intro x q l g;have key: ∀q,(if q<s.cells then rC (.list v) s x.1 q else rC (.list v) t x.2 (q-s.cells))=some l->q<s.cells+t.cells:=by
      intro q g;by_cases h:q<s.cells
      .omega
      rw[aTs h] at g;have:=iht _ _ _ g;omega
     cases q with
     |zero=>
      unfold rC at g;rw[aUU (by intro e;cases e)] at g;exact key 0 (by simpa using g)
     |succ q=>exact key (q+1) (by simpa[rC] using g)
    |_=>
     intro x q l g;cases q with
     |zero=>first|(simp [Ty.cells];done) |(unfold rC at g;simp at g)
     |succ q=>simp [rC] at g
   exact⟨aUp _,by simpa using this _ _ _ _ g⟩
  .have keyh:(if o<a.cells then(sI u y a x.1 o).map (fun q=>(q,x.2)) else(sI u y b x.2 (o-a.cells)).map (fun q=>(x.1,q)))=some z:=by
    cases o with
    |zero=>
     unfold sI at h;rw[aUU (fun e=>hu ⟨rfl,e⟩)] at h;simpa using h
    |succ o=>simpa[sI] using h
   have keyg: ∀x:(Ty.pair a b).den,rC (.list v) (.pair a b) x q=(if q<a.cells then rC (.list v) a x.1 q else rC (.list v) b x.2 (q-a.cells)):=by
    intro x;cases q with
    |zero=>
     conv=>lhs;unfold rC
     rw[aUU (by intro e;cases e),Nat.zero_sub]
    |succ q=>simp [rC]
   rw[keyg] at g|-;by_cases ho:o<a.cells
   .rw[aTr ho] at keyh;obtain⟨z',hz',rfl⟩:=aTG.1 keyh;by_cases hqa:q<a.cells
    .rw[aTr hqa] at g|-;exact iha hz' g hq
    rw[aTs hqa] at g|-;exact g
   .rw[aTs ho] at keyh;obtain⟨z',hz',rfl⟩:=aTG.1 keyh;by_cases hqa:q<a.cells
    .rw[aTr hqa] at g|-;exact g
    .rw[aTs hqa] at g|-;exact ihb hz' g pQ
 |unit=>
  intro x z o q l h g hq;cases q with
  |zero=>
   unfold rC at g;rw[aUU (by intro e;cases e)] at g;cases g
  |succ q=>simp [rC] at g
 |_=>
  intro x z o q l h g hq;cases o with
  |zero=>
   unfold sI at h;split at h
   .rename_i e;subst e;cases q with
    |zero=>exact absurd ⟨aTO _,Nat.zero_lt_one⟩ hq
    |succ q=>simp [rC] at g
   .simp at h
  |succ o=>simp [sI] at h
theorem rN.store {side:List Prop}{rds:q8}{i:Nat}{u t:Ty}{x z:u.den}{y:t.den}{off:Nat}{toks:pV}{k:pZ}{p:Pl}{cy:pX}{v:qB}(hb:qO H i=some (.cells u x toks)) (hp:g.J i=some p)
  (hset:sI t y u x off=some z) (hy:Rd g w t y cy) (hk:DI g t y v k) (hk2: ∀a b,t= .pair a b->k=none) (hv:t.isRow=false->cy=[v]):
  rN g w H ⟨side,(.any,none),[(i,.cells u z (r6 (xU k off) (tK toks off t.cells)))],rds⟩ g (w.setCells p.1 (p.2+off) cy) undef/\w.there p.1 (p.2+off) cy.length:=by
 obtain⟨p',cs,hp',hR,hra,hth,hns,htk⟩:=hH.blk i _ hb;rw[hp] at hp';obtain rfl:=aTv hp';obtain⟨c1,c2,c3,hcs,hl1,hl2,hz⟩:=QA hy hR hset;subst hcs;subst hl1;have hcl:=sT hR;have hyl:=sT hy;simp only[aTt] at hcl;have hthere:w.there p.1 (p.2+c1.length) cy.length:=fun j hj=>by
  have:=hth.1 (c1.length+j) pQ;rwa [<-aT3] at this
 have hout: ∀b o,(b=p.1->o<p.2+c1.length\/p.2+c1.length+cy.length<=o)->(w.setCells p.1 (p.2+c1.length) cy).cell? ⟨b,o,none⟩=w.cell? ⟨b,o,none⟩:=fun b o h=>World.cell?_setCells_out p.1 cy _ w ⟨b,o,none⟩ (fun e _=>h e);have hin: ∀b o,b=p.1->p.2+c1.length<=o->o<p.2+c1.length+cy.length->sC g i (.cells u x toks) b o:=fun b o e h1 h2=>⟨p,hp,e,pQ,pQ⟩;have hsz:(w.setCells p.1 (p.2+c1.length) cy).heap.size=w.heap.size:=by
  have: ∀(l:pX) (o:Nat) (w:q9),(w.setCells p.1 o l).heap.size=w.heap.size:=by
   intro l
   induction l with
   |nil=>intro o w;rfl
   |cons v l ih=>intro o w;rw[World.setCells,ih];simp [World.setCell]
  exact this _ _ _
 have hbk: ∀b,b≠p.1->(w.setCells p.1 (p.2+c1.length) cy).heap[b]? =w.heap[b]? :=by
  intro b hb;have: ∀(l:pX) (o:Nat) (w:q9),(w.setCells p.1 o l).heap[b]? =w.heap[b]? :=by
   intro l
   induction l with
   |nil=>intro o w;rfl
   |cons v l ih=>intro o w;rw[World.setCells,ih];exact Below.heap_setCell _ _ _ _ hb
  exact this _ _ _
 have hos:(w.setCells p.1 (p.2+c1.length) cy).os=w.os/\(w.setCells p.1 (p.2+c1.length) cy).tape=w.tape/\(w.setCells p.1 (p.2+c1.length) cy).output=w.output:=by
  have: ∀(l:pX) (o:Nat) (w:q9),(w.setCells p.1 o l).os=w.os/\(w.setCells p.1 o l).tape=w.tape/\(w.setCells p.1 o l).output=w.output:=by
   intro l
   induction l with
   |nil=>intro o w;exact⟨rfl,rfl,rfl⟩
   |cons v l ih=>intro o w;rw[World.setCells];exact ih _ _
  exact this _ _ _
 have hiS: ∀b o,g.S b o->¬(b=p.1/\p.2<=o/\o<p.2+u.cells):=fun b o hs ⟨e,h1,h2⟩=>hns (o-p.2) pQ (by rw[show p.2+(o-p.2)=o from by omega,<-e];exact hs);have le:Le g w g (w.setCells p.1 (p.2+c1.length) cy):=⟨fun _ _ h=>h,fun b o h=>hout b o (fun e=>by
  have:=hiS b o h;rcases aUJ o (p.2+c1.length) with h1|h1
  .exact .inl h1
  rcases aUJ o (p.2+c1.length+cy.length) with h2|h2
  .exact absurd ⟨e,pQ,pQ⟩ this
  exact .inr h2),fun _ _ h=>h,fun _ _ _ h=>h⟩
 have hofI: ∀b o,sC g i (.cells u x toks) b o->sS g H (qQ [(i,qJ.cells u z (r6 (xU k c1.length) (tK toks c1.length t.cells)))]) b o:=fun b o h=>⟨i,_,by simp [qQ],hb,h⟩;have fr:Fr (sS g H (qQ [(i,qJ.cells u z (r6 (xU k c1.length) (tK toks c1.length t.cells)))])) w (w.setCells p.1 (p.2+c1.length) cy) g.S g.S:=by
  refine⟨hos.1,hos.2.1,hos.2.2,aUZ hsz.symm,fun b hb' hno=>?_,fun b o hb' hno=>⟨hout b o (fun e=>?_),World.frozen?_setCells _ _ _ _ _⟩,fun b o h=> .inl h,fun b s hs=> .inl ((QG _ _ _ _ _).trans hs)⟩
  .by_cases e:b=p.1
   .cases hcy:cy with
    |nil=>rfl
    |cons q l=>exact absurd (hofI b (p.2+c1.length) (hin b _ e (aTO _) (by rw[hcy];simp))) (hno _)
   exact hbk b e
  rcases aUJ o (p.2+c1.length) with h1|h1
  .exact .inl h1
  rcases aUJ o (p.2+c1.length+cy.length) with h2|h2
  .exact absurd (hofI b o (hin b o e h1 h2)) hno
  exact .inr h2
 have gho: ∀j,j∉qQ [(i,qJ.cells u z (r6 (xU k c1.length) (tK toks c1.length t.cells)))]->g.J j=g.J j/\g.cur j=g.cur j:=fun _ _=>⟨rfl,rfl⟩;have get: ∀j blk,j∈qQ [(i,qJ.cells u z (r6 (xU k c1.length) (tK toks c1.length t.cells)))]->qO (r6 [(i,qJ.cells u z (r6 (xU k c1.length) (tK toks c1.length t.cells)))] H) j=some blk->j=i/\blk= .cells u z (r6 (xU k c1.length) (tK toks c1.length t.cells)):=by
  intro j blk hi hg;simp only[qQ,aTH] at hi;subst hi;simp only[r6,qO,aU2,aTq] at hg;exact⟨rfl,hg.symm⟩
 have perm: ∀j blk b o,j∈qQ [(i,qJ.cells u z (r6 (xU k c1.length) (tK toks c1.length t.cells)))]->qO (r6 [(i,qJ.cells u z (r6 (xU k c1.length) (tK toks c1.length t.cells)))] H) j=some blk->sC g j blk b o->w.heap.size<=b\/sS g H (qQ [(i,qJ.cells u z (r6 (xU k c1.length) (tK toks c1.length t.cells)))]) b o:=by
  intro j blk b o hi hg ho;obtain⟨rfl,rfl⟩:=get j blk hi hg;exact .inr (hofI b o ho)
 refine⟨⟨le,⟨trivial,trivial⟩,hH.upd le fr perm gho (fun j blk hi hg=>?_) (fun i j bi bj b o hi hj hij hgi hgj _ _=>hij ((get i bi hi hgi).1.trans (get j bj hj hgj).1.symm)) (fun b o h=>by rw[hsz];exact hH.sl b o h),fr,perm,gho,fun j u' y' us h=>by
  simp only[r6,qO] at h;split at h
  .rename_i e1;subst e1;simp only[aTq,qJ.cells.injEq] at h;obtain⟨rfl,_⟩:=h;exact .inl ⟨x,toks,hb⟩
  exact .inl ⟨y',us,h⟩⟩,hthere⟩
 obtain⟨rfl,rfl⟩:=get j blk hi hg;refine⟨p,_,hp,wE le hz,fun q v hq=>?_,⟨fun q hq=>?_,fun h0 s hs=>(QG _ _ _ _ _).trans (hth.2 h0 s hs)⟩,hns,?_⟩
 .by_cases h1:q<c1.length
  .rw[hout _ _ (fun _=> .inl pQ)];refine hra q v ?_;rw[aTD,aTK h1] at hq|-;exact hq
  by_cases h2:q<c1.length+cy.length
  .have:=aUX p.1 cy (p.2+c1.length) w (fun j hj=>(hthere j hj).1) (q-c1.length) pQ;rw[show p.2+c1.length+(q-c1.length)=p.2+q from by omega] at this;rw[this];rw[aTD,aTA pQ,aTK pQ] at hq;rw[<-hq,aTy pQ]
  rw[hout _ _ (fun _=> .inr pQ)];refine hra q v ?_;rw[aTD,aTA pQ,aTA pQ] at hq|-;rw[hl2];rw[hyl] at hq;exact hq
 .have hh:=hth.1 q hq;refine⟨?_,by rw[World.frozen?_setCells];exact hh.2⟩;by_cases h1:q<c1.length\/c1.length+cy.length<=q
  .rw[hout _ _ (fun _=>by omega)];exact hh.1
  have:=aUX p.1 cy (p.2+c1.length) w (fun j hj=>(hthere j hj).1) (q-c1.length) pQ;rw[show p.2+c1.length+(q-c1.length)=p.2+q from by omega] at this;rw[this];rfl
 intro q kk hm;have hsplit:(q,kk)∈xU k c1.length\/(q,kk)∈tK toks c1.length t.cells:=by
  cases k with
  |none=>exact .inr (by simpa[xU,r6] using hm)
  |some k=>
   simp only[xU,r6,aTE] at hm;rcases hm with hm|hm
   .exact .inl (by simp [xU,hm])
   exact .inr hm
 rcases hsplit with hm|hm
 .cases k with
  |none=>simp [xU] at hm
  |some k=>
   simp only[xU,aTH,aTU] at hm;obtain⟨rfl,rfl⟩:=hm;cases t with
   |list t=>
    obtain rfl:=hv rfl;exact⟨t,y,v,aJC hH rfl hset,by simp,hk⟩
   |pair a b=>cases hk2 a b rfl
   |_=>exact hk.elim
 obtain⟨h1,h2⟩:=a02 hH hm;obtain⟨v',l,v1,g1,g2,g3⟩:=htk q kk h1;refine⟨v',l,v1,VA hH hset g1 h2,?_,g3⟩;rcases aUJ q c1.length with h3|h3
 .rw[aTD,aTK h3] at g2|-;exact g2
 have h4:c1.length+t.cells<=q:=by omega
 rw[aTD,aTA pQ,aTA pQ] at g2|-;rw[hyl];rw[hl2] at g2;exact g2
theorem A0.openS {side:List Prop}{rds:q8}{i:Nat}{u u0:Ty}{el:Nat}{kn:pY}{x:u.den}{z: Σ t:Ty,t.den}{off:Nat}{toks:pV}{p:Pl}{cy:pX}(hb:qO H i=some (.cells u x toks)) (hp:g.J i=some p)
  (hset:yK el u0 kn u x off=some z) (hy:BY g kn cy) (hyl:cy.length=1) (hre:IJ rds=true):
  A0 g w H ⟨side,(.any,none),[(i,.cells z.1 z.2 [])],rds⟩ g (w.setCells p.1 (p.2+off) cy) undef/\w.there p.1 (p.2+off) cy.length:=by
 obtain⟨p',cs,hp',hR,hra,hth,hns,htk⟩:=hH.blk i _ hb;rw[hp] at hp';obtain rfl:=aTv hp';obtain⟨c1,c2,c3,hcs,hl1,hl2,hz⟩:=aI0 hy hR hset;subst hcs;subst hl1;have hcl:=sT hR;have hcz:=aIZ hset;simp only[aTt] at hcl;have hthere:w.there p.1 (p.2+c1.length) cy.length:=fun j hj=>by
  have:=hth.1 (c1.length+j) pQ;rwa [<-aT3] at this
 have hout: ∀b o,(b=p.1->o<p.2+c1.length\/p.2+c1.length+cy.length<=o)->(w.setCells p.1 (p.2+c1.length) cy).cell? ⟨b,o,none⟩=w.cell? ⟨b,o,none⟩:=fun b o h=>World.cell?_setCells_out p.1 cy _ w ⟨b,o,none⟩ (fun e _=>h e);have hin: ∀b o,b=p.1->p.2+c1.length<=o->o<p.2+c1.length+cy.length->sC g i (.cells u x toks) b o:=fun b o e h1 h2=>⟨p,hp,e,pQ,pQ⟩;have hsz:(w.setCells p.1 (p.2+c1.length) cy).heap.size=w.heap.size:=by
  have: ∀(l:pX) (o:Nat) (w:q9),(w.setCells p.1 o l).heap.size=w.heap.size:=by
   intro l
   induction l with
   |nil=>intro o w;rfl
   |cons v l ih=>intro o w;rw[World.setCells,ih];simp [World.setCell]
  exact this _ _ _
 have hbk: ∀b,b≠p.1->(w.setCells p.1 (p.2+c1.length) cy).heap[b]? =w.heap[b]? :=by
  intro b hb;have: ∀(l:pX) (o:Nat) (w:q9),(w.setCells p.1 o l).heap[b]? =w.heap[b]? :=by
   intro l
   induction l with
   |nil=>intro o w;rfl
   |cons v l ih=>intro o w;rw[World.setCells,ih];exact Below.heap_setCell _ _ _ _ hb
  exact this _ _ _
 have hos:(w.setCells p.1 (p.2+c1.length) cy).os=w.os/\(w.setCells p.1 (p.2+c1.length) cy).tape=w.tape/\(w.setCells p.1 (p.2+c1.length) cy).output=w.output:=by
  have: ∀(l:pX) (o:Nat) (w:q9),(w.setCells p.1 o l).os=w.os/\(w.setCells p.1 o l).tape=w.tape/\(w.setCells p.1 o l).output=w.output:=by
   intro l
   induction l with
   |nil=>intro o w;exact⟨rfl,rfl,rfl⟩
   |cons v l ih=>intro o w;rw[World.setCells];exact ih _ _
  exact this _ _ _
 have hiS: ∀b o,g.S b o->¬(b=p.1/\p.2<=o/\o<p.2+u.cells):=fun b o hs ⟨e,h1,h2⟩=>hns (o-p.2) pQ (by rw[show p.2+(o-p.2)=o from by omega,<-e];exact hs);have le:Le g w g (w.setCells p.1 (p.2+c1.length) cy):=⟨fun _ _ h=>h,fun b o h=>hout b o (fun e=>by
  have:=hiS b o h;rcases aUJ o (p.2+c1.length) with h1|h1
  .exact .inl h1
  rcases aUJ o (p.2+c1.length+cy.length) with h2|h2
  .exact absurd ⟨e,pQ,pQ⟩ this
  exact .inr h2),fun _ _ h=>h,fun _ _ _ h=>h⟩
 have hofI: ∀b o,sC g i (.cells u x toks) b o->sS g H (qQ [(i,qJ.cells z.1 z.2 [])]) b o:=fun b o h=>⟨i,_,by simp [qQ],hb,h⟩;have fr:Fr (sS g H (qQ [(i,qJ.cells z.1 z.2 [])])) w (w.setCells p.1 (p.2+c1.length) cy) g.S g.S:=by
  refine⟨hos.1,hos.2.1,hos.2.2,aUZ hsz.symm,fun b hb' hno=>?_,fun b o hb' hno=>⟨hout b o (fun e=>?_),World.frozen?_setCells _ _ _ _ _⟩,fun b o h=> .inl h,fun b s hs=> .inl ((QG _ _ _ _ _).trans hs)⟩
  .by_cases e:b=p.1
   .cases hcy:cy with
    |nil=>rfl
    |cons q l=>exact absurd (hofI b (p.2+c1.length) (hin b _ e (aTO _) (by rw[hcy];simp))) (hno _)
   exact hbk b e
  rcases aUJ o (p.2+c1.length) with h1|h1
  .exact .inl h1
  rcases aUJ o (p.2+c1.length+cy.length) with h2|h2
  .exact absurd (hofI b o (hin b o e h1 h2)) hno
  exact .inr h2
 have gho: ∀j,j∉qQ [(i,qJ.cells z.1 z.2 [])]->g.J j=g.J j/\g.cur j=g.cur j:=fun _ _=>⟨rfl,rfl⟩;have get: ∀j blk,j∈qQ [(i,qJ.cells z.1 z.2 [])]->qO (r6 [(i,qJ.cells z.1 z.2 [])] H) j=some blk->j=i/\blk= .cells z.1 z.2 []:=by
  intro j blk hi hg;simp only[qQ,aTH] at hi;subst hi;simp only[r6,qO,aU2,aTq] at hg;exact⟨rfl,hg.symm⟩
 have perm: ∀j blk b o,j∈qQ [(i,qJ.cells z.1 z.2 [])]->qO (r6 [(i,qJ.cells z.1 z.2 [])] H) j=some blk->sC g j blk b o->w.heap.size<=b\/sS g H (qQ [(i,qJ.cells z.1 z.2 [])]) b o:=by
  intro j blk b o hi hg ho;obtain⟨rfl,rfl⟩:=get j blk hi hg;obtain⟨q,hq,e1,e2,e3⟩:=ho;rw[hcz] at e3;exact .inr (hofI b o ⟨q,hq,e1,e2,e3⟩)
 refine⟨⟨le,⟨trivial,trivial⟩,hH.upd le fr perm gho (fun j blk hi hg=>?_) (fun i j bi bj b o hi hj hij hgi hgj _ _=>hij ((get i bi hi hgi).1.trans (get j bj hj hgj).1.symm)) (fun b o h=>by rw[hsz];exact hH.sl b o h),fr,perm,gho,fun h=>by rw[hre] at h;cases h⟩,hthere⟩;obtain⟨rfl,rfl⟩:=get j blk hi hg;refine⟨p,_,hp,wE le hz,fun q v hq=>?_,⟨fun q hq=>?_,fun h0 s hs=>(QG _ _ _ _ _).trans (hth.2 (by rw[<-hcz];exact h0) s hs)⟩,fun q hq=>hns q (by rw[<-hcz];exact hq),fun _ _ hm=>by cases hm⟩
 .by_cases h1:q<c1.length
  .rw[hout _ _ (fun _=> .inl pQ)];refine hra q v ?_;rw[aTD,aTK h1] at hq|-;exact hq
  by_cases h2:q<c1.length+cy.length
  .have:=aUX p.1 cy (p.2+c1.length) w (fun j hj=>(hthere j hj).1) (q-c1.length) pQ;rw[show p.2+c1.length+(q-c1.length)=p.2+q from by omega] at this;rw[this];rw[aTD,aTA pQ,aTK pQ] at hq;rw[<-hq,aTy pQ]
  rw[hout _ _ (fun _=> .inr pQ)];refine hra q v ?_;rw[aTD,aTA pQ,aTA pQ] at hq|-;rw[hl2];rw[hyl] at hq;exact hq
 have hh:=hth.1 q (by rw[<-hcz];exact hq);refine⟨?_,by rw[World.frozen?_setCells];exact hh.2⟩;by_cases h1:q<c1.length\/c1.length+cy.length<=q
 .rw[hout _ _ (fun _=>by omega)];exact hh.1
 have:=aUX p.1 cy (p.2+c1.length) w (fun j hj=>(hthere j hj).1) (q-c1.length) pQ;rw[show p.2+c1.length+(q-c1.length)=p.2+q from by omega] at this;rw[this];rfl
end
end Go.Proofs.YtcpbaddnmpeipaaGreatDoor.Vc
