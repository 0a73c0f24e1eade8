/- Packed by a program of mine (wip/tools/pack.py): the same texts with short names and few blanks. -/
import Derived.Below
import Derived.Calls
import Derived.Deep.MidRow
import Derived.Deep.Upon
import Derived.Laws.AppendOwn
import Derived.Laws.BitsLemmas
import Derived.Laws.OwnMore
import Derived.MapKept
import Derived.Shelf.Unicode.DecodeSlow
import Derived.Still
import Derived.WalkKit
set_option linter.defProp false
set_option linter.unusedVariables false
set_option linter.unusedSimpArgs false
set_option linter.unusedSectionVars false
set_option maxRecDepth 100000
set_option maxHeartbeats 4000000
namespace Go.Proofs
abbrev pG:=List UInt8
abbrev pH:=List pG
def aU7:=@_root_.Option.bind_some
def aU8:=@_root_.if_pos
def aU9:=@_root_.Option.some.injEq
def aVa:=@_root_.if_neg
def aVb:=@_root_.Option.isSome_iff_exists
def aVc:=@_root_.List.length_append
def aVd:=@_root_.List.length_cons
def aVe:=@_root_.Option.some.inj
def aVf:=@_root_.decide_eq_true_eq
def aVg:=@_root_.Bool.and_eq_true
def aVh:=@_root_.List.length_drop
def aVi:=@_root_.List.append_assoc
def aVj:=@_root_.List.getElem?_eq_getElem
def aVk:=@_root_.Go.Result.andThen_ok
def aVl:=@_root_.List.getElem?_append_right
def aVm:=@_root_.List.mem_singleton
def aVn:=@_root_.Go.Sem.run_bind
def aVo:=@_root_.Option.map_eq_some_iff
def aVp:=@_root_.Nat.le_refl
def aVq:=@_root_.List.getElem?_eq_some_iff
def aVr:=@_root_.List.mem_cons_of_mem
def aVs:=@_root_.List.mem_cons
def aVt:=@_root_.List.getElem?_append_left
def aVu:=@_root_.Go.run_underlying
def aVv:=@_root_.List.length_nil
def aVw:=@_root_.List.mem_cons_self
def aVx:=@_root_.List.length_take
def aVy:=@_root_.List.getD_eq_getElem?_getD
def aVz:=@_root_.Array.getElem?_eq_some_iff
def aVA:=@_root_.List.drop_eq_getElem_cons
def aVB:=@_root_.Go.World.cell?_of_block
def aVC:=@_root_.Go.Sem.run_pure
def aVD:=@_root_.Prod.mk.injEq
def aVE:=@_root_.List.eq_nil_of_length_eq_zero
def aVF:=@_root_.Nat.zero_add
def aVG:=@_root_.Bool.not_eq_true'
def aVH:=@_root_.Go.RowKit.Below.heap_alloc
def aVI:=@_root_.List.getElem?_cons_zero
def aVJ:=@_root_.Array.length_toList
def aVK:=@_root_.Array.getD_eq_getD_getElem?
def aVL:=@_root_.congrArg
def aVM:=@_root_.List.findIdx?_eq_some_iff_getElem
def aVN:=@_root_.Int.toNat_natCast
def aVO:=@_root_.decide_eq_false_iff_not
def aVP:=@_root_.Nat.lt_of_lt_of_le
def aVQ:=@_root_.List.drop_drop
def aVR:=@_root_.List.drop_length
def aVS:=@_root_.Nat.add_assoc
def aVT:=@_root_.List.length_singleton
def aVU:=@_root_.of_decide_eq_true
def aVV:=@_root_.List.getElem?_cons_succ
def aVW:=@_root_.Int.le_refl
def aVX:=@_root_.Nat.zero_le
def aVY:=@_root_.Nat.add_sub_cancel_left
def aVZ:=@_root_.Bool.or_eq_true
def aV0:=@_root_.List.reverse_cons
def aV1:=@_root_.List.any_eq_false
def aV2:=@_root_.List.singleton_append
def aV3:=@_root_.List.size_toArray
def aV4:=@_root_.List.all_eq_true
def aV5:=@_root_.List.take_append_of_le_length
def aV6:=@_root_.Bool.not_eq_true
def aV7:=@_root_.Nat.le_trans
def aV8:=@_root_.List.cons.injEq
def aV9:=@_root_.List.getElem_mem
def aWa:=@_root_.List.mem_append
def aWb:=@_root_.Go.World.frozen?_of_block
def aWc:=@_root_.Go.IntKind.wrap_i64
def aWd:=@_root_.List.findIdx?_cons
def aWe:=@_root_.List.pairwise_iff_getElem
def aWf:=@_root_.List.drop_zero
def aWg:=@_root_.Go.run_program
def aWh:=@_root_.decide_eq_true
def aWi:=@_root_.Nat.succ_mul
def aWj:=@_root_.Array.getElem?_toList
def aWk:=@_root_.Bool.eq_iff_iff
def aWl:=@_root_.List.findIdx?_eq_none_iff
def aWm:=@_root_.Nat.lt_or_ge
def aWn:=@_root_.List.take_append_drop
def aWo:=@_root_.List.getElem?_eq_none
def aWp:=@_root_.Array.toList_inj
def aWq:=@_root_.List.map_cons
def aWr:=@_root_.Bool.or_eq_false_iff
def aWs:=@_root_.Nat.add_zero
def aWt:=@_root_.Go.Addr.add_mid
def aWu:=@_root_.List.take_left
def aWv:=@_root_.Go.IntKind.wrap_u8
def aWw:=@_root_.Bool.not_eq_false'
def aWx:=@_root_.Bool.false_eq_true
def aWy:=@_root_.List.pairwise_append
def aWz:=@_root_.Option.getD_some
def aWA:=@_root_.List.length_eq_one_iff
def aWB:=@_root_.List.length_pos_iff
def aWC:=@_root_.List.flatMap_cons
def aWD:=@_root_.Array.getElem?_setIfInBounds_ne
def aWE:=@_root_.Go.World.cell?_alloc_new
def aWF:=@_root_.List.length_map
def aWG:=@_root_.Bool.and_eq_false_iff
def aWH:=@_root_.Array.getElem?_modify
def aWI:=@_root_.Array.toArray_toList
def aWJ:=@_root_.Go.World.cell?_setCells_in
def aWK:=@_root_.List.pairwise_singleton
def aWL:=@_root_.List.length_eq_zero_iff
def aWM:=@_root_.Go.setRow_other
def aWN:=@_root_.List.flatten_cons
def aWO:=@_root_.Nat.le_of_eq
def aWP:=@_root_.Classical.choose_spec
def aWQ:=@_root_.if_true
def aWR:=@_root_.List.drop_left
def aWS:=@_root_.List.drop_succ_cons
def aWT:=@_root_.Go.wpIn_mono
def aWU:=@_root_.List.range'_succ
def aWV:=@_root_.List.mem_range
def aWW:=@_root_.dif_neg
def aWX:=@_root_.List.pairwise_cons
def aWY:=@_root_.List.getElem?_take
def aWZ:=@_root_.Bool.false_ne_true
def aW0:=@_root_.Array.getElem?_setIfInBounds
def aW1:=@_root_.Nat.le_of_ble_eq_true
def aW2:=@_root_.Go.Addr.add_lit
def aW3:=@_root_.Nat.lt_irrefl
def aW4:=@_root_.Int.tmod_eq_emod_of_nonneg
def aW5:=@_root_.Nat.mul_le_mul_right
def aW6:=@_root_.Bool.false_and
def aW7:=@_root_.Array.getElem?_eq_getElem
def aW8:=@_root_.decide_eq_decide
def aW9:=@_root_.List.not_mem_nil
def aXa:=@_root_.List.mem_toArray
def aXb:=@_root_.Go.setRow_heap
def aXc:=@_root_.List.getElem_of_mem
def aXd:=@_root_.Nat.sub_self
def aXe:=@_root_.List.getElem?_take_of_lt
def aXf:=@_root_.Array.getElem?_push_size
def aXg:=@_root_.List.append_inj
def aXh:=@_root_.Array.foldl_toList
def aXi:=@_root_.Go.Value.slice.injEq
def aXj:=@_root_.Nat.mul_one
def aXk:=@_root_.Array.size_append
def aXl:=@_root_.Go.heap_alloc_new
def aXm:=@_root_.dif_pos
def aXn:=@_root_.if_false
def aXo:=@_root_.beq_iff_eq
theorem pJ{p:Prop}(h:p:=by omega):p:=h
theorem pK{p:Prop}(h:p:=by decide):p:=h
theorem pL{p:Prop}(h:p:=by simp):p:=h
theorem pM{p:Prop}(h:p:=by simp;omega):p:=h
theorem pW{p:Prop}(h:p:=by first|rfl|trivial):p:=h
theorem pX{p:Prop}(h:p:=by kernel_rfl):p:=h
theorem pY{p:Prop}(h:p:=by rfl):p:=h
theorem pI{a:Type}{p q r:a->Prop}(k:a)(h1:p k:=by rfl)(h2:q k:=by rfl)(h3:r k:=by rfl): ∃k,p k/\q k/\r k:=⟨k,h1,h2,h3⟩
abbrev pN:=List (pG×Bool)
abbrev pO:=List (Nat×Nat)
abbrev pP:=List Int
abbrev pQ:=List Value
abbrev pR:=Option (Nat×Nat)
abbrev pS:=Option Nat
abbrev pT:=List Nat
abbrev pU:=World
abbrev pV:=Value
end Go.Proofs
namespace Go.Proofs.YtbbpilohihldiaaGreatDoor.Vc
def NG:Nat:=6
def a95:Nat:=106
def a96:List (Nat×Nat×pV):=[(5,15,.int .u8 4)]
def aJ0 (w:pU):Prop:= ∀x∈a96,x.1<NG/\w.cell? ⟨x.1,x.2.1,none⟩=some x.2.2
def KO (w:pU):Prop:=NG<=w.heap.size/\Lib.Utf8Tabs 1 2 w/\(∃m,w.cell? ⟨0,0,none⟩=some (.int .i64 m))/\aJ0 w
theorem PY {w w':pU}(h:KO w) (hs:w.heap.size<=w'.heap.size) (hb: ∀b,b<NG->w'.heap[b]? =w.heap[b]?):KO w':=by
 obtain⟨h0,⟨h1,h2⟩,⟨m,h3⟩,h4⟩:=h;have hc: ∀b o,b<NG->w'.cell? ⟨b,o,none⟩=w.cell? ⟨b,o,none⟩:=fun b o h=>aVB (a:=⟨b,o,none⟩) (hb b h);refine⟨aV7 h0 hs,⟨fun c hc'=> ?_,fun i hi=>⟨?_,?_⟩⟩,⟨m,?_⟩,fun x hx=>⟨(h4 x hx).1,(hc _ _ (h4 x hx).1).trans (h4 x hx).2⟩⟩
 .rw[hc _ _ pK];exact h1 c hc'
 .rw[hc _ _ pK];exact(h2 i hi).1
 .rw[hc _ _ pK];exact(h2 i hi).2
 .rw[hc _ _ pK];exact h3
attribute [go_sem] a95
inductive Ty where
 |bool|int (k:IntKind) |str|list (t:Ty) |unit|pair (a b:Ty) |ref|clo|mp|rl (e:Nat) (t:Ty) |mref|fn
 deriving DecidableEq
abbrev Ty.den:Ty->Type
 | .bool=>Bool
 | .int _=>Int
 | .str=>pG
 | .list t=>List t.den
 | .unit=>Unit
 | .pair a b=>a.den×b.den
 | .ref=>pR
 | .clo=>Option (Nat×pO)
 | .mp=>pS
 | .rl _ _=>pR
 | .fn=>pS
 | .mref=>pR
@[go_sem] def Ty.cells:Ty->Nat
 | .unit=>0
 | .pair a b=>a.cells+b.cells
 | .bool| .int _| .str| .list _| .ref| .clo| .mp| .rl _ _| .mref| .fn=>1
@[go_sem] def Ty.zero:(t:Ty)->t.den
 | .bool=>false
 | .int _=>(0:Int)
 | .str=>[]
 | .list _=>[]
 | .unit=>()
 | .pair a b=>(a.zero,b.zero)
 | .ref=>none
 | .clo=>none
 | .mp=>none
 | .rl _ _=>none
 | .fn=>none
 | .mref=>none
@[go_sem] def Ty.isRow:Ty->Bool
 | .unit| .pair _ _=>true
 | .bool| .int _| .str| .list _| .ref| .clo| .mp| .rl _ _| .mref| .fn=>false
@[go_sem] def Ty.pure:Ty->Bool
 | .ref| .clo| .mp| .rl _ _| .mref=>false
 | .list t=>t.pure
 | .pair a b=>a.pure&&b.pure
 | .bool| .int _| .str| .unit| .fn=>true
def rC (t:Ty) (l:List t.den) (i:Int):t.den:=l.getD i.toNat t.zero
def r7 (l:pG) (i:Int):Int:=((l.getD i.toNat 0).toNat:Int)
def uV {t u:Ty}(h:t=u) (x:t.den):u.den:=h▸x
@[go_sem] theorem MW {t:Ty}(x:t.den):uV (rfl:t=t) x=x:=rfl
@[go_sem] def rN (u:Ty):(t:Ty)->t.den->Nat->Option u.den
 |t,x,0=>if h:t=u then some (uV h x) else match t,x with
  | .pair a b,x=>if 0<a.cells then rN u a x.1 0 else rN u b x.2 0
  |_,_=>none
 | .pair a b,x,o+1=>if o+1<a.cells then rN u a x.1 (o+1) else rN u b x.2 (o+1-a.cells)
 |_,_,_=>none
@[go_sem] def sW (u:Ty) (y:u.den):(t:Ty)->t.den->Nat->Option t.den
 |t,x,0=>if h:u=t then some (uV h y) else match t,x with
  | .pair a b,x=>if 0<a.cells then(sW u y a x.1 0).map (fun z=>(z,x.2)) else(sW u y b x.2 0).map (fun z=>(x.1,z))
  |_,_=>none
 | .pair a b,x,o+1=>if o+1<a.cells then(sW u y a x.1 (o+1)).map (fun z=>(z,x.2)) else(sW u y b x.2 (o+1-a.cells)).map (fun z=>(x.1,z))
 |_,_,_=>none
@[go_sem] def Ty.proj:(t:Ty)->t.den->Nat->Option (Σ u:Ty,u.den)
 | .pair a _,x,0=>some ⟨a,x.1⟩
 | .pair _ b,x,i+1=>b.proj x.2 i
 |_,_,_=>none
@[go_sem] def Ty.offs:Ty->Nat->pS
 | .pair _ _,0=>some 0
 | .pair a b,i+1=>(b.offs i).map fun o=>a.cells+o
 |_,_=>none
@[go_sem] def Ty.fld:Ty->Nat->Option Ty
 | .pair a _,0=>some a
 | .pair _ b,i+1=>b.fld i
 |_,_=>none
@[go_sem] def Ty.setPart (u:Ty) (y:u.den):(t:Ty)->t.den->Nat->Option t.den
 | .pair a b,x,0=>if h:u=a then some (uV h y,x.2) else none
 | .pair a b,x,i+1=>(Ty.setPart u y b x.2 i).map fun z=>(x.1,z)
 |_,_,_=>none
inductive DV where
 |any
 |nilS
 |val (t:Ty) (x:t.den)
 |at (t:Ty) (x:t.den)
 |tup (l:List ((Σ t:Ty,t.den)×pS))
 |cond (p:Bool) (d:DV)
 |flag (p q:Prop)
 |own (k n:Nat)
 |elt (k n c:Nat) (i:Int) (o:Nat)
 |nxt (b:Bool) (p c:Int)
abbrev qI:=DV×pS
inductive qH where
 |cells (t:Ty) (x:t.den) (toks:pO)
 |grow (e:TypeId) (c:Nat) (n:Nat)
 |row (e:TypeId) (t:Ty) (l:List t.den) (n:Nat)
 |map (k v:Ty) (l:List (k.den×v.den))
 |iter (s:pG) (p:Nat)
 |dead
structure St where
 env:List (Nat×qI)
 H:List (Nat×qH)
 nb:Nat
 N:Nat
 np:Nat:=0
@[go_sem] def lk:List (Nat×qI)->Nat->qI
 |[],_=>(.any,none)
 |(k,s)::r,t=>if k=t then s else lk r t
@[go_sem] def qM:List (Nat×qH)->Nat->Option qH
 |[],_=>none
 |(k,s)::r,t=>if k=t then some s else qM r t
structure TI where
 ty:Ty
 elem:TypeId:=0
 bytes:Nat:=0
 arr:Bool:=false
 ls:List (Nat×TypeId×Nat):=[]
abbrev sX:=List (Nat×TI)
@[go_sem] def s8:sX->TypeId->Option TI
 |[],_=>none
 |(k,s)::r,t=>if k=t then some s else s8 r t
inductive PK where
 |v|own|p (t:Ty) (os:pT) |m|r|f (ks:List (Ty×pT))
structure qQ where
 side:List Prop
 ret:List qI
 H:List qH
structure rI where
 ps:List PK
 C:List qI->List qH->Option qQ
 gs:List (Nat×Nat×PK):=[]
 same:pT:=[]
 row:Option ((t:Ty)->List t.den->Option (List t.den)):=none
abbrev uW:=Nat->Option rI
structure qT where
 side:List Prop
 slot:qI
 upd:List (Nat×qH)
 rds:pT
@[go_sem] def IT:pT->Bool
 |[]=>false
 |i::_=>if i=1000000000 then true else false
@[go_sem] def orE:Option qT->Option qT->Option qT
 |some r,_=>some r
 |none,r=>r
@[go_sem] def C6:Option (List Prop×DV)->Option qT
 |some (p,d)=>some ⟨p,(d,none),[],[]⟩
 |none=>none
@[go_sem] def YY:pV->DV
 | .bool b=> .val .bool b
 | .int k n=> .val (.int k) n
 | .string s=> .val .str s.data.toList
 | .slice none 0 0=> .nilS
 | .pointer none=> .val .ref none
 | .nilFunc=> .val .clo none
 | .map none=> .val .mp none
 |_=> .any
@[go_sem] def uE (env:List (Nat×qI)):Operand->qI
 | .tmp t=>lk env t
 | .const v=>(YY v,none)
 | .func f=>(.val .clo (some (f,[])),none)
 | .global _=>(.any,none)
@[go_sem] def PZ:Option TI->qI->qI
 |some ⟨.list t,_,_,_,_⟩,(.nilS,_)=>(.val (.list t) [],none)
 |_,s=>s
@[go_sem] def KP:IntKind->Int->List Prop×DV
 | .i64,n=>([-9223372036854775808<=n/\n<=9223372036854775807],.val (.int .i64) n)
 |k,n=>([],.val (.int k) (k.wrap n))
@[go_sem] def rD {α:Type}:List α->List α->List α
 |[],m=>m
 |x::l,m=>x::rD l m
@[go_sem] def CZ:(t:Ty)->t.den->t.den->Option Bool
 | .bool,a,b=>some (a==b)
 | .int _,a,b=>some (decide ((a:Int)=b))
 | .str,a,b=>some (decide ((a:pG)=b))
 | .unit,_,_=>some true
 | .pair s t,a,b=>eqAnd (CZ s a.1 b.1) (CZ t a.2 b.2)
 |_,_,_=>none
where
 eqAnd:Option Bool->Option Bool->Option Bool
  |some x,some y=>some (x&&y)
  |_,_=>none
attribute [go_sem] CZ.eqAnd
@[go_sem] def YZ (k:IntKind) (a b:Int):BinOp->Option (List Prop×DV)
 | .add=>some (KP k (a+b))
 | .sub=>some (KP k (a-b))
 | .mul=>some (KP k (a*b))
 | .eql=>some ([],.val .bool (decide (a=b)))
 | .neq=>some ([],.val .bool (!decide (a=b)))
 | .lss=>some ([],.val .bool (decide (a<b)))
 | .leq=>some ([],.val .bool (decide (a<=b)))
 | .gtr=>some ([],.val .bool (decide (b<a)))
 | .geq=>some ([],.val .bool (decide (b<=a)))
 | .quo=>some ([b≠0],.val (.int k) (k.wrap (Int.tdiv a b)))
 | .rem=>some ([b≠0],.val (.int k) (Int.tmod a b))
 | .and=>some ([],.val (.int k) (bits .and k a b))
 | .or=>some ([],.val (.int k) (bits .or k a b))
 | .xor=>some ([],.val (.int k) (bits .xor k a b))
 | .andNot=>some ([],.val (.int k) (bits .andNot k a b))
 |_=>none
def Z0 (k:IntKind) (a b:Int):Int:=k.wrap (a*2^min b.toNat k.bits)
def yC (k:IntKind) (a b:Int):Int:=a.fdiv (2^min b.toNat k.bits)
@[go_sem] def a98 (k:IntKind) (a:Int) (k':IntKind) (b:Int):BinOp->Option (List Prop×DV)
 | .shl=>some ([0<=b],.val (.int k) (Z0 k a b))
 | .shr=>some ([0<=b],.val (.int k) (yC k a b))
 |op=>if k=k' then YZ k a b op else none
@[go_sem] def Z1 (a b:pG):BinOp->Option (List Prop×DV)
 | .add=>some ([((a++b).length:Int)<=9223372036854775807],.val .str (a++b))
 | .eql=>some ([],.val .bool (decide (a=b)))
 | .neq=>some ([],.val .bool (!decide (a=b)))
 | .lss=>some ([],.val .bool (Op.bytesLess a b))
 | .leq=>some ([],.val .bool (Op.bytesLess a b||decide (a=b)))
 | .gtr=>some ([],.val .bool (!(Op.bytesLess a b||decide (a=b))))
 | .geq=>some ([],.val .bool (!Op.bytesLess a b))
 |_=>none
@[go_sem] def a99:BinOp->Option Bool->Option (List Prop×DV)
 | .eql,some r=>some ([],.val .bool r)
 | .neq,some r=>some ([],.val .bool (!r))
 |_,_=>none
@[go_sem] def TM (op:BinOp):qI->qI->Option (List Prop×DV)
 |(.val (.int k) a,_),(.val (.int k') b,_)=>a98 k a k' b op
 |(.val .str a,_),(.val .str b,_)=>Z1 a b op
 |_,_=>none
@[go_sem] def aAa (u:Ty) (b:Nat) (op:BinOp) (t t':Ty) (x:t.den) (y:t'.den):Option (List Prop×DV):=
 if h:t'=t then(if t=u/\(t= .bool\/(t.isRow=true/\b=1)) then a99 op (CZ t x (uV h y)) else none) else none
@[go_sem] def TN {α:Type}(l:List α):BinOp->Option (List Prop×DV)
 | .eql=>some ([],.flag (l=[]) True)
 | .neq=>some ([],.flag True (l=[]))
 |_=>none
@[go_sem] def Z2:Option TI->BinOp->qI->qI->Option (List Prop×DV)
 |some ⟨.list _,_,_,_,_⟩,op,(.val (.list _) l,_),(.nilS,_)=>TN l op
 |some ⟨.list _,_,_,_,_⟩,op,(.nilS,_),(.val (.list _) l,_)=>TN l op
 |some ⟨u,_,b,_,_⟩,op,(.val t x,_),(.val t' y,_)=>aAa u b op t t' x y
 |_,_,_,_=>none
@[go_sem] def aAb:Option (List Prop×DV)->Option (List Prop×DV)->Option (List Prop×DV)
 |some r,_=>some r
 |none,r=>r
@[go_sem] def Z3:UnOp->qI->Option (List Prop×DV)
 | .not,(.val .bool b,_)=>some ([],.val .bool (!b))
 | .neg,(.val (.int k) n,_)=>some (KP k (-(n:Int)))
 |_,_=>none
def tE (l:pP):pG:=l.map fun n=>UInt8.ofNat n.toNat
def tV (s:pG):pP:=s.map fun b=>(b.toNat:Int)
@[go_sem] def TO:Option TI->Option TI->qI->Option (List Prop×DV)
 |some _,some ⟨.int k,_,_,_,_⟩,(.val (.int _) n,_)=>some ([],.val (.int k) (k.wrap n))
 |some _,some ⟨.str,_,_,_,_⟩,(.val .str s,_)=>some ([],.val .str s)
 |_,_,_=>none
@[go_sem] def aAc (l:pP):Option TI->Option (List Prop×DV)
 |some ⟨.int .u8,_,_,_,_⟩=>some ([],.val .str (tE l))
 |_=>none
@[go_sem] def Z4 (T:sX):Option TI->Option TI->qI->Option (List Prop×DV)
 |some ⟨.list (.int .u8),e,_,_,_⟩,some ⟨.str,_,_,_,_⟩,(.val (.list (.int .u8)) l,_)=>aAc l (s8 T e)
 |_,_,_=>none
def qV {α:Type}(l:List α) (lo hi:Int):List α:=(l.drop lo.toNat).take (hi.toNat-lo.toNat)
@[go_sem] def ET:Option qI->Int->Option Int
 |none,d=>some d
 |some (.val (.int _) n,_),_=>some n
 |_,_=>none
@[go_sem] def TP (t:Ty) (n:Nat) (f:Int->Int->t.den):Option Int->Option Int->Option (List Prop×DV)
 |some a,some b=>some ([0<=a/\a<=b/\b<=(n:Int)],.val t (f a b))
 |_,_=>none
@[go_sem] def Z5:Option TI->qI->Option qI->Option qI->Option (List Prop×DV)
 |some ⟨.str,_,_,_,_⟩,(.val .str l,_),lo,hi=>TP .str (List.length l) (qV l) (ET lo 0) (ET hi (List.length l))
 |some ⟨.list u,_,_,_,_⟩,(.val (.list t) l,_),lo,hi=>if t=u then TP (.list t) (List.length l) (qV l) (ET lo 0) (ET hi (List.length l)) else none
 |_,_,_,_=>none
@[go_sem] def TQ (t:Ty) (x:t.den) (i:Nat):Option Ty->Option t.den
 |some (.list u)=>Ty.setPart (.list u) [] t x i
 |_=>none
@[go_sem] def BL (t:Ty):Option t.den->List (Nat×qI)->Option t.den
 |some x,[]=>some x
 |some x,(i,(.val u y,_))::r=>BL t (Ty.setPart u y t x i) r
 |some x,(i,(.nilS,_))::r=>BL t (TQ t x i (t.fld i)) r
 |_,_=>none
@[go_sem] def DX (t:Ty):Nat->List t.den
 |0=>[]
 |n+1=>t.zero::DX t n
@[go_sem] def aAd (t:Ty) (n:Nat) (l:List t.den) (i:Nat) (u:Ty) (y:u.den):Option (List t.den):=if h:u=t/\i<n then some (l.set i (uV h.1 y)) else none
@[go_sem] def C7 (t:Ty) (n:Nat):Option (List t.den)->List (Nat×qI)->Option (List t.den)
 |some l,[]=>some l
 |some l,(i,(.val u y,_))::r=>C7 t n (aAd t n l i u y) r
 |_,_=>none
attribute [go_sem] List.set_cons_zero List.set_cons_succ
@[go_sem] def KQ:List qI->Option pO
 |[]=>some []
 |(.val .ref (some p),_)::r=>(KQ r).map (p:: ·)
 |_=>none
@[go_sem] def xO:pO->Nat->pS
 |[],_=>none
 |(o,k)::r,a=>if o=a then some k else xO r a
@[go_sem] def xX:pS->Nat->pO
 |some k,o=>[(o,k)]
 |none,_=>[]
@[go_sem] def vT:pO->Nat->Nat->pO
 |[],_,_=>[]
 |(q,k)::r,o,n=>if o<=q/\q<o+n then vT r o n else(q,k)::vT r o n
@[go_sem] def H8:Ty->pS->pS
 | .list _,k=>k
 |_,_=>none
@[go_sem] def zV {α:Type}:List α->List α->List α
 |[],acc=>acc
 |x::l,acc=>zV l (x::acc)
inductive rU where
 |box (id:Nat) (u:Ty) (x:u.den) (toks:pO) (o:Nat)
 |tok (id:Nat)
@[go_sem] def rU.id:rU->Nat
 | .box i _ _ _ _=>i
 | .tok k=>k
@[go_sem] def DY:Nat->pT->Bool
 |_,[]=>false
 |i,j::r=>if i=j then true else DY i r
@[go_sem] def sI:List rU->pT
 |[]=>[]
 |w::r=>w.id::sI r
structure tH where
 args:List qI
 H:List qH
 ws:List rU
 n:Nat
@[go_sem] def KR:pT->Nat->pO
 |[],_=>[]
 |q::qs,n=>(q,n)::KR qs (n+1)
@[go_sem] def D0 (k:Nat):Option qH->Option tH->Option tH
 |some (.grow e c m),some a=>if DY k (sI a.ws)=true then none else some ⟨a.args,.grow e c m::a.H,.tok k::a.ws,a.n+1⟩
 |_,_=>none
@[go_sem] def zW (H:List (Nat×qH)):pS->Option tH->Option tH
 |some k,a=>D0 k (qM H k) a
 |none,_=>none
@[go_sem] def yT (H:List (Nat×qH)) (toks:pO) (o:Nat):pT->Option tH->Option tH
 |[],a=>a
 |q::qs,a=>yT H toks o qs (zW H (xO toks (o+q)) a)
@[go_sem] def MX (n:Nat):pT->Bool
 |[]=>true
 |q::qs=>decide (q<n)&&MX n qs
@[go_sem] def FZ (H:List (Nat×qH)) (t:Ty) (os:pT) (i o:Nat) (u:Ty) (x:u.den) (toks:pO) (a:tH):Option t.den->Option tH
 |some y=>if (MX t.cells os&& !DY i (sI a.ws))=true then yT H toks o os (some ⟨(.val .ref (some (a.n,0)),none)::a.args,.cells t y (KR os (a.n+1))::a.H,.box i u x toks o::a.ws,a.n+1⟩) else none
 |none=>none
@[go_sem] def w6 (H:List (Nat×qH)) (t:Ty) (os:pT) (i o:Nat) (a:tH):Option qH->Option tH
 |some (.cells u x toks)=>FZ H t os i o u x toks a (rN t u x o)
 |_=>none
@[go_sem] def D1 (t:Ty) (x:t.den) (k:Nat) (a:tH):Option qH->Option tH
 |some (.grow e c m)=>if (t.pure&& !DY k (sI a.ws))=true then some ⟨(.val t x,some a.n)::a.args,.grow e c m::a.H,.tok k::a.ws,a.n+1⟩ else none
 |_=>none
@[go_sem] def TR (t:Ty) (x:t.den) (a:tH):Option tH:=
 if t.pure=true then some ⟨(.val t x,none)::a.args,a.H,a.ws,a.n⟩ else none
@[go_sem] def TS (f:FuncId) (a:tH):Option tH:=some ⟨(.val .clo (some (f,[])),none)::a.args,a.H,a.ws,a.n⟩
@[go_sem] def D2 (i:Nat) (a:tH):Option qH->Option tH
 |some (.map k v l)=>if (k.pure&&v.pure&& !DY i (sI a.ws))=true then some ⟨(.val .mp (some a.n),none)::a.args,.map k v l::a.H,.tok i::a.ws,a.n+1⟩ else none
 |_=>none
@[go_sem] def D3 (k n:Nat) (a:tH):Option qH->Option tH
 |some (.row e t l m)=>if (t.pure&& !DY k (sI a.ws))=true then some ⟨(.own a.n n,none)::a.args,.row e t l m::a.H,.tok k::a.ws,a.n+1⟩ else none
 |_=>none
@[go_sem] def xY (H:List (Nat×qH)) (f:FuncId) (args:List qI):List (Ty×pT)->pO->pO->Option tH->Option tH
 |[],[],ids,some a=>some ⟨(.val .clo (some (f,zV ids [])),none)::args,a.H,a.ws,a.n⟩
 |(t,os)::ks,(i,o)::cs,ids,some a=>xY H f args ks cs ((a.n,0)::ids) (w6 H t os i o a (qM H i))
 |_,_,_,_=>none
@[go_sem] def yD (H:List (Nat×qH)) (a:tH):PK->qI->Option tH
 | .v,(.val .clo (some (f,[])),_)=>TS f a
 | .v,(.val t x,_)=>TR t x a
 | .own,(.val t x,some k)=>D1 t x k a (qM H k)
 | .p t os,(.val .ref (some (i,o)),_)=>w6 H t os i o a (qM H i)
 | .m,(.val .mp (some i),_)=>D2 i a (qM H i)
 | .r,(.own k n,_)=>D3 k n a (qM H k)
 | .f ks,(.val .clo (some (f,cs)),_)=>xY H f a.args ks cs [] (some a)
 |_,_=>none
@[go_sem] def xZ (H:List (Nat×qH)):List PK->List qI->Option tH->Option tH
 |_,_,none=>none
 |[],[],some a=>some a
 |p::ps,s::ss,some a=>xZ H ps ss (yD H a p s)
 |_,_,some _=>none
@[go_sem] def aJ1:Option pR->qI
 |some (some p)=>(.val .ref (some p),none)
 |_=>(.any,none)
@[go_sem] def aJ2:Option pS->qI
 |some (some i)=>(.val .mp (some i),none)
 |_=>(.any,none)
@[go_sem] def aJ3:Option pR->qI
 |some (some (k,n))=>(.own k n,none)
 |_=>(.any,none)
@[go_sem] def H9:(t:Ty)->t.den->Nat->Option pR
 | .rl _ _,x,0=>some x
 | .pair a b,x,o=>if o<a.cells then H9 a x.1 o else H9 b x.2 (o-a.cells)
 |_,_,_=>none
@[go_sem] def KS (q:Nat):PK->Option qH->qI
 | .r,some (.cells t y _)=>aJ3 (H9 t y q)
 | .p _ _,some (.cells t y _)=>aJ1 (rN .ref t y q)
 | .m,some (.cells t y _)=>aJ2 (rN .mp t y q)
 |_,_=>(.any,none)
@[go_sem] def IU:List qH->Nat->Option qH
 |[],_=>none
 |b::_,0=>some b
 |_::r,n+1=>IU r n
@[go_sem] def MY (l:List qI):Option tH->Option tH
 |some a=>some ⟨l,a.H,a.ws,a.n⟩
 |none=>none
@[go_sem] def C8 (H:List (Nat×qH)):List (Nat×Nat×PK)->Option tH->Option tH
 |_,none=>none
 |[],some a=>some a
 |(c,q,pk)::r,some a=>C8 H r (MY a.args (yD H a pk (KS q pk (IU a.H (a.n-1-c)))))
@[go_sem] def HA (i o:Nat):List rU->Nat->pR
 |[],_=>none
 | .box j _ _ _ oc::r,c=>if j=i/\oc<=o then some (c,o-oc) else HA i o r (c+1)
 | .tok _::r,c=>HA i o r (c+1)
@[go_sem] def wJ (i:Nat):List rU->Nat->pS
 |[],_=>none
 | .tok j::r,c=>if j=i then some c else wJ i r (c+1)
 | .box _ _ _ _ _::r,c=>wJ i r (c+1)
@[go_sem] def KT {α β:Type}:Option α->Option β->Option (α×β)
 |some a,some b=>some (a,b)
 |_,_=>none
@[go_sem] def TT (W:List rU):pR->Option pR
 |none=>some none
 |some (i,o)=>(HA i o W 0).map some
@[go_sem] def aAe (W:List rU):pS->Option pS
 |none=>some none
 |some i=>(wJ i W 0).map some
@[go_sem] def aAf (W:List rU):pR->Option pR
 |none=>some none
 |some (k,n)=>(wJ k W 0).map fun c=>some (c,n)
@[go_sem] def Q0:Option (Nat×pO)->Option (Option (Nat×pO))
 |none=>some none
 |some (f,[])=>some (some (f,[]))
 |_=>none
@[go_sem] def DZ (W:List rU):(t:Ty)->t.den->Option t.den
 | .ref,x=>TT W x
 | .clo,x=>Q0 x
 | .mp,x=>aAe W x
 | .pair a b,x=>KT (if a.pure=true then some x.1 else DZ W a x.1) (if b.pure=true then some x.2 else DZ W b x.2)
 | .list t,x=>if t.pure=true then some x else none
 | .bool,x=>some x
 | .int _,x=>some x
 | .str,x=>some x
 | .unit,x=>some x
 | .rl _ _,x=>aAf W x
 | .fn,x=>some x
 | .mref,x=>TT W x
@[go_sem] def Z6:Option qH->Option (List qH)->Option (List qH)
 |some b,some l=>some (b::l)
 |_,_=>none
@[go_sem] def aJ4 (t:Ty) (ts:pO):Option t.den->Option qH
 |some y=>some (.cells t y ts)
 |none=>none
@[go_sem] def TU (W:List rU):qH->Option qH
 | .cells t y ts=>if t.pure=true then some (.cells t y ts) else aJ4 t ts (DZ W t y)
 |b=>some b
@[go_sem] def IV (W:List rU):List qH->Option (List qH)
 |[]=>some []
 |b::r=>Z6 (TU W b) (IV W r)
@[go_sem] def BM:List rU->Nat->Option rU
 |[],_=>none
 |w::_,0=>some w
 |_::r,n+1=>BM r n
@[go_sem] def MZ (n:Nat) (c:Nat):Option rU->Bool
 |some _=>false
 |none=>decide (c<n)
@[go_sem] def BN (base n c:Nat):Option rU->pS
 |some (.box _ _ _ _ _)=>none
 |some (.tok k)=>some k
 |none=>if c<n then some (base+c) else none
@[go_sem] def aAg (base n c o:Nat):Option rU->qI
 |some (.box i _ _ _ o')=>(.val .ref (some (i,o'+o)),none)
 |wh=>if MZ n c wh=true then(.val .ref (some (base+c,o)),none) else(.any,none)
@[go_sem] def KU (base n:Nat) (W:List rU):pS->pS
 |some c=>BN base n c (BM W c)
 |none=>none
@[go_sem] def aJ5 (m:Nat):pS->qI
 |some k=>(.own k m,none)
 |none=>(.any,none)
@[go_sem] def aJ6:pS->qI
 |some k=>(.val .mp (some k),none)
 |none=>(.any,none)
@[go_sem] def Z7 (base n c o:Nat):Option rU->pR
 |some (.box i _ _ _ o')=>some (i,o'+o)
 |wh=>if MZ n c wh=true then some (base+c,o) else none
@[go_sem] def aJ7:pR->Option pO->Option pO
 |some p,some l=>some (p::l)
 |_,_=>none
@[go_sem] def N0 (base n:Nat) (W:List rU):pO->Option pO
 |[]=>some []
 |(c,o)::r=>aJ7 (Z7 base n c o (BM W c)) (N0 base n W r)
@[go_sem] def aJ8 (f:Nat):Option pO->qI
 |some l=>(.val .clo (some (f,l)),none)
 |none=>(.any,none)
@[go_sem] def TV (base n:Nat) (W:List rU):qI->qI
 |(.own c m,_)=>aJ5 m (KU base n W (some c))
 |(.val .ref (some (c,o)),_)=>aAg base n c o (BM W c)
 |(.val .ref none,_)=>(.val .ref none,none)
 |(.val .mp (some c),_)=>aJ6 (KU base n W (some c))
 |(.val .clo (some (f,cs)),_)=>aJ8 f (N0 base n W cs)
 |(.val t x,k)=>if t.pure=true then(.val t x,KU base n W (H8 t k)) else(.any,none)
 |_=>(.any,none)
@[go_sem] def aJ9 (q:Nat):pS->pO->pO
 |some k,r=>(q,k)::r
 |none,r=>r
@[go_sem] def EU (base n:Nat) (W:List rU) (o:Nat):pO->pO
 |[]=>[]
 |(q,c)::r=>aJ9 (o+q) (BN base n c (BM W c)) (EU base n W o r)
@[go_sem] def KV (base n:Nat) (W:List rU):pR->Option pR
 |none=>some none
 |some (c,o)=>back2 c o (BM W c)
where
 back2 (c o:Nat):Option rU->Option pR
  |some (.box i _ _ _ o')=>some (some (i,o'+o))
  |wh=>if MZ n c wh=true then some (some (base+c,o)) else none
attribute [go_sem] KV.back2
@[go_sem] def aAh (base n:Nat) (W:List rU):pS->Option pS
 |none=>some none
 |some c=>(BN base n c (BM W c)).map some
@[go_sem] def aAi (base n:Nat) (W:List rU):pR->Option pR
 |none=>some none
 |some (c,q)=>(BN base n c (BM W c)).map fun k=>some (k,q)
@[go_sem] def D4 (base n:Nat) (W:List rU):(t:Ty)->t.den->Option t.den
 | .ref,x=>KV base n W x
 | .clo,x=>Q0 x
 | .mp,x=>aAh base n W x
 | .pair a b,x=>KT (if a.pure=true then some x.1 else D4 base n W a x.1) (if b.pure=true then some x.2 else D4 base n W b x.2)
 | .list t,x=>if t.pure=true then some x else none
 | .bool,x=>some x
 | .int _,x=>some x
 | .str,x=>some x
 | .unit,x=>some x
 | .rl _ _,x=>aAi base n W x
 | .fn,x=>some x
 | .mref,x=>KV base n W x
@[go_sem] def TW (i o:Nat) (u t:Ty) (toks ts:pO):Option u.den->Option (Nat×qH)
 |some z=>some (i,.cells u z (rD ts (vT toks o t.cells)))
 |none=>none
@[go_sem] def aAj (i:Nat) (t:Ty) (ts:pO):Option t.den->Option (Nat×qH)
 |some y=>some (i,.cells t y ts)
 |none=>none
@[go_sem] def EV (base n c:Nat) (W:List rU):qH->Option (Nat×qH)
 | .cells t y ts=>if t.pure=true then some (base+c,.cells t y (EU base n W 0 ts)) else aAj (base+c) t (EU base n W 0 ts) (D4 base n W t y)
 | .grow e m k=>some (base+c,.grow e m k)
 | .row e t l n=>if t.pure=true then some (base+c,.row e t l n) else none
 | .map k v l=>if (k.pure&&v.pure)=true then some (base+c,.map k v l) else none
 | .iter _ _=>none
 | .dead=>some (base+c,.dead)
@[go_sem] def AP (k:Nat):qH->Option (Nat×qH)
 | .cells _ _ _=>none
 | .grow e m n=>some (k,.grow e m n)
 | .row e t l n=>if t.pure=true then some (k,.row e t l n) else none
 | .map s v l=>if (s.pure&&v.pure)=true then some (k,.map s v l) else none
 | .iter _ _=>none
 | .dead=>some (k,.dead)
@[go_sem] def aAk (i o:Nat) (u t:Ty) (toks ts:pO) (x:u.den):Option t.den->Option (Nat×qH)
 |some y=>TW i o u t toks ts (sW t y u x o)
 |none=>none
@[go_sem] def y3 (base n i o:Nat) (W:List rU) (u:Ty) (x:u.den) (toks:pO):qH->Option (Nat×qH)
 | .cells t y ts=>if t.pure=true then TW i o u t toks (EU base n W o ts) (sW t y u x o) else aAk i o u t toks (EU base n W o ts) x (D4 base n W t y)
 | .dead=>some (i,.dead)
 | .grow _ _ _=>none
 | .row _ _ _ _=>none
 | .map _ _ _=>none
 | .iter _ _=>none
@[go_sem] def Q1:Option (Nat×qH)->Option (List (Nat×qH))->Option (List (Nat×qH))
 |some q,some r=>some (q::r)
 |_,_=>none
@[go_sem] def C9 (base n:Nat) (W:List rU):Nat->List rU->List qH->Option (List (Nat×qH))
 |_,[],[]=>some []
 |c,[],b::L=>Q1 (EV base n c W b) (C9 base n W (c+1) [] L)
 |c,.box i u x toks o::ws,b::L=>Q1 (y3 base n i o W u x toks b) (C9 base n W (c+1) ws L)
 |c,.tok k::ws,b::L=>Q1 (AP k b) (C9 base n W (c+1) ws L)
 |_,_::_,[]=>none
@[go_sem] def KW:List qI->Option (List ((Σ t:Ty,t.den)×pS))
 |[]=>some []
 |(.val t x,k)::r=>(KW r).map ((⟨t,x⟩,k):: ·)
 |_=>none
@[go_sem] def aKa:Option (List ((Σ t:Ty,t.den)×pS))->qI
 |some q=>(.tup q,none)
 |none=>(.any,none)
@[go_sem] def N1:List qI->Option qI
 |[]=>some (.tup [],none)
 |[s]=>some s
 |s::s'::l=>some (aKa (KW (s::s'::l)))
@[go_sem] def Z8 (W:List rU):pT->pT
 |[]=>[]
 |c::r=>sameId (BM W c) (Z8 W r)
where
 sameId:Option rU->pT->pT
  |some w,r=>w.id::r
  |none,r=>r
attribute [go_sem] Z8.sameId
@[go_sem] def Q2 (side:List Prop) (rds:pT):Option (List (Nat×qH))->Option qI->Option qT
 |some H,some s=>some ⟨side,s,H,rds⟩
 |_,_=>none
@[go_sem] def Q3 (base n:Nat) (W:List rU):List qI->List qI
 |[]=>[]
 |s::r=>TV base n W s::Q3 base n W r
@[go_sem] def rF:List qH->Nat
 |[]=>0
 |_::r=>rF r+1
@[go_sem] def TX (base:Nat) (W:List rU) (sm:pT):Option qQ->Option qT
 |some r=>Q2 r.side (rD (sI W) (Z8 W sm)) (C9 base (rF r.H) W 0 W r.H) (N1 (Q3 base (rF r.H) W r.ret))
 |none=>none
@[go_sem] def TY (C:List qI->List qH->Option qQ) (sm:pT) (base:Nat) (W:List rU) (args:List qI):Option (List qH)->Option qT
 |some L=>TX base W sm (C args L)
 |none=>none
@[go_sem] def Q4 (C:List qI->List qH->Option qQ) (sm:pT) (base:Nat):Option tH->Option qT
 |some a=>TY C sm base (zV a.ws []) (zV a.args []) (IV (zV a.ws []) (zV a.H []))
 |none=>none
@[go_sem] def HB (H:List (Nat×qH)) (base:Nat) (args:List qI):Option rI->Option qT
 |some g=>Q4 g.C g.same base (C8 H g.gs (xZ H g.ps args (some ⟨[],[],[],0⟩)))
 |none=>none
@[go_sem] def Q5:List PK->List qI->pS
 | .r::ps,_::ss=>Q5 ps ss
 |_::_,(.own k _,_)::_=>some k
 |_::ps,_::ss=>Q5 ps ss
 |_,_=>none
@[go_sem] def aAl (k:Nat) (t:Ty) (l:List t.den):qI->qI
 |(.own j m,x)=>if j=k then(.val (.list t) l,none) else(.own j m,x)
 |s=>s
@[go_sem] def Q6 (k:Nat) (t:Ty) (l:List t.den):List qI->List qI
 |[]=>[]
 |s::r=>aAl k t l s::Q6 k t l r
@[go_sem] def KX (k n:Nat):List qI->List Prop
 |[]=>[]
 |(.own j m,_)::r=>(j=k->m=n)::KX k n r
 |_::r=>KX k n r
@[go_sem] def IW:Ty->Bool
 | .list _=>false
 | .pair a b=>IW a&&IW b
 | .bool| .int _| .str| .unit| .fn=>true
 | .ref| .clo| .mp| .rl _ _| .mref=>false
@[go_sem] def qO:List (Nat×qH)->pT
 |[]=>[]
 |(i,_)::r=>i::qO r
@[go_sem] def N2:List (Nat×qH)->Bool
 |[]=>true
 |(_,.cells t _ [])::r=>IW t&&N2 r
 |_=>false
@[go_sem] def Z9 (sd:List Prop) (k:Nat):Option qT->Option qT
 |some ⟨side,(.val t x,_),U,rds⟩=>if (IW t&&N2 U&& !DY k (qO U))=true then some ⟨rD sd side,(.val t x,none),U,k::rds⟩ else none
 |_=>none
@[go_sem] def Q7 (H:List (Nat×qH)) (base:Nat) (args:List qI) (g:rI) (k:Nat):Option qH->Option qT
 |some (.row _ t l m)=>Z9 (KX k m args) k (HB ((k,.dead)::H) base (Q6 k t l args) (some g))
 |_=>none
@[go_sem] def aAm (H:List (Nat×qH)) (base:Nat) (args:List qI) (g:rI):pS->Option qT
 |some k=>Q7 H base args g k (qM H k)
 |none=>HB H base args (some g)
@[go_sem] def aAn (k n m e:Nat) (t:Ty):Option (List t.den)->Option qT
 |some l=>some ⟨[n=m,m<4611686018427387904],(.tup [],none),[(k,.row e t l m)],[k]⟩
 |none=>none
@[go_sem] def ZA (F:(t:Ty)->List t.den->Option (List t.den)) (k n:Nat):Option qH->Option qT
 |some (.row e t l m)=>aAn k n m e t (F t l)
 |_=>none
@[go_sem] def TZ (H:List (Nat×qH)) (F:(t:Ty)->List t.den->Option (List t.den)):List qI->Option qT
 |[(.own k n,_)]=>ZA F k n (qM H k)
 |_=>none
@[go_sem] def ZB (base:Nat):Option TI->qI->Option qT
 |some ⟨.list u,e,_,true,_⟩,(.nilS,_)=>some ⟨[],(.own base 0,none),[(base,.row e u [] 0)],[]⟩
 |some ⟨.list u,e,_,false,_⟩,(.nilS,_)=>some ⟨[],(.val (.list u) [],some base),[(base,.grow e u.cells 0)],[]⟩
 |_,(.nilS,_)=>none
 |_,s=>some ⟨[],s,[],[]⟩
@[go_sem] def G0:Ty->Nat->Bool
 | .list _,0=>true
 | .pair a b,o=>if o<a.cells then G0 a o else G0 b (o-a.cells)
 |_,_=>false
@[go_sem] def G1 (t:Ty):List (Nat×TypeId×Nat)->Bool
 |[]=>true
 |(o,_,_)::r=>G0 t o&&G1 t r
@[go_sem] def D5:List (Nat×TypeId×Nat)->Nat->pO
 |[],_=>[]
 |(o,_,_)::r,i=>(o,i)::D5 r (i+1)
@[go_sem] def EW:List (Nat×TypeId×Nat)->Nat->List (Nat×qH)
 |[],_=>[]
 |(_,e,c)::r,i=>rD (EW r (i+1)) [(i,.grow e c 0)]
@[go_sem] def ZC (e:Nat):Bool:=if e=84 then true else if e=a95 then true else false
@[go_sem] def ZD (e:Nat) (u:Ty) (o:Nat):pR->List (Nat×Nat×Ty)
 |none=>[(o,e,u)]
 |some _=>[]
@[go_sem] def G2:(t:Ty)->t.den->Nat->List (Nat×Nat×Ty)
 | .rl e u,x,o=>ZD e u o x
 | .pair a b,x,o=>rD (G2 a x.1 o) (G2 b x.2 (o+a.cells))
 |_,_,_=>[]
@[go_sem] def ZE (o:Nat):pR->pT
 |none=>[o]
 |some _=>[]
@[go_sem] def HC:(t:Ty)->t.den->Nat->pT
 | .mref,x,o=>ZE o x
 | .pair a b,x,o=>rD (HC a x.1 o) (HC b x.2 (o+a.cells))
 |_,_,_=>[]
@[go_sem] def aAo:Nat->pT->pT
 |2,[0]=>[0]
 |_,_=>[]
@[go_sem] def U0 (el:Nat) (t:Ty) (y:t.den):pT:=if ZC el=true then aAo t.cells (HC t y 0) else[]
@[go_sem] def KY (t:Ty):Nat->List (Nat×Nat×Ty)->Option t.den->Option t.den
 |_,[],x=>x
 |i,(o,e,u)::r,some x=>KY t (i+1) r (sW (.rl e u) (some (i,0)) t x o)
 |_,_::_,none=>none
@[go_sem] def IX (t:Ty) (i:Nat):pT->Option t.den->Option t.den
 |[],x=>x
 |q::r,some x=>IX t i r (sW .mref (some (i,q)) t x q)
 |_::_,none=>none
@[go_sem] def KZ:List (Nat×Nat×Ty)->Nat->List (Nat×qH)
 |[],_=>[]
 |(_,e,u)::r,i=>rD (KZ r (i+1)) [(i,.row e u [] 0)]
@[go_sem] def Q8 {α:Type}:List α->Nat
 |[]=>0
 |_::r=>Q8 r+1
@[go_sem] def aAp (base:Nat) (t:Ty) (ls:List (Nat×TypeId×Nat)) (R:List (Nat×Nat×Ty)):Option t.den->Option qT
 |some z=>some ⟨[],(.val .ref (some (base,0)),none),(base,.cells t z (D5 ls (base+1)))::rD (KZ R (base+1+Q8 ls)) (EW ls (base+1)),[]⟩
 |none=>none
@[go_sem] def U1 (base el:Nat) (t:Ty) (y:t.den) (ls:List (Nat×TypeId×Nat)):Bool->Option qT
 |true=>aAp base t ls (G2 t y 0) (IX t base (U0 el t y) (KY t (base+1+Q8 ls) (G2 t y 0) (some y)))
 |false=>none
@[go_sem] def aAq (base el:Nat) (ls:List (Nat×TypeId×Nat)):(t:Ty)->t.den->pS->Option qT
 | .pair a b,y,some _=>U1 base el (.pair a b) y ls (G1 (.pair a b) ls)
 | .list u,y,k=>some ⟨[],(.val .ref (some (base,0)),none),[(base,.cells (.list u) y (xX k 0))],[]⟩
 |t,y,_=>some ⟨[],(.val .ref (some (base,0)),none),[(base,.cells t y [])],[]⟩
@[go_sem] def ZF (base el:Nat):Option TI->Option qT
 |some ⟨.list u,e,_,_,_⟩=>some ⟨[],(.val .ref (some (base,0)),none),[(base,.cells (.list u) [] [(0,base+1)]),(base+1,.grow e u.cells 0)],[]⟩
 |some ti=>U1 base el ti.ty ti.ty.zero ti.ls (G1 ti.ty ti.ls)
 |none=>none
@[go_sem] def ZG (base el:Nat):Option TI->qI->Option qT
 |some ti,(.val t y,k)=>if t=ti.ty then aAq base el ti.ls t y k else none
 |_,_=>none
@[go_sem] def N3:Ty->Bool
 | .list _=>true
 | .pair a b=>N3 a||N3 b
 | .bool| .int _| .str| .unit| .ref| .clo| .mp| .rl _ _| .mref| .fn=>false
@[go_sem] def CA:List (Nat×qI)->Bool
 |[]=>true
 |(_,(.nilS,_))::r=>CA r
 |(_,(.val u _,_))::r=> !N3 u&&CA r
 |_=>false
@[go_sem] def ZH:Ty->Bool->pS
 | .pair _ _,true=>some 0
 |_,_=>none
@[go_sem] def aKb (t:Ty) (k:pS):Option t.den->Option qT
 |some x=>some ⟨[],(.val t x,k),[],[]⟩
 |none=>none
@[go_sem] def ZI (sl:List (Nat×qI)):Option TI->Option qT
 |some ti=>if ti.ty.isRow=true then aKb ti.ty (ZH ti.ty (CA sl)) (BL ti.ty (some ti.ty.zero) sl) else none
 |none=>none
@[go_sem] def U2 (base e c n:Nat) (t:Ty):Option (List t.den)->Option qT
 |some l=>if n<=16777216/\n*c<=16777216 then some ⟨[],(.val (.list t) l,some base),[(base,.grow e c n)],[]⟩ else none
 |none=>none
@[go_sem] def aAr (base e n:Nat) (t:Ty):Option (List t.den)->Option qT
 |some l=>if t.pure=true/\n<=16777216/\n*t.cells<=16777216 then some ⟨[],(.own base n,none),[(base,.row e t l n)],[]⟩ else none
 |none=>none
@[go_sem] def ZJ (base n:Nat) (sl:List (Nat×qI)):Option TI->Option qT
 |some ⟨.list u,e,_,true,_⟩=>if n=0 then aAr base e n u (C7 u n (some (DX u n)) sl) else U2 base e u.cells n u (C7 u n (some (DX u n)) sl)
 |some ⟨.list u,e,_,false,_⟩=>U2 base e u.cells n u (C7 u n (some (DX u n)) sl)
 |_=>none
@[go_sem] def aAs (t:Ty) (k:pS) (i:Nat):Option t.den->Option qT
 |some y=>some ⟨[],(.val t y,k),[],[i]⟩
 |none=>none
@[go_sem] def Q9 (t:Ty) (i off:Nat):Option qH->Option qT
 |some (.cells u x toks)=>aAs t (H8 t (xO toks off)) i (rN t u x off)
 |_=>none
@[go_sem] def aAt (u:Ty) (k n m:Nat):Option u.den->Option qT
 |some y=>some ⟨[n=m],(.val u y,none),[],[k]⟩
 |none=>none
@[go_sem] def QA (u:Ty) (k n c:Nat) (i:Int) (o:Nat):Option qH->Option qT
 |some (.row _ t l m)=>if c=t.cells then aAt u k n m (rN u t (rC t l i) o) else none
 |_=>none
@[go_sem] def ZK (i:Nat):Option pR->Option qT
 |some (some (k,n))=>some ⟨[],(.own k n,none),[],[i]⟩
 |_=>none
@[go_sem] def U3 (i off:Nat):TI->Option qH->Option qT
 |⟨.list u,e,_,_,_⟩,some (.cells v x _)=>ZK i (rN (.rl e u) v x off)
 |_,_=>none
@[go_sem] def ZL (k:Nat) (u0:Ty) (l:List u0.den) (e:Nat) (u:Ty):pR-> Σ t:Ty,t.den
 |some (j,n)=>if j=k/\u=u0 then⟨.list u0,l⟩ else⟨.rl e u,some (j,n)⟩
 |none=>⟨.rl e u,none⟩
@[go_sem] def BO (k:Nat) (u0:Ty) (l:List u0.den):(t:Ty)->t.den-> Σ t:Ty,t.den
 | .rl e u,x=>ZL k u0 l e u x
 | .pair a b,x=>if (Ty.pair a b).pure=true then⟨.pair a b,x⟩ else⟨.pair (BO k u0 l a x.1).1 (BO k u0 l b x.2).1,((BO k u0 l a x.1).2,(BO k u0 l b x.2).2)⟩
 |t,x=>⟨t,x⟩
@[go_sem] def aKc (k n:Nat):pR->Prop
 |some (j,m)=>j=k->m=n
 |none=>True
@[go_sem] def QB (k n:Nat):(t:Ty)->t.den->Prop
 | .rl _ _,x=>aKc k n x
 | .pair a b,x=>QB k n a x.1/\QB k n b x.2
 |_,_=>True
@[go_sem] def ZM:pR->pR->pR
 |some p,_=>some p
 |none,q=>q
@[go_sem] def CB:(t:Ty)->t.den->pR
 | .rl _ _,x=>x
 | .pair a b,x=>ZM (CB a x.1) (CB b x.2)
 |_,_=>none
@[go_sem] def ZN (u0:Ty) (l:List u0.den) (u:Ty):pR->Option (Σ t:Ty,t.den)
 |some _=>if u=u0 then some ⟨.list u0,l⟩ else none
 |none=>none
@[go_sem] def L1 (a b:Ty) (x:a.den) (y:b.den):pR->Option (Σ t:Ty,t.den)->Option (Σ t:Ty,t.den)->Option (Σ t:Ty,t.den)
 |some _,some ⟨a',x'⟩,_=>some ⟨.pair a' b,(x',y)⟩
 |some _,none,_=>none
 |none,_,some ⟨b',y'⟩=>some ⟨.pair a b',(x,y')⟩
 |none,_,none=>none
@[go_sem] def zX (u0:Ty) (l:List u0.den):(t:Ty)->t.den->Option (Σ t:Ty,t.den)
 | .rl _ u,x=>ZN u0 l u x
 | .pair a b,x=>L1 a b x.1 x.2 (CB a x.1) (zX u0 l a x.1) (zX u0 l b x.2)
 |_,_=>none
@[go_sem] def ZO (t:Ty) (i k:Nat) (sd:Prop) (e:TypeId) (c n:Nat) (v:Ty) (x:v.den):Option t.den->Option qT
 |some y=>some ⟨[sd],(.val t y,none),[(i,.cells v x []),(k,.grow e c n)],[1000000000,i,k]⟩
 |none=>none
@[go_sem] def ZP (t:Ty) (i off k:Nat) (sd:Prop) (e:TypeId) (c n:Nat):Option (Σ t:Ty,t.den)->Option qT
 |some ⟨v,x⟩=>ZO t i k sd e c n v x (rN t v x off)
 |none=>none
@[go_sem] def U4 (t:Ty) (i off k n0:Nat) (v:Ty) (x:v.den):Option qH->Option qT
 |some (.row e u0 l m)=>ZP t i off k (n0=m) e u0.cells (List.length l) (zX u0 l v x)
 |_=>none
@[go_sem] def U5 (H:List (Nat×qH)) (t:Ty) (i off:Nat) (v:Ty) (x:v.den):pR->Option qT
 |some (k,n0)=>U4 t i off k n0 v x (qM H k)
 |none=>none
@[go_sem] def IY (H:List (Nat×qH)) (t:Ty) (i off:Nat):Option qH->Option qT
 |some (.cells v x _)=>U5 H t i off v x (CB v x)
 |_=>none
@[go_sem] def orS (H:List (Nat×qH)) (t:Ty) (i off:Nat) (b:Option qH):Option qT->Option qT
 |some r=>some r
 |none=>IY H t i off b
@[go_sem] def U6 (H:List (Nat×qH)):Option TI->qI->Option qT
 |some ti,(.elt k n c i o,_)=>QA ti.ty k n c i o (qM H k)
 |some ti,(.at u x,_)=>if u=ti.ty then some ⟨[],(.val u x,none),[],[]⟩ else none
 |some ti,(.val .ref (some (i,off)),_)=>orS H ti.ty i off (qM H i) (orE (Q9 ti.ty i off (qM H i)) (U3 i off ti (qM H i)))
 |_,_=>none
@[go_sem] def U7 (u:Ty) (i:Nat) (toks:pO):Option u.den->Option qT
 |some z=>some ⟨[],(.any,none),[(i,.cells u z toks)],[i]⟩
 |none=>none
@[go_sem] def U8 (t:Ty) (y:t.den) (k:pS) (i off:Nat):Option qH->Option qT
 |some (.cells u x toks)=>U7 u i (rD (xX (H8 t k) off) (vT toks off t.cells)) (sW t y u x off)
 |_=>none
@[go_sem] def N4 (off:Nat):pO->pO
 |[]=>[]
 |(o,k)::r=>(off+o,k)::N4 off r
@[go_sem] def aAv (u:Ty) (i:Nat) (nt toks:pO) (bs:List (Nat×qH)):Option u.den->Option qT
 |some z=>some ⟨[],(.any,none),(i,.cells u z (rD nt toks))::rD bs [(i,.cells u z toks)],[i]⟩
 |none=>none
@[go_sem] def U9 (t:Ty) (y:t.den) (ls:List (Nat×TypeId×Nat)) (base i off:Nat):Option qH->Bool->Option qT
 |some (.cells u x toks),true=>aAv u i (N4 off (D5 ls base)) (vT toks off t.cells) (EW ls base) (sW t y u x off)
 |_,_=>none
@[go_sem] def UA (base i off:Nat) (b:Option qH):List (Nat×TypeId×Nat)->(t:Ty)->t.den->pS->Option qT
 |q::r,.pair a c,y,some _=>U9 (.pair a c) y (q::r) base i off b (G1 (.pair a c) (q::r))
 |_,t,y,k=>U8 t y k i off b
@[go_sem] def aAw (k n m:Nat) (e:TypeId) (t:Ty) (l:List t.den) (i:Int):Option t.den->Option qT
 |some z=>some ⟨[n=m],(.any,none),[(k,.row e t (l.set i.toNat z) m)],[k]⟩
 |none=>none
@[go_sem] def UB (u:Ty) (y:u.den) (k n c:Nat) (i:Int) (o:Nat):Option qH->Option qT
 |some (.row e t l m)=>if c=t.cells then aAw k n m e t l i (sW u y t (rC t l i) o) else none
 |_=>none
@[go_sem] def ZQ (b:Ty) (y:b.den):Option (Σ t:Ty,t.den)->Option (Σ t:Ty,t.den)
 |some ⟨a,x⟩=>some ⟨.pair a b,(x,y)⟩
 |none=>none
@[go_sem] def ZR (a:Ty) (x:a.den):Option (Σ t:Ty,t.den)->Option (Σ t:Ty,t.den)
 |some ⟨b,y⟩=>some ⟨.pair a b,(x,y)⟩
 |none=>none
@[go_sem] def yE (e:Nat) (u:Ty) (kn:pR):(t:Ty)->t.den->Nat->Option (Σ t:Ty,t.den)
 | .list v,_,0=>if v=u then some ⟨.rl e u,kn⟩ else none
 | .pair a b,x,o=>if o<a.cells then ZQ b x.2 (yE e u kn a x.1 o) else ZR a x.1 (yE e u kn b x.2 (o-a.cells))
 |_,_,_=>none
@[go_sem] def ZS (i:Nat):Option (Σ t:Ty,t.den)->Option qT
 |some ⟨v,z⟩=>some ⟨[],(.any,none),[(i,.cells v z [])],[1000000000,i]⟩
 |none=>none
@[go_sem] def orO (i off k n e:Nat) (u v:Ty) (x:v.den):Option qT->Option qT
 |some r=>some r
 |none=>ZS i (yE e u (some (k,n)) v x off)
@[go_sem] def ZT (i off k n:Nat):TI->Option qH->Option qT
 |⟨.list u,e,_,_,_⟩,some (.cells v x toks)=>orO i off k n e u v x (U7 v i (vT toks off 1) (sW (.rl e u) (some (k,n)) v x off))
 |_,_=>none
@[go_sem] def UC (base:Nat) (H:List (Nat×qH)):Option TI->qI->qI->Option qT
 |some ti,(.val .ref (some (i,off)),_),(.own k n,_)=>ZT i off k n ti (qM H i)
 |some ti,(.elt k n c i o,_),(.val t y,_)=>if t=ti.ty then UB t y k n c i o (qM H k) else none
 |some ti,(.val .ref (some (i,off)),_),(.val t y,k)=>if t=ti.ty then UA base i off (qM H i) ti.ls t y k else none
 |_,_,_=>none
@[go_sem] def ZU:qI->Option qT
 |(.val .ref (some p),_)=>some ⟨[],(.val .ref (some p),none),[],[]⟩
 |(.at t x,_)=>some ⟨[],(.at t x,none),[],[]⟩
 |(.elt k n c i o,_)=>some ⟨[],(.elt k n c i o,none),[],[]⟩
 |_=>none
@[go_sem] def aAy (f:FuncId):Option pO->Option qT
 |some l=>some ⟨[],(.val .clo (some (f,l)),none),[],[]⟩
 |none=>none
@[go_sem] def aKd (f:FuncId) (l:Option pO):List Operand->Option qT
 |[]=>aAy f l
 |_=>none
@[go_sem] def UD (side:List Prop):Option (Σ t:Ty,t.den)->Option qT
 |some ⟨t,x⟩=>if 0<t.cells then some ⟨side,(.at t x,none),[],[]⟩ else none
 |none=>none
@[go_sem] def UE (side:List Prop) (i off:Nat):pS->Option Ty->Option qT
 |some o,some u=>if 0<u.cells then some ⟨side,(.val .ref (some (i,off+o)),none),[],[]⟩ else none
 |_,_=>none
@[go_sem] def aAz (k n c:Nat) (i:Int) (o:Nat):pS->Option Ty->Option qT
 |some q,some u=>if 0<u.cells then some ⟨[],(.elt k n c i (o+q),none),[],[]⟩ else none
 |_,_=>none
@[go_sem] def ZV (f:Nat):Option TI->qI->Option qT
 |some ⟨t,_,_,false,_⟩,(.elt k n c i o,_)=>aAz k n c i o (t.offs f) (t.fld f)
 |some ⟨t,_,_,false,_⟩,(.at u y,_)=>if u=t then UD [] (u.proj y f) else none
 |some ⟨t,_,_,false,_⟩,(.val .ref (some (i,off)),_)=>UE [] i off (t.offs f) (t.fld f)
 |_,_=>none
@[go_sem] def aKe:Option (Σ t:Ty,t.den)->Option qT
 |some ⟨t,x⟩=>some ⟨[],(.val t x,none),[],[]⟩
 |none=>none
@[go_sem] def ZW (f:Nat):Option TI->qI->Option qT
 |some ⟨t,_,_,false,_⟩,(.val u y,_)=>if u=t then aKe (u.proj y f) else none
 |_,_=>none
@[go_sem] def ZX:Option TI->qI->qI->Option qT
 |some ⟨.list t',_,_,_,_⟩,(.own k n,_),(.val (.int _) i,_)=>if 0<t'.cells then some ⟨[0<=i/\i<(n:Int)],(.elt k n t'.cells i 0,none),[],[]⟩ else none
 |some ⟨.list t',_,_,_,_⟩,(.val (.list t) l,_),(.val (.int _) i,_)=>if t=t' then some ⟨[0<=i/\i<(List.length l:Int)],(.at t (rC t l i),none),[],[]⟩ else none
 |some ⟨.pair a b,_,_,true,_⟩,(.val .ref (some (i,off)),_),(.val (.int _) n,_)=>UE [(0:Int)<=n] i off ((Ty.pair a b).offs (Int.toNat n)) ((Ty.pair a b).fld (Int.toNat n))
 |some ⟨.pair a b,_,_,true,_⟩,(.at u x,_),(.val (.int _) n,_)=>if u= .pair a b then UD [(0:Int)<=n] (u.proj x (Int.toNat n)) else none
 |_,_,_=>none
@[go_sem] def ZY:Option TI->qI->qI->Option qT
 |some ⟨.str,_,_,_,_⟩,(.val .str l,_),(.val (.int _) i,_)=>some ⟨[0<=i/\i<(List.length l:Int)],(.val (.int .u8) (r7 l i),none),[],[]⟩
 |_,_,_=>none
@[go_sem] def UF:List ((Σ t:Ty,t.den)×pS)->Nat->Option qT
 |[],_=>none
 |(⟨t,x⟩,k)::_,0=>some ⟨[],(.val t x,k),[],[]⟩
 |_::r,n+1=>UF r n
@[go_sem] def aAA (b:Bool) (p c:Int):Nat->Option qT
 |0=>some ⟨[],(.val .bool b,none),[],[]⟩
 |1=>some ⟨[b=true],(.val (.int .i64) p,none),[],[]⟩
 |2=>some ⟨[b=true],(.val (.int .i32) c,none),[],[]⟩
 |_=>none
@[go_sem] def ZZ (i:Nat):qI->Option qT
 |(.tup l,_)=>UF l i
 |(.nxt b p c,_)=>aAA b p c i
 |_=>none
@[go_sem] def UG (i:Nat):Option qH->Option qT
 |some (.map _ _ l)=>some ⟨[],(.val (.int .i64) (List.length l:Int),none),[],[i]⟩
 |_=>none
@[go_sem] def a0a (H:List (Nat×qH)):Option TI->List qI->Option qT
 |some ⟨.mp,_,_,_,_⟩,[(.val .mp (some i),_)]=>UG i (qM H i)
 |some ⟨.str,_,_,_,_⟩,[(.val .str l,_)]=>some ⟨[],(.val (.int .i64) (List.length l:Int),none),[],[]⟩
 |some ⟨.list _,_,_,_,_⟩,[(.val (.list _) l,_)]=>some ⟨[],(.val (.int .i64) (List.length l:Int),none),[],[]⟩
 |some ⟨.list _,_,_,_,_⟩,[(.own _ n,_)]=>some ⟨[],(.val (.int .i64) (n:Int),none),[],[]⟩
 |_,_=>none
@[go_sem] def UH (a:Ty) (l r:List a.den) (k e' by':Nat):Option qH->Option qT
 |some (.grow e c n)=>if e=e'/\c=a.cells/\0<c/\0<by' then some ⟨[List.length l=n,(List.length l+List.length r)*by'<=140737488355328],(.val (.list a) (l++r),some k),[(k,.grow e c (List.length (l++r)))],[k]⟩ else none
 |_=>none
@[go_sem] def UI (b:Ty) (r:List b.den) (k n e' by':Nat):Option qH->Option qT
 |some (.row e t l m)=>if h:b=t then(if e=e'/\0<t.cells/\0<by' then some ⟨[n=m,(n+List.length r)*by'<=140737488355328],(.own k (List.length (l++uV (t:= .list b) (u:= .list t) (by rw[h]) r)),none),[(k,.row e t (l++uV (t:= .list b) (u:= .list t) (by rw[h]) r) (List.length (l++uV (t:= .list b) (u:= .list t) (by rw[h]) r)))],[k]⟩ else none) else none
 |_=>none
@[go_sem] def UJ (H:List (Nat×qH)):Option TI->List qI->Option qT
 |some ⟨.list u,e,by',_,_⟩,[(.own k n,_),(.val (.list b) r,_)]=>if b=u then UI b r k n e by' (qM H k) else none
 |some ⟨.list u,e,by',_,_⟩,[(.val (.list a) l,some k),(.val (.list b) r,_)]=>if h:b=a/\a=u then UH a l (uV (t:= .list b) (u:= .list a) (by rw[h.1]) r) k e by' (qM H k) else none
 |_,_=>none
@[go_sem] def UK (mx:Bool):List qI->Option (List Prop×DV)
 |[(.val (.int k) a,_),(.val (.int k') b,_)]=>if k=k' then some ([],.val (.int k) (if mx then max (a:Int) b else min (a:Int) b)) else none
 |_=>none
@[go_sem] def a0b:pO->List qI
 |[]=>[]
 |c::r=>(.val .ref (some c),none)::a0b r
@[go_sem] def UL (H:List (Nat×qH)) (base:Nat) (args:List qI) (g:rI):Option ((t:Ty)->List t.den->Option (List t.den))->Option qT
 |some F=>TZ H F args
 |none=>aAm H base args g (Q5 g.ps args)
@[go_sem] def L2 (H:List (Nat×qH)) (base:Nat) (args:List qI):Option rI->Option qT
 |some g=>UL H base args g g.row
 |none=>none
@[go_sem] def N5 (Γ:uW) (H:List (Nat×qH)) (base:Nat) (args:List qI):qI->Option qT
 |(.val .clo (some (f,caps)),_)=>L2 H base (args++a0b caps) (Γ f)
 |(.val .fn (some f),_)=>L2 H base args (Γ f)
 |_=>none
@[go_sem] def HD (T:sX) (ρ:Operand->qI):List Operand->List TypeId->List qI
 |x::xs,t::ts=>PZ (s8 T t) (ρ x)::HD T ρ xs ts
 |_,_=>[]
@[go_sem] def vU (ρ:Operand->qI):List Operand->List qI
 |[]=>[]
 |x::xs=>ρ x::vU ρ xs
@[go_sem] def v6 (ρ:Operand->qI):List (Nat×Operand)->List (Nat×qI)
 |[]=>[]
 |(i,x)::xs=>(i,ρ x)::v6 ρ xs
@[go_sem] def zY (ρ:Operand->qI):Option Operand->Option qI
 |some x=>some (ρ x)
 |none=>none
@[go_sem] def UM (T:sX) (H:List (Nat×qH)) (ss:List qI):List TypeId->Option qT
 |t::_=>a0a H (s8 T t) ss
 |[]=>none
@[go_sem] def UN (l:pP) (s:pG) (k e':Nat):Option qH->Option qT
 |some (.grow e c n)=>if e=e'/\c=1 then some ⟨[List.length l=n,List.length l+List.length s<=140737488355328],(.val (.list (.int .u8)) (l++tV s),some k),[(k,.grow e c (List.length (l++tV s)))],[k]⟩ else none
 |_=>none
@[go_sem] def a0c (H:List (Nat×qH)):Option TI->Option TI->List qI->Option qT
 |some ⟨.list (.int .u8),e,1,_,_⟩,some ⟨.str,_,_,_,_⟩,[(.val (.list (.int .u8)) l,some k),(.val .str s,_)]=>UN l s k e (qM H k)
 |_,_,_=>none
@[go_sem] def UO (T:sX) (H:List (Nat×qH)) (ss:List qI):List TypeId->Option qT
 |[t,u]=>if t=u then UJ H (s8 T t) ss else a0c H (s8 T t) (s8 T u) ss
 |_=>none
@[go_sem] def L3:List Operand->List TypeId->Bool
 |[],[]=>true
 |_::xs,_::ts=>L3 xs ts
 |_,_=>false
@[go_sem] def a0d (T:sX) (Γ:uW) (ρ:Operand->qI) (base:Nat) (H:List (Nat×qH)) (args:List Operand) (tys:List TypeId) (f:qI):Bool->Option qT
 |true=>N5 Γ H base (HD T ρ args tys) f
 |false=>none
@[go_sem] def L4 (T:sX) (Γ:uW) (ρ:Operand->qI) (base:Nat) (H:List (Nat×qH)) (args:Array Operand) (tys:Array TypeId):Callee->Option qT
 | .builtin .len=>UM T H (vU ρ args.toList) tys.toList
 | .builtin .append=>UO T H (vU ρ args.toList) tys.toList
 | .builtin .max=>C6 (UK true (vU ρ args.toList))
 | .builtin .min=>C6 (UK false (vU ρ args.toList))
 | .value f=>a0d T Γ ρ base H args.toList tys.toList (ρ f) (L3 args.toList tys.toList)
 |_=>none
@[go_sem] def G3:Ty->Bool
 | .int _| .str| .bool=>true
 |_=>false
def HE:(k:Ty)->k.den->k.den->Bool
 | .int _,a,b=>decide ((a:Int)=b)
 | .str,a,b=>decide ((a:pG)=b)
 | .bool,a,b=>a==b
 |_,_,_=>false
def sR (k v:Ty):List (k.den×v.den)->k.den->v.den
 |[],_=>v.zero
 |(x,y)::r,a=>if HE k a x=true then y else sR k v r a
def yF (k v:Ty):List (k.den×v.den)->k.den->Bool
 |[],_=>false
 |(x,_)::r,a=>if HE k a x=true then true else yF k v r a
def tY (k v:Ty) (a:k.den) (b:v.den):List (k.den×v.den)->List (k.den×v.den)
 |[]=>[(a,b)]
 |(x,y)::r=>if HE k a x=true then(a,b)::r else(x,y)::tY k v a b r
@[go_sem] def aAB (base:Nat):Option TI->Option TI->Option qT
 |some k,some v=>if G3 k.ty=true then some ⟨[],(.val .mp (some base),none),[(base,.map k.ty v.ty [])],[]⟩ else none
 |_,_=>none
@[go_sem] def a0e (T:sX) (base:Nat):Option TI->Option Operand->Option qT
 |some ⟨.mp,e,f,_,_⟩,none=>aAB base (s8 T e) (s8 T f)
 |_,_=>none
@[go_sem] def UP (k:Ty) (a:k.den) (u:Ty) (i:Nat) (ok:Bool):Option qH->Option qT
 |some (.map k' v l)=>if h:k=k'/\v=u then(if G3 k=true then(match ok with
   |true=>some ⟨[],(.tup [(⟨v,sR k' v l (uV h.1 a)⟩,none),(⟨.bool,yF k' v l (uV h.1 a)⟩,none)],none),[],[i]⟩
   |false=>some ⟨[],(.val v (sR k' v l (uV h.1 a)),none),[],[i]⟩) else none) else none
 |_=>none
@[go_sem] def a0f (H:List (Nat×qH)) (ok:Bool) (i:Nat):Option TI->Option TI->qI->Option qT
 |some kt,some vt,(.val k a,_)=>if k=kt.ty then UP k a vt.ty i ok (qM H i) else none
 |_,_,_=>none
@[go_sem] def UQ (T:sX) (H:List (Nat×qH)) (ok:Bool):Option TI->qI->qI->Option qT
 |some ⟨.mp,e,f,_,_⟩,(.val .mp (some i),_),s=>a0f H ok i (s8 T e) (s8 T f) s
 |_,_,_=>none
@[go_sem] def N6 (k:Ty) (a:k.den) (u:Ty) (b:u.den) (i:Nat):Option qH->Option qT
 |some (.map k' v l)=>if h:k=k'/\u=v then(if G3 k=true then some ⟨[],(.any,none),[(i,.map k' v (tY k' v (uV h.1 a) (uV h.2 b) l))],[i]⟩ else none) else none
 |_=>none
@[go_sem] def UR (H:List (Nat×qH)) (i:Nat):Option TI->qI->qI->Option qT
 |some kt,(.val k a,_),(.val u b,_)=>if k=kt.ty then N6 k a u b i (qM H i) else none
 |_,_,_=>none
@[go_sem] def aAC:Option TI->qI->qI
 |some ⟨.fn,_,_,_,_⟩,(.val .clo (some (f,[])),_)=>(.val .fn (some f),none)
 |_,s=>s
@[go_sem] def US (T:sX):Option TI->qI->qI
 |some ⟨.mp,_,f,_,_⟩,s=>aAC (s8 T f) s
 |_,s=>s
@[go_sem] def N7 (T:sX) (H:List (Nat×qH)):Option TI->qI->qI->qI->Option qT
 |some ⟨.mp,e,_,_,_⟩,(.val .mp (some i),_),s,x=>UR H i (s8 T e) s x
 |_,_,_,_=>none
def vE (s:pG) (p:Nat):Int:=((Utf8.decode ⟨s.toArray⟩ p).1:Int)
def a0g (s:pG) (p:Nat):Nat:=(Utf8.decode ⟨s.toArray⟩ p).2
def AQ (s:pG) (p:Nat):Nat:=if p<s.length then p+a0g s p else p
@[go_sem] def a0h (base:Nat):Option TI->qI->Option qT
 |some ⟨.str,_,_,_,_⟩,(.val .str s,_)=>some ⟨[],(.val .ref (some (base,0)),none),[(base,.iter s 0)],[]⟩
 |_,_=>none
@[go_sem] def a0i (i:Nat):Option qH->Option qT
 |some (.iter s p)=>some ⟨[],(.nxt (decide (p<List.length s)) ((p:Nat):Int) (vE s p),none),[(i,.iter s (AQ s p))],[i]⟩
 |_=>none
@[go_sem] def UT (H:List (Nat×qH)):Bool->qI->Option qT
 |true,(.val .ref (some (i,0)),_)=>a0i i (qM H i)
 |_,_=>none
@[go_sem] def uX (T:sX) (Γ:uW) (ty:TypeId) (ρ:Operand->qI) (base:Nat) (H:List (Nat×qH)):Op->Option qT
 | .move x| .assign x=>ZB base (s8 T ty) (ρ x)
 | .alloc e=>ZF base e (s8 T e)
 | .box e x=>ZG base e (s8 T e) (PZ (s8 T e) (ρ x))
 | .build t ps=>ZI (v6 ρ ps.toList) (s8 T t)
 | .buildSlice t n ps=>ZJ base n (v6 ρ ps.toList) (s8 T t)
 | .load t a=>U6 H (s8 T t) (ρ a)
 | .store t a x=>UC base H (s8 T t) (ρ a) (PZ (s8 T t) (ρ x))
 | .nilCheck x=>ZU (ρ x)
 | .binOp op t x y _=>C6 (aAb (TM op (ρ x) (ρ y)) (Z2 (s8 T t) op (ρ x) (ρ y)))
 | .unOp op _ x=>C6 (Z3 op (ρ x))
 | .convert src dst x=>C6 (aAb (TO (s8 T src) (s8 T dst) (ρ x)) (Z4 T (s8 T src) (s8 T dst) (ρ x)))
 | .makeFunc (.func f) first caps=>aKd f (KQ (vU ρ caps.toList)) first.toList
 | .slice t x lo hi none=>C6 (Z5 (s8 T t) (ρ x) (zY ρ lo) (zY ρ hi))
 | .fieldAddr t x f=>ZV f (s8 T t) (ρ x)
 | .field t x f=>ZW f (s8 T t) (ρ x)
 | .indexAddr t x ix=>ZX (s8 T t) (ρ x) (ρ ix)
 | .index t x ix=>ZY (s8 T t) (ρ x) (ρ ix)
 | .extract x i=>ZZ i (ρ x)
 | .makeMap t r=>a0e T base (s8 T t) r
 | .range t x=>a0h base (s8 T t) (ρ x)
 | .next x b=>UT H b (ρ x)
 | .lookup t x i ok=>UQ T H ok (s8 T t) (ρ x) (ρ i)
 | .mapUpdate t m k x=>N7 T H (s8 T t) (ρ m) (ρ k) (US T (s8 T t) (ρ x))
 | .insert t m k x=>N7 T H (s8 T t) (ρ m) (ρ k) (US T (s8 T t) (ρ x))
 | .call c=>L4 T Γ ρ base H c.args c.argTypes c.callee
 |_=>none
@[go_sem] def y4:qI->qI
 |(.cond _ d,_)=>(d,none)
 |s=>s
@[go_sem] def zI (G:Bool):List qI->List Prop
 |[]=>[]
 |(.cond p _,_)::r=>(G=true->p=true)::zI G r
 |_::r=>zI G r
@[go_sem] def aAD (b:Bool):qI->Option Bool
 |(.val .bool c,_)=>some (c==b)
 |(.cond p (.val .bool c),_)=>some (p&&(c==b))
 |_=>none
@[go_sem] def EX:List Oper->Nat->Option Tmp
 |[],_=>none
 |o::_,0=>o.dst
 |_::r,n+1=>EX r n
@[go_sem] def HF (env:List (Nat×qI)) (b:Bool):Option Tmp->Option Bool
 |some t=>aAD b (lk env t)
 |none=>none
@[go_sem] theorem aTb (x y:Bool):cond x y false=(x&&y):=by cases x<;>rfl
@[go_sem] theorem aTc (x y:Bool):cond x true y=(x||y):=by cases x<;>rfl
@[go_sem] def aAE (x:Bool):qI->qI->Option qT
 |(.val .bool y,_),(.val .bool z,_)=>some ⟨[],(.val .bool (cond x y z),none),[],[]⟩
 |(.cond p (.val .bool y),_),(.val .bool z,_)=>some ⟨[x=true->p=true],(.val .bool (cond x y z),none),[],[]⟩
 |(.val .bool y,_),(.cond p (.val .bool z),_)=>some ⟨[x=false->p=true],(.val .bool (cond x y z),none),[],[]⟩
 |(.cond q (.val .bool y),_),(.cond p (.val .bool z),_)=>some ⟨[x=true->q=true,x=false->p=true],(.val .bool (cond x y z),none),[],[]⟩
 |_,_=>none
@[go_sem] def QC:qI->qI->qI->Option qT
 |(.val .bool x,_),a,b=>aAE x a b
 |_,_,_=>none
@[go_sem] def sQ:Op->List Operand
 | .move x| .assign x| .box _ x| .load _ x| .nilCheck x| .unOp _ _ x| .convert _ _ x| .fieldAddr _ x _| .field _ x _| .extract x _=>[x]
 | .build _ ps| .buildSlice _ _ ps=>parts ps.toList
 | .store _ a v| .binOp _ _ a v _| .indexAddr _ a v| .index _ a v=>[a,v]
 | .lookup _ a v _=>[a,v]
 | .range _ x| .next x _=>[x]
 | .mapUpdate _ m k x=>[m,k,x]
 | .insert _ m k x=>[m,k,x]
 | .makeFunc _ _ caps=>caps.toList
 | .slice _ x l h _=>x::rD (opt l) (opt h)
 | .call ⟨.value f,args,_⟩=>f::args.toList
 | .call ⟨_,args,_⟩=>args.toList
 |_=>[]
where
 parts:List (Nat×Operand)->List Operand
  |[]=>[]
  |(_,x)::r=>x::parts r
 opt:Option Operand->List Operand
  |some x=>[x]
  |none=>[]
attribute [go_sem] sQ.parts sQ.opt
@[go_sem] def N8 (l:List Prop):Option qT->Option qT
 |some e=>some ⟨rD l e.side,e.slot,e.upd,e.rds⟩
 |none=>none
@[go_sem] def QD (G:Bool):List Prop->List Prop
 |[]=>[]
 |p::r=>(G=true->p)::QD G r
@[go_sem] def IZ (G:Bool) (l:List Prop):Option qT->Option qT
 |some ⟨side,(d,_),[],rds⟩=>some ⟨rD l (QD G side),(.cond G d,none),[],rds⟩
 |some ⟨side,s,u::us,rds⟩=>some ⟨(G=true)::rD l (QD G side),s,u::us,rds⟩
 |none=>none
@[go_sem] def D6 (env:List (Nat×qI)):List Operand->List qI
 |[]=>[]
 |x::r=>uE env x::D6 env r
@[go_sem] def N9 (T:sX) (Γ:uW) (o:Oper) (s:St):Option Bool->Op->Option qT
 |some G,.pick c a b=>IZ G (zI G [uE s.env c]) (QC (y4 (uE s.env c)) (uE s.env a) (uE s.env b))
 |some G,op=>IZ G (zI G (D6 s.env (sQ op))) (uX T Γ o.type (fun x=>y4 (uE s.env x)) s.nb s.H op)
 |none,_=>none
@[go_sem] def NA (T:sX) (Γ:uW) (o:Oper) (s:St):Op->Option qT
 | .pick c a b=>QC (uE s.env c) (uE s.env a) (uE s.env b)
 |op=>N8 (zI true (D6 s.env (sQ op))) (uX T Γ o.type (fun x=>y4 (uE s.env x)) s.nb s.H op)
@[go_sem] def J0 (np:Nat):List (Nat×qH)->Bool
 |[]=>true
 |(i,.cells _ _ _)::r=>if np<=i then J0 np r else false
 |_::r=>J0 np r
@[go_sem] def aAF (np:Nat) (e:qT):Bool->Option qT
 |true=>if J0 np e.upd=true then some e else none
 |false=>some e
@[go_sem] def a0j (np:Nat):Option qT->Option qT
 |some e=>aAF np e (IT e.rds)
 |none=>none
@[go_sem] def NB (T:sX) (Γ:uW) (ops:List Oper) (o:Oper) (s:St):Option qT:=
 match o.guard with
 |none=>NA T Γ o s o.op
 |some (j,b)=>N9 T Γ o s (HF s.env b (EX ops j)) o.op
@[go_sem] def G4 (T:sX) (Γ:uW) (ops:List Oper) (o:Oper) (s:St):Option qT:=a0j s.np (NB T Γ ops o s)
@[go_sem] def uA:Option Tmp->qI->List (Nat×qI)->List (Nat×qI)
 |some d,s,env=>(d,s)::env
 |none,_,env=>env
structure wK where
 s:St
 side:List Prop
 es:List qT
@[go_sem] def J1 (N:Nat):Option Tmp->Bool
 |some d=>decide (d<N)
 |none=>true
@[go_sem] def J2 (n:Nat):List (Nat×qH)->Bool
 |[]=>true
 |(i,_)::r=>decide (i<n)&&J2 n r
@[go_sem] def EY (i:Nat):pT->Bool
 |[]=>false
 |j::r=>if j=i then DY i r else EY i r
@[go_sem] def L5 (H U:List (Nat×qH)) (rds:pT):List (Nat×qH)->List Prop
 |[]=>[]
 |(i,_)::r=>if EY i rds=true then(qM U i=qM H i)::L5 H U rds r else L5 H U rds r
@[go_sem] def NC (rds:pT):List (Nat×qH)->List (Nat×qH)
 |[]=>[]
 |(i,b)::r=>if EY i rds=true then NC rds r else(i,b)::NC rds r
@[go_sem] def E2 (e:qT):List (Nat×qH):=NC e.rds e.upd
@[go_sem] def a0k (o:Oper) (a:wK):Option qT->Option wK
 |some e=>if (J1 a.s.N o.dst&&J2 (a.s.nb+32) e.upd)=true then some ⟨⟨uA o.dst e.slot a.s.env,rD e.upd a.s.H,a.s.nb+32,a.s.N,a.s.np⟩,rD a.side (rD (L5 a.s.H e.upd e.rds e.upd) e.side),e::a.es⟩ else none
 |none=>none
@[go_sem] def wL (T:sX) (Γ:uW) (ops:List Oper):List Oper->Option wK->Option wK
 |[],a=>a
 |o::r,some a=>wL T Γ ops r (a0k o a (G4 T Γ ops o a.s))
 |_::_,none=>none
@[go_sem] def QE:List (Nat×qH)->pT->Bool
 |[],_=>false
 |(i,_)::r,l=>l.contains i||QE r l
@[go_sem] def HG (a b:qT):Bool:= !QE (E2 a) (rD b.rds (qO b.upd))&& !QE (E2 b) a.rds
def L6 (lo:Nat):List (Nat×qH)->Bool
 |[]=>true
 |(i,_)::r=>(decide (i<lo)||decide (lo+32<=i))&&L6 lo r
def UU (ops:Array Oper) (bs:pT) (nb i:Nat) (o:Oper) (e:qT):List Oper->List qT->Nat->Bool
 |p::ps,f::fs,j=>((bs.getD j 0).testBit i||(o.apart ops p&&HG e f&&L6 (nb+32*i) f.upd))&&UU ops bs nb i o e ps fs (j+1)
 |_,_,_=>true
def UV (ops:Array Oper) (bs:pT) (nb:Nat):List Oper->List qT->Nat->Bool
 |o::os,e::es,i=>UU ops bs nb i o e os es (i+1)&&UV ops bs nb os es (i+1)
 |_,_,_=>true
def UW:List Oper->Nat->Bool
 |[],_=>true
 |o::r,i=>o.after.toList.all (fun e=> !Region.binds .any e||decide (e.on<i))&&UW r (i+1)
def G5 (ops:Array Oper) (nb:Nat) (es:List qT):Bool:=UW ops.toList 0&&UV ops (Region.before ops).toList nb ops.toList es 0
@[go_sem] def aAG (ops:Array Oper) (nb:Nat):Option wK->Option wK
 |some a=>if G5 ops nb a.es.reverse then some a else none
 |none=>none
@[go_sem] def QF (T:sX) (Γ:uW) (ops:Array Oper) (s:St):Bool->Option wK
 |true=>aAG ops s.nb (wL T Γ ops.toList ops.toList (some ⟨s,[],[]⟩))
 |false=>wL T Γ ops.toList ops.toList (some ⟨s,[],[]⟩)
inductive Ex where
 |normal|exit (id:Nat) |ret
structure wM where
 slots:pT
 ids:pO:=[]
@[go_sem] def xB:pO->Nat->pS
 |[],_=>none
 |(n,o)::r,k=>if o=k then some n else xB r k
@[go_sem] def aAH (m:pO):pR->pR
 |some (i,o)=>(xB m i).map fun j=>(j,o)
 |none=>none
@[go_sem] def D7 (m:pO):pO->Option pO
 |[]=>some []
 |(i,o)::r=>renCons (xB m i) o (D7 m r)
where
 renCons:pS->Nat->Option pO->Option pO
  |some j,o,some r=>some ((j,o)::r)
  |_,_,_=>none
attribute [go_sem] D7.renCons
@[go_sem] def aAI (m:pO):pS->pS
 |some k=>xB m k
 |none=>none
@[go_sem] def aKf (n:Nat):pS->qI
 |some k=>(.own k n,none)
 |none=>(.any,none)
@[go_sem] def aAJ (m:pO):Option (Nat×pO)->Option (Option (Nat×pO))
 |none=>some none
 |some (f,l)=>(D7 m l).map fun l'=>some (f,l')
@[go_sem] def UX (m:pO):pR->Option pR
 |none=>some none
 |some (i,o)=>(xB m i).map fun j=>some (j,o)
@[go_sem] def aAK (m:pO):pS->Option pS
 |none=>some none
 |some i=>(xB m i).map some
@[go_sem] def aAL (m:pO):pR->Option pR
 |none=>some none
 |some (k,n)=>(xB m k).map fun j=>some (j,n)
@[go_sem] def zZ (m:pO):(t:Ty)->t.den->Option t.den
 | .ref,x=>UX m x
 | .clo,x=>aAJ m x
 | .mp,x=>aAK m x
 | .pair a b,x=>KT (if a.pure=true then some x.1 else zZ m a x.1) (if b.pure=true then some x.2 else zZ m b x.2)
 | .list t,x=>if t.pure=true then some x else none
 | .bool,x=>some x
 | .int _,x=>some x
 | .str,x=>some x
 | .unit,x=>some x
 | .rl _ _,x=>aAL m x
 | .fn,x=>some x
 | .mref,x=>UX m x
@[go_sem] def AR (m:pO):qI->qI
 |(.own k n,_)=>aKf n (xB m k)
 |(.val .ref none,_)=>(.val .ref none,none)
 |(.val .ref (some p),_)=>refSlot (aAH m (some p))
 |(.val .clo (some (f,l)),_)=>cloSlot f (D7 m l)
 |(.val .mp (some i),_)=>mpSlot (xB m i)
 |(.val t x,k)=>if t.pure then(.val t x,aAI m (H8 t k)) else valSlot t (zZ m t x)
 |(.at t x,_)=>if t.pure then(.at t x,none) else(.any,none)
 |_=>(.any,none)
where
 refSlot:pR->qI
  |some p=>(.val .ref (some p),none)
  |none=>(.any,none)
 cloSlot (f:Nat):Option pO->qI
  |some l=>(.val .clo (some (f,l)),none)
  |none=>(.any,none)
 valSlot (t:Ty):Option t.den->qI
  |some y=>(.val t y,none)
  |none=>(.any,none)
 mpSlot:pS->qI
  |some j=>(.val .mp (some j),none)
  |none=>(.any,none)
attribute [go_sem] AR.refSlot AR.cloSlot AR.mpSlot AR.valSlot
@[go_sem] def UY (q j:Nat):pO->pO
 |[]=>[(q,j)]
 |(a,b)::r=>if q<=a then(q,j)::(a,b)::r else(a,b)::UY q j r
@[go_sem] def L7 (m:pO):pO->pO
 |[]=>[]
 |(q,k)::r=>renTok1 q (xB m k) (L7 m r)
where
 renTok1 (q:Nat):pS->pO->pO
  |some j,r=>UY q j r
  |none,r=>r
attribute [go_sem] L7.renTok1
@[go_sem] def a0l (t:Ty) (toks:pO):Option t.den->qH
 |some y=> .cells t y toks
 |none=> .dead
@[go_sem] def J3 (m:pO):Option qH->qH
 |some (.cells t x toks)=>if t.pure then .cells t x (L7 m toks) else a0l t (L7 m toks) (zZ m t x)
 |some (.grow e c n)=> .grow e c n
 |some (.row e t l n)=>if t.pure then .row e t l n else .dead
 |some (.map k v l)=>if k.pure&&v.pure then .map k v l else .dead
 |some (.iter s p)=> .iter s p
 |_=> .dead
@[go_sem] def QG (m:pO) (env:List (Nat×qI)):pT->List (Nat×qI)
 |[]=>[]
 |t::r=>(t,AR m (lk env t))::QG m env r
@[go_sem] def UZ (m:pO) (H:List (Nat×qH)):pO->List (Nat×qH)
 |[]=>[]
 |(n,o)::r=>(n,J3 m (qM H o))::UZ m H r
@[go_sem] def V0:pO->Nat
 |[]=>0
 |(n,_)::r=>max (n+1) (V0 r)
@[go_sem] def ND (n o:Nat):pO->Bool
 |[]=>false
 |(n',o')::r=>decide (n'=n)||decide (o'=o)||ND n o r
@[go_sem] def y5 (np:Nat):pO->Bool
 |[]=>true
 |(n,o)::r=>(decide (np<=n)||decide (n=o))&& !ND n o r&&y5 np r
@[go_sem] def QH (s:St) (k:wM):Bool->St
 |true=>⟨QG k.ids s.env k.slots,UZ k.ids s.H k.ids,max s.np (V0 k.ids),s.N,s.np⟩
 |false=>⟨[],[],s.nb,s.N,s.np⟩
@[go_sem] def St.keep (s:St) (k:wM):St:=QH s k (y5 s.np k.ids)
@[go_sem] def rO:List Prop->Prop
 |[]=>True
 |[p]=>p
 |p::q::r=>p/\rO (q::r)
@[go_sem] def aAM (Q:Ex->St->Prop):Option wK->Prop
 |some a=>rO a.side/\Q .normal a.s
 |none=>False
@[go_sem] def aAN (A B:Prop):qI->Prop
 |(.val .bool x,_)=>(x=true->A)/\(x=false->B)
 |(.flag p q,_)=>(p->A)/\(q->B)
 |_=>False
@[go_sem] def QI (f:St->Prop) (Q:Ex->St->Prop):Ex->St->Prop
 | .normal,s=>f s
 | .exit j,s=>Q (.exit j) s
 | .ret,s=>Q .ret s
@[go_sem] def J4 (id:Nat) (Q:Ex->St->Prop):Ex->St->Prop
 | .normal,s=>Q .normal s
 | .exit j,s=>if j=id then Q .normal s else Q (.exit j) s
 | .ret,s=>Q .ret s
@[go_sem] def aKg (I:St->Prop) (μ:St->Nat) (m:Nat) (Q:Ex->St->Prop):Ex->St->Prop
 | .normal,s=> ∃k:wM,I (s.keep k)/\μ (s.keep k)<m
 | .exit j,s=>Q (.exit j) s
 | .ret,s=>Q .ret s
def wN (T:sX) (Γ:uW):Code->St->(Ex->St->Prop)->Prop
 | .skip,s,Q=>Q .normal s
 | .label _,s,Q=>Q .normal s
 | .region _ ops draw,s,Q=>aAM Q (QF T Γ ops s draw)
 | .seq a b,s,Q=>wN T Γ a s (QI (fun s'=>wN T Γ b s' Q) Q)
 | .cond c a b,s,Q=>aAN (wN T Γ a s Q) (wN T Γ b s Q) (uE s.env c)
 | .block id c,s,Q=>wN T Γ c s (J4 id Q)
 | .loop c,s,Q=> ∃(k:wM) (I:St->Prop) (μ:St->Nat),I (s.keep k)/\∀s,I s->wN T Γ c s (aKg I μ (μ s) Q)
 | .exit id,s,Q=>Q (.exit id) s
 | .ret,s,Q=>Q .ret s
 |_,_,_=>False
attribute [go_sem] Ty.list.injEq Ty.pair.injEq Ty.int.injEq
section
variable {T:sX}{Γ:uW}{s:St}{Q:Ex->St->Prop}
theorem aKh {id:Nat}{ops:Array Oper}{a:wK}(h:wL T Γ ops.toList ops.toList (some ⟨s,[],[]⟩)=some a) (hp:rO a.side) (hq:Q .normal a.s):wN T Γ (.region id ops false) s Q:=by
 unfold wN QF;rw[h];exact⟨hp,hq⟩
theorem aKi {id:Nat}{ops:Array Oper}{a:wK}(h:wL T Γ ops.toList ops.toList (some ⟨s,[],[]⟩)=some a) (hf:G5 ops s.nb a.es.reverse=true) (hp:rO a.side) (hq:Q .normal a.s):wN T Γ (.region id ops true) s Q:=by
 unfold wN QF;rw[h];show aAM Q (if G5 ops s.nb a.es.reverse=true then some a else none);rw[aU8 hf];exact⟨hp,hq⟩
end
end Go.Proofs.YtbbpilohihldiaaGreatDoor.Vc
namespace Go.Proofs.YtbbpilohihldiaaGreatDoor.Vc
open Go.RowKit
abbrev sD:=List (Nat×qH)
structure Pl where
 b:Nat
 o:Nat
 k:Option (TypeId×Nat):=none
structure Gh where
 S:Nat->Nat->Prop
 J:Nat->Option Pl
 cur:Nat->Nat->Option pV
def yU {α:Type}(R:α->pQ->Prop) (w:pU) (S:Nat->Nat->Prop) (c b:Nat):Nat->List α->Prop
 |_,[]=>True
 |o,x::xs=>(∃cs,cs.length=c/\w.rangeAt b o cs/\(∀j,j<c->S b (o+j))/\R x cs)/\yU R w S c b (o+c) xs
def yG (g:Gh):pO->pQ->Prop
 |[],vs=>vs=[]
 |(i,o)::l,vs=> ∃p vs',g.J i=some p/\vs= .pointer (some ⟨p.1,p.2+o,none⟩)::vs'/\yG g l vs'
def QJ (g:Gh):pR->pQ->Prop
 |none,cs=>cs=[.pointer none]
 |some (i,o),cs=> ∃p,g.J i=some p/\cs=[.pointer (some ⟨p.1,p.2+o,none⟩)]
def QK (g:Gh):Option (Nat×pO)->pQ->Prop
 |none,cs=>cs=[.nilFunc]
 |some (f,l),cs=> ∃vs,yG g l vs/\cs=[.func (.func f) #[] vs.toArray]
def NE (g:Gh):pS->pQ->Prop
 |none,cs=>cs=[.map none]
 |some i,cs=> ∃p,g.J i=some p/\cs=[.map (some p.1)]
def a0m (k:Option (TypeId×Nat)) (o:Nat):Prop:=o=0/\∃e,ZC e=true/\k=some (e,2)
def E3 (g:Gh):pR->pQ->Prop
 |none,cs=>cs=[.slice none 0 0]
 |some (k,n),cs=> ∃v,g.cur k n=some v/\cs=[v]/\((v= .slice none 0 0/\n=0)\/∃b cap,v= .slice (some ⟨b,0,none⟩) n cap/\n<=cap)
def QL (g:Gh):pR->pQ->Prop
 |none,cs=>cs=[.pointer none]
 |some (i,o),cs=> ∃p,g.J i=some p/\a0m p.3 (p.2+o)/\(cs=[.pointer none]\/cs=[.pointer (some ⟨p.1,p.2+o,none⟩)])
def aAO:pS->pQ->Prop
 |none,cs=>cs=[.nilFunc]
 |some f,cs=>cs=[.func (.func f) #[] #[]]
def Rd (g:Gh) (w:pU):(t:Ty)->t.den->pQ->Prop
 | .bool,x,cs=>cs=[.bool x]
 | .int k,n,cs=>cs=[.int k n]
 | .str,l,cs=>cs=[.string ⟨List.toArray l⟩]
 | .list t,l,cs=> ∃a cap,cs=[.slice a (List.length l) cap]/\List.length l<=cap/\(l=[]\/∃b o,a=some ⟨b,o,none⟩/\yU (Rd g w t) w g.S t.cells b o l)
 | .unit,_,cs=>cs=[]
 | .pair s t,x,cs=> ∃c1 c2,cs=c1++c2/\Rd g w s x.1 c1/\Rd g w t x.2 c2
 | .ref,x,cs=>QJ g x cs
 | .clo,x,cs=>QK g x cs
 | .mp,x,cs=>NE g x cs
 | .rl _ _,x,cs=>E3 g x cs
 | .fn,x,cs=>aAO x cs
 | .mref,x,cs=>QL g x cs
def tJ (g:Gh) (w:pU) (t:Ty) (x:t.den) (v:pV):Prop:=
 (t.isRow=true/\∃cs:pQ,v= .agg cs.toArray/\Rd g w t x cs)\/(t.isRow=false/\Rd g w t x [v])
def y6:Ty->pQ->Prop
 | .list _,cs=>cs=[.slice none 0 0]
 | .pair a b,cs=> ∃c1 c2,cs=c1++c2/\c1.length=a.cells/\y6 a c1/\y6 b c2
 |_,_=>True
def E4 (g:Gh) (t:Ty) (x:t.den) (v:pV):pS->Prop
 |none=>True
 |some k=>match t,x with
  | .list _,l=>g.cur k (List.length l)=some v
  | .pair a b,_=>y6 (.pair a b) v.cells.toList
  |_,_=>False
def NF (g:Gh) (w:pU):List ((Σ t:Ty,t.den)×pS)->pQ->Prop
 |[],vs=>vs=[]
 |(⟨t,x⟩,k)::l,vs=> ∃v vs',vs=v::vs'/\tJ g w t x v/\E4 g t x v k/\NF g w l vs'
def AS (g:Gh) (w:pU):DV->pV->Prop
 | .any,_=>True
 | .nilS,v=>v= .slice none 0 0
 | .val t x,v=>tJ g w t x v
 | .at t x,v=> ∃b o cs,v= .pointer (some ⟨b,o,none⟩)/\w.rangeAt b o cs/\(∀j,j<t.cells->g.S b (o+j))/\Rd g w t x cs
 | .tup l,v=> ∃vs:pQ,v= .tuple vs.toArray/\NF g w l vs
 | .cond p d,v=>(p=true->AS g w d v)/\(p=false->v=undef)
 | .flag p q,v=> ∃b,v= .bool b/\(b=true->p)/\(b=false->q)
 | .own k n,v=>g.cur k n=some v/\((v= .slice none 0 0/\n=0)\/∃b cap,v= .slice (some ⟨b,0,none⟩) n cap/\n<=cap)
 | .nxt b p c,v=>(b=true->v= .tuple #[.bool true,.int .i64 p,.int .i32 c])/\(b=false->v= .tuple #[.bool false])
 | .elt k n c i o,v=> ∃b cap,g.cur k n=some (.slice (some ⟨b,0,none⟩) n cap)/\0<=i/\i<(n:Int)/\v= .pointer (some ⟨b,i.toNat*c+o,none⟩)
def s3 (g:Gh) (w:pU) (s:qI) (v:pV):Prop:=
 AS g w s.1 v/\match s with
  |(_,none)=>True
  |(.val t x,some k)=>E4 g t x v (some k)
  |(_,some _)=>False
structure Le (g:Gh) (w:pU) (g':Gh) (w':pU):Prop where
 S: ∀b o,g.S b o->g'.S b o
 cell: ∀b o,g.S b o->w'.cell? ⟨b,o,none⟩=w.cell? ⟨b,o,none⟩
 J: ∀i p,g.J i=some p->g'.J i=some p
 cur: ∀k n v,g.cur k n=some v->g'.cur k n=some v
theorem Le.refl (g:Gh) (w:pU):Le g w g w:=⟨fun _ _ h=>h,fun _ _ _=>rfl,fun _ _ h=>h,fun _ _ _ h=>h⟩
theorem Le.trans {g g' g'':Gh}{w w' w'':pU}(h:Le g w g' w') (k:Le g' w' g'' w''):Le g w g'' w'':=
 ⟨fun b o x=>k.S b o (h.S b o x),fun b o x=>(k.cell b o (h.S b o x)).trans (h.cell b o x),fun i p x=>k.J i p (h.J i p x),fun i n v x=>k.cur i n v (h.cur i n v x)⟩
theorem a0n {g g':Gh}(hJ: ∀i p,g.J i=some p->g'.J i=some p): ∀{l:pO}{vs:pQ},yG g l vs->yG g' l vs
 |[],_,h=>h
 |(_,_)::_,_,⟨p,vs',h1,h2,h3⟩=>⟨p,vs',hJ _ _ h1,h2,a0n hJ h3⟩
theorem aKj {g g':Gh}(hJ: ∀i p,g.J i=some p->g'.J i=some p): ∀{x:pR}{cs:pQ},QJ g x cs->QJ g' x cs
 |none,_,h=>h
 |some (_,_),_,⟨p,h1,h2⟩=>⟨p,hJ _ _ h1,h2⟩
theorem aKk {g g':Gh}(hJ: ∀i p,g.J i=some p->g'.J i=some p): ∀{x:Option (Nat×pO)}{cs:pQ},QK g x cs->QK g' x cs
 |none,_,h=>h
 |some (_,_),_,⟨vs,h1,h2⟩=>⟨vs,a0n hJ h1,h2⟩
theorem aKl {g g':Gh}(hJ: ∀i p,g.J i=some p->g'.J i=some p): ∀{x:pS}{cs:pQ},NE g x cs->NE g' x cs
 |none,_,h=>h
 |some _,_,⟨p,h1,h2⟩=>⟨p,hJ _ _ h1,h2⟩
theorem aKm {g g':Gh}(hc: ∀k n v,g.cur k n=some v->g'.cur k n=some v): ∀{x:pR}{cs:pQ},E3 g x cs->E3 g' x cs
 |none,_,h=>h
 |some (_,_),_,⟨v,h1,h2⟩=>⟨v,hc _ _ _ h1,h2⟩
theorem aKn {g g':Gh}(hJ: ∀i p,g.J i=some p->g'.J i=some p): ∀{x:pR}{cs:pQ},QL g x cs->QL g' x cs
 |none,_,h=>h
 |some (_,_),_,⟨p,h1,h2⟩=>⟨p,hJ _ _ h1,h2⟩
theorem a0o {α:Type}{R R':α->pQ->Prop}{w w':pU}{S S':Nat->Nat->Prop}{c b:Nat}(hR: ∀x cs,R x cs->R' x cs) (hS: ∀o,S b o->S' b o)
  (hc: ∀o,S b o->w'.cell? ⟨b,o,none⟩=w.cell? ⟨b,o,none⟩): ∀{l:List α}{o:Nat},yU R w S c b o l->yU R' w' S' c b o l
 |[],_,_=>trivial
 |_::_,o,⟨⟨cs,h1,h2,h3,h4⟩,h5⟩=>⟨⟨cs,h1,fun j v hv=>by
   have hj:j<c:=h1▸(aVq.1 hv).1;rw[hc _ (h3 j hj)];exact h2 j v hv,fun j hj=>hS _ (h3 j hj),hR _ _ h4⟩,a0o hR hS hc h5⟩
theorem wT {g g':Gh}{w w':pU}(h:Le g w g' w'): ∀{t:Ty}{x:t.den}{cs:pQ},Rd g w t x cs->Rd g' w' t x cs
 | .bool,_,_,r=>r
 | .int _,_,_,r=>r
 | .str,_,_,r=>r
 | .unit,_,_,r=>r
 | .ref,_,_,r=>aKj h.J r
 | .clo,_,_,r=>aKk h.J r
 | .mp,_,_,r=>aKl h.J r
 | .rl _ _,_,_,r=>aKm h.cur r
 | .fn,_,_,r=>r
 | .mref,_,_,r=>aKn h.J r
 | .pair _ _,_,_,⟨c1,c2,e,r1,r2⟩=>⟨c1,c2,e,wT h r1,wT h r2⟩
 | .list _,_,_,⟨a,cap,e,hle,hl⟩=>⟨a,cap,e,hle,hl.imp id fun⟨b,o,ea,hr⟩=>⟨b,o,ea,a0o (fun _ _=>wT h) (fun _=>h.S _ _) (fun _=>h.cell _ _) hr⟩⟩
theorem sY {g:Gh}{w:pU}: ∀{t:Ty}{x:t.den}{cs:pQ},Rd g w t x cs->cs.length=t.cells
 | .bool,_,_,r=>by cases r;rfl
 | .int _,_,_,r=>by cases r;rfl
 | .str,_,_,r=>by cases r;rfl
 | .unit,_,_,r=>by cases r;rfl
 | .ref,none,_,r=>by cases r;rfl
 | .ref,some (_,_),_,⟨_,_,e⟩=>by cases e;rfl
 | .clo,none,_,r=>by cases r;rfl
 | .clo,some (_,_),_,⟨_,_,e⟩=>by cases e;rfl
 | .mp,none,_,r=>by cases r;rfl
 | .mp,some _,_,⟨_,_,e⟩=>by cases e;rfl
 | .fn,none,_,r=>by cases r;rfl
 | .fn,some _,_,r=>by cases r;rfl
 | .rl _ _,none,_,r=>by cases r;rfl
 | .rl _ _,some (_,_),_,⟨_,_,e,_⟩=>by cases e;rfl
 | .mref,none,_,r=>by cases r;rfl
 | .mref,some (_,_),_,⟨_,_,_,e⟩=>by rcases e with e|e<;>(cases e;rfl)
 | .pair _ _,_,_,⟨c1,c2,e,r1,r2⟩=>by rw[e,aVc,sY r1,sY r2];rfl
 | .list _,_,_,⟨_,_,e,_,_⟩=>by cases e;rfl
theorem V1 {g g':Gh}{w w':pU}(h:Le g w g' w') {t:Ty}{x:t.den}{v:pV}(r:tJ g w t x v):tJ g' w' t x v:=
 r.imp (fun⟨a,cs,e,q⟩=>⟨a,cs,e,wT h q⟩) (fun⟨a,q⟩=>⟨a,wT h q⟩)
theorem aAP {g g':Gh}{w w':pU}(h:Le g w g' w') {t:Ty}{x:t.den}{v:pV}{k:pS}(r:E4 g t x v k):E4 g' t x v k:=by
 cases k with
 |none=>trivial
 |some k=>
  cases t with
  |list u=>exact h.cur _ _ _ r
  |pair a b=>exact r
  |_=>exact r.elim
theorem aAQ {g g':Gh}{w w':pU}(h:Le g w g' w'): ∀{l:List ((Σ t:Ty,t.den)×pS)}{vs:pQ},NF g w l vs->NF g' w' l vs
 |[],_,r=>r
 |(⟨_,_⟩,_)::_,_,⟨v,vs',e,r1,r2,r3⟩=>⟨v,vs',e,V1 h r1,aAP h r2,aAQ h r3⟩
theorem aAR {g g':Gh}{w w':pU}(h:Le g w g' w'): ∀{d:DV}{v:pV},AS g w d v->AS g' w' d v
 | .any,_,r=>r
 | .nilS,_,r=>r
 | .val _ _,_,r=>V1 h r
 | .at t _,_,⟨b,o,cs,e,h1,h2,h3⟩=>⟨b,o,cs,e,fun j v hv=>by
   by_cases hj:j<t.cells
   .rw[h.cell _ _ (h2 j hj)];exact h1 j v hv
   .exact absurd (aVq.1 hv).1 (by rw[sY h3];exact hj),fun j hj=>h.S _ _ (h2 j hj),wT h h3⟩
 | .tup _,_,⟨vs,e,r⟩=>⟨vs,e,aAQ h r⟩
 | .cond _ _,_,⟨r1,r2⟩=>⟨fun p=>aAR h (r1 p),r2⟩
 | .flag _ _,_,r=>r
 | .own _ _,_,⟨h1,h2⟩=>⟨h.cur _ _ _ h1,h2⟩
 | .nxt _ _ _,_,r=>r
 | .elt _ _ _ _ _,_,⟨b,cap,h1,h2⟩=>⟨b,cap,h.cur _ _ _ h1,h2⟩
theorem CC {g g':Gh}{w w':pU}(h:Le g w g' w') {s:qI}{v:pV}(r:s3 g w s v):s3 g' w' s v:=by
 obtain⟨d,k⟩:=s;refine⟨aAR h r.1,?_⟩;have r2:=r.2;cases k with
 |none=>trivial
 |some k=>
  cases d with
  |val t x=>exact aAP h r2
  |_=>exact r2.elim
theorem BP {g:Gh}{w:pU}: ∀{t:Ty}{x:t.den}{cs:pQ},Rd g w t x cs->∀v∈cs,v.oneCell'=true
 | .bool,_,_,r=>by cases r;intro v hv;simp at hv;subst hv;rfl
 | .int _,_,_,r=>by cases r;intro v hv;simp at hv;subst hv;rfl
 | .str,_,_,r=>by cases r;intro v hv;simp at hv;subst hv;rfl
 | .unit,_,_,r=>by cases r;intro v hv;simp at hv
 | .ref,none,_,r=>by cases r;intro v hv;simp at hv;subst hv;rfl
 | .ref,some (_,_),_,⟨_,_,e⟩=>by cases e;intro v hv;simp at hv;subst hv;rfl
 | .clo,none,_,r=>by cases r;intro v hv;simp at hv;subst hv;rfl
 | .clo,some (_,_),_,⟨_,_,e⟩=>by cases e;intro v hv;simp at hv;subst hv;rfl
 | .mp,none,_,r=>by cases r;intro v hv;simp at hv;subst hv;rfl
 | .mp,some _,_,⟨_,_,e⟩=>by cases e;intro v hv;simp at hv;subst hv;rfl
 | .fn,none,_,r=>by cases r;intro v hv;simp at hv;subst hv;rfl
 | .fn,some _,_,r=>by cases r;intro v hv;simp at hv;subst hv;rfl
 | .rl _ _,none,_,r=>by cases r;intro v hv;simp at hv;subst hv;rfl
 | .rl _ _,some (_,_),_,⟨_,_,e,hs⟩=>by
  cases e;intro v hv;simp at hv;subst hv;rcases hs with⟨rfl,_⟩ |⟨_,_,rfl,_⟩<;>rfl
 | .mref,none,_,r=>by cases r;intro v hv;simp at hv;subst hv;rfl
 | .mref,some (_,_),_,⟨_,_,_,e⟩=>by rcases e with e|e<;>(cases e;intro v hv;simp at hv;subst hv;rfl)
 | .pair _ _,_,_,⟨c1,c2,e,r1,r2⟩=>by
  subst e;intro v hv;rcases aWa.1 hv with h|h
  .exact BP r1 v h
  .exact BP r2 v h
 | .list _,_,_,⟨_,_,e,_,_⟩=>by cases e;intro v hv;simp at hv;subst hv;rfl
theorem w7 {g g':Gh}{w:pU}(hS:g'.S=g.S): ∀{t:Ty}{x:t.den}{cs:pQ},t.pure=true->Rd g w t x cs->Rd g' w t x cs
 | .bool,_,_,_,r=>r
 | .int _,_,_,_,r=>r
 | .str,_,_,_,r=>r
 | .unit,_,_,_,r=>r
 | .ref,_,_,h,_=>by simp [Ty.pure] at h
 | .clo,_,_,h,_=>by simp [Ty.pure] at h
 | .mp,_,_,h,_=>by simp [Ty.pure] at h
 | .rl _ _,_,_,h,_=>by simp [Ty.pure] at h
 | .fn,_,_,_,r=>r
 | .mref,_,_,h,_=>by simp [Ty.pure] at h
 | .pair _ _,_,_,h,⟨c1,c2,e,r1,r2⟩=>by
  simp only[Ty.pure,aVg] at h;exact⟨c1,c2,e,w7 hS h.1 r1,w7 hS h.2 r2⟩
 | .list _,_,_,h,⟨a,cap,e,hle,hl⟩=>by
  simp only[Ty.pure] at h;exact⟨a,cap,e,hle,hl.imp id fun⟨b,o,ea,hr⟩=>⟨b,o,ea,a0o (fun _ _ r=>w7 hS h r) (fun _ q=>by rw[hS];exact q) (fun _ _=>rfl) hr⟩⟩
def EZ (g:Gh) (w:pU) (k v:Ty):List (k.den×v.den)->List MapEntry->Prop
 |[],es=>es=[]
 |(a,b)::l,es=> ∃e es',es=e::es'/\tJ g w k a e.key/\tJ g w v b e.val/\EZ g w k v l es'
theorem a0p {g g':Gh}{w w':pU}(h:Le g w g' w') {k v:Ty}: ∀{l:List (k.den×v.den)}{es:List MapEntry},EZ g w k v l es->EZ g' w' k v l es
 |[],_,r=>r
 |_::_,_,⟨e,es',h1,h2,h3,h4⟩=>⟨e,es',h1,V1 h h2,V1 h h3,a0p h h4⟩
theorem aAS {g g':Gh}{w:pU}(hS:g'.S=g.S) {t:Ty}{x:t.den}{v:pV}(hp:t.pure=true) (r:tJ g w t x v):tJ g' w t x v:=
 r.imp (fun⟨a,cs,e,q⟩=>⟨a,cs,e,w7 hS hp q⟩) (fun⟨a,q⟩=>⟨a,w7 hS hp q⟩)
theorem QM {g g':Gh}{w:pU}(hS:g'.S=g.S) {k v:Ty}(hk:k.pure=true) (hv:v.pure=true): ∀{l:List (k.den×v.den)}{es:List MapEntry},EZ g w k v l es->EZ g' w k v l es
 |[],_,r=>r
 |_::_,_,⟨e,es',h1,h2,h3,h4⟩=>⟨e,es',h1,aAS hS hk h2,aAS hS hv h3,QM hS hk hv h4⟩
def tT {α:Type}(R:α->pQ->Prop) (c:Nat):List α->pQ->Prop
 |[],cs=>cs=[]
 |x::xs,cs=> ∃c1 c2,cs=c1++c2/\c1.length=c/\R x c1/\tT R c xs c2
theorem J5 {α:Type}{R:α->pQ->Prop}{c:Nat}: ∀{l:List α}{cs:pQ},tT R c l cs->cs.length=l.length*c
 |[],_,h=>by rw[h];simp
 |_::l,_,⟨c1,c2,e,h1,_,h3⟩=>by rw[e,aVc,h1,J5 h3,aVd,aWi];omega
theorem QN {α:Type}{R:α->pQ->Prop}{c:Nat}: ∀{l m:List α}{cs ds:pQ},tT R c l cs->tT R c m ds->tT R c (l++m) (cs++ds)
 |[],_,_,_,h,k=>by rw[h];exact k
 |_::_,_,_,_,⟨c1,c2,e,h1,h2,h3⟩,k=>⟨c1,c2++_,by rw[e,aVi],h1,h2,QN h3 k⟩
theorem D8 {α:Type}{R R':α->pQ->Prop}{c:Nat}(hR: ∀x cs,R x cs->R' x cs): ∀{l:List α}{cs:pQ},tT R c l cs->tT R' c l cs
 |[],_,h=>h
 |_::_,_,⟨c1,c2,e,h1,h2,h3⟩=>⟨c1,c2,e,h1,hR _ _ h2,D8 hR h3⟩
theorem F0 {g:Gh}{w:pU}{u:Ty}: ∀{t:Ty}{x:t.den}{cs:pQ}{o:Nat}{y:u.den},Rd g w t x cs->rN u t x o=some y->
  ∃c1 c2 c3,cs=c1++c2++c3/\c1.length=o/\Rd g w u y c2:=by
 intro t
 induction t with
 |pair a b iha ihb=>
  intro x cs o y r h;obtain⟨c1,c2,e,r1,r2⟩:=r;have key: ∀o,(if o<a.cells then rN u a x.1 o else rN u b x.2 (o-a.cells))=some y->∃d1 d2 d3,cs=d1++d2++d3/\d1.length=o/\Rd g w u y d2:=by
   intro o h;by_cases ho:o<a.cells
   .rw[aU8 ho] at h;obtain⟨d1,d2,d3,e',hl,hr⟩:=iha r1 h;exact⟨d1,d2,d3++c2,by rw[e,e'];simp,hl,hr⟩
   .rw[aVa ho] at h;obtain⟨d1,d2,d3,e',hl,hr⟩:=ihb r2 h;refine⟨c1++d1,d2,d3,by rw[e,e'];simp,?_,hr⟩;rw[aVc,hl,sY r1];omega
  cases o with
  |zero=>
   unfold rN at h;by_cases hu:Ty.pair a b=u
   .rw[aXm hu] at h;subst hu;simp only[uV,aU9] at h;subst h;exact⟨[],cs,[],by simp,rfl,⟨c1,c2,e,r1,r2⟩⟩
   .rw[aWW hu] at h;refine key 0 ?_;simpa using h
  |succ o=>exact key (o+1) (by simpa[rN] using h)
 |_=>
  intro x cs o y r h;cases o with
  |zero=>
   unfold rN at h;split at h
   .rename_i hu;subst hu;simp only[uV,aU9] at h
    try subst h
    exact⟨[],cs,[],by simp,rfl,r⟩
   .simp at h
  |succ o=>simp [rN] at h
theorem V2 {g:Gh}{w:pU}{u:Ty}{y:u.den}{cy:pQ}(hy:Rd g w u y cy): ∀{t:Ty}{x z:t.den}{cs:pQ}{o:Nat},Rd g w t x cs->sW u y t x o=some z->
  ∃c1 c2 c3,cs=c1++c2++c3/\c1.length=o/\c2.length=u.cells/\Rd g w t z (c1++cy++c3):=by
 intro t
 induction t with
 |pair a b iha ihb=>
  intro x z cs o r h;obtain⟨c1,c2,e,r1,r2⟩:=r;have key: ∀o,(if o<a.cells then(sW u y a x.1 o).map (fun q=>(q,x.2)) else(sW u y b x.2 (o-a.cells)).map (fun q=>(x.1,q)))=some z->
    ∃d1 d2 d3,cs=d1++d2++d3/\d1.length=o/\d2.length=u.cells/\Rd g w (.pair a b) z (d1++cy++d3):=by
   intro o h;by_cases ho:o<a.cells
   .rw[aU8 ho] at h;obtain⟨q,hq,rfl⟩:=aVo.1 h;obtain⟨d1,d2,d3,e',hl,hl2,hr⟩:=iha r1 hq;exact⟨d1,d2,d3++c2,by rw[e,e'];simp,hl,hl2,⟨d1++cy++d3,c2,by simp,hr,r2⟩⟩
   .rw[aVa ho] at h;obtain⟨q,hq,rfl⟩:=aVo.1 h;obtain⟨d1,d2,d3,e',hl,hl2,hr⟩:=ihb r2 hq;refine⟨c1++d1,d2,d3,by rw[e,e'];simp,?_,hl2,⟨c1,d1++cy++d3,by simp,r1,hr⟩⟩;rw[aVc,hl,sY r1];omega
  cases o with
  |zero=>
   unfold sW at h;by_cases hu:u=Ty.pair a b
   .rw[aXm hu] at h;subst hu;simp only[uV,aU9] at h;subst h;exact⟨[],cs,[],by simp,rfl,sY (t:= .pair a b) (x:=x) ⟨c1,c2,e,r1,r2⟩,by simpa using hy⟩
   .rw[aWW hu] at h;refine key 0 ?_;simpa using h
  |succ o=>exact key (o+1) (by simpa[sW] using h)
 |_=>
  intro x z cs o r h;cases o with
  |zero=>
   unfold sW at h;split at h
   .rename_i hu;subst hu;simp only[uV,aU9] at h
    try subst h
    exact⟨[],cs,[],by simp,rfl,sY r,by simpa using hy⟩
   .simp at h
  |succ o=>simp [sW] at h
theorem aKo {e:Nat}{u:Ty}{kn:pR}: ∀{t:Ty}{x:t.den}{o:Nat}{q: Σ t:Ty,t.den},yE e u kn t x o=some q->q.1.cells=t.cells:=by
 intro t
 induction t with
 |pair a b iha ihb=>
  intro x o q h;unfold yE at h;split at h
  .cases hq:yE e u kn a x.1 o with
   |none=>rw[hq] at h;cases h
   |some r=>
    obtain⟨a',x'⟩:=r;rw[hq] at h;simp only[ZQ,aU9] at h;subst h;have:=iha hq;simp only[Ty.cells] at this|-;omega
  .cases hq:yE e u kn b x.2 (o-a.cells) with
   |none=>rw[hq] at h;cases h
   |some r=>
    obtain⟨b',y'⟩:=r;rw[hq] at h;simp only[ZR,aU9] at h;subst h;have:=ihb hq;simp only[Ty.cells] at this|-;omega
 |list v=>
  intro x o q h;cases o with
  |zero=>
   simp only[yE] at h;split at h
   .simp only[aU9] at h;subst h;rfl
   .cases h
  |succ o=>simp [yE] at h
 |_=>intro x o q h;cases o<;>simp [yE] at h
theorem aKp {g:Gh}{w:pU}{e:Nat}{u:Ty}{kn:pR}{cy:pQ}(hy:E3 g kn cy): ∀{t:Ty}{x:t.den}{cs:pQ}{o:Nat}{q: Σ t:Ty,t.den},Rd g w t x cs->yE e u kn t x o=some q->
  ∃c1 c2 c3,cs=c1++c2++c3/\c1.length=o/\c2.length=1/\Rd g w q.1 q.2 (c1++cy++c3):=by
 intro t
 induction t with
 |pair a b iha ihb=>
  intro x cs o q r h;obtain⟨c1,c2,e1,r1,r2⟩:=r;unfold yE at h;split at h
  .cases hq:yE e u kn a x.1 o with
   |none=>rw[hq] at h;cases h
   |some z=>
    obtain⟨a',x'⟩:=z;rw[hq] at h;simp only[ZQ,aU9] at h;subst h;obtain⟨d1,d2,d3,e',hl,hl2,hr⟩:=iha r1 hq;exact⟨d1,d2,d3++c2,by rw[e1,e'];simp,hl,hl2,⟨d1++cy++d3,c2,by simp,hr,r2⟩⟩
  .cases hq:yE e u kn b x.2 (o-a.cells) with
   |none=>rw[hq] at h;cases h
   |some z=>
    obtain⟨b',y'⟩:=z;rw[hq] at h;simp only[ZR,aU9] at h;subst h;obtain⟨d1,d2,d3,e',hl,hl2,hr⟩:=ihb r2 hq;refine⟨c1++d1,d2,d3,by rw[e1,e'];simp,?_,hl2,⟨c1,d1++cy++d3,by simp,r1,hr⟩⟩;rw[aVc,hl,sY r1];omega
 |list v=>
  intro x cs o q r h;cases o with
  |zero=>
   simp only[yE] at h;split at h
   .simp only[aU9] at h;subst h;exact⟨[],cs,[],by simp,rfl,sY r,by rw[List.nil_append,List.append_nil];exact hy⟩
   .cases h
  |succ o=>simp [yE] at h
 |_=>intro x cs o q r h;cases o<;>simp [yE] at h
def HH (g:Gh) (t:Ty) (x:t.den) (cs:pQ) (toks:pO):Prop:=
 ∀o k,(o,k)∈toks->∃(u:Ty) (l:List u.den) (v:pV),rN (.list u) t x o=some l/\cs[o]? =some v/\g.cur k l.length=some v
def aKq (w:pU) (p:Pl) (n:Nat):Prop:=w.there p.1 p.2 n/\(0<n->∀s,p.3=some s->w.shape? p.1=some s)
theorem F1 {w:pU}{b:Nat}{s:TypeId×Nat}(h:w.shape? b=some s):b<w.heap.size:=by
 unfold World.shape? at h;cases hb:w.heap[b]? with
 |none=>rw[hb] at h;cases h
 |some x=>exact(aVz.1 hb).1
theorem F2 {w w':pU}{b:Nat}(h:w'.heap[b]? =w.heap[b]?):w'.shape? b=w.shape? b:=by
 unfold World.shape?;rw[h]
def AT (g:Gh) (w:pU) (i:Nat):qH->Prop
 | .cells t x toks=> ∃p cs,g.J i=some p/\Rd g w t x cs/\w.rangeAt p.1 p.2 cs/\aKq w p t.cells/\(∀j,j<t.cells->¬g.S p.1 (p.2+j))/\HH g t x cs toks
 | .grow e c n=> ∃v xs,g.cur i n=some v/\w.ownsRow 0 e c v n xs/\(∀m,n<m->g.cur i m=none)/\∀b,v.ownBlock=some b->∀o,g.S b o->o<n*c
 | .row e t l n=>l.length=n/\∃v xs,g.cur i n=some v/\w.ownsRow 0 e t.cells v n xs/\tT (Rd g w t) t.cells l xs/\(∀m,n<m->g.cur i m=none)/\∀b,v.ownBlock=some b->∀o,¬g.S b o
 | .map k v l=> ∃p es clock,g.J i=some p/\p.2=0/\w.heap[p.1]? =some (.map es clock)/\EZ g w k v l es.toList/\∀o,¬g.S p.1 o
 | .iter s n=> ∃p,g.J i=some p/\p.2=0/\w.heap[p.1]? =some (.stringIter ⟨s.toArray⟩ n)/\∀o,¬g.S p.1 o
 | .dead=>True
def sE (g:Gh) (i:Nat):qH->Nat->Nat->Prop
 | .cells t _ _,b,o=> ∃p,g.J i=some p/\b=p.1/\p.2<=o/\o<p.2+t.cells
 | .grow _ _ n,b,_=> ∃v,g.cur i n=some v/\v.ownBlock=some b
 | .row _ _ _ n,b,_=> ∃v,g.cur i n=some v/\v.ownBlock=some b
 | .map _ _ _,b,_=> ∃p,g.J i=some p/\b=p.1
 | .iter _ _,b,_=> ∃p,g.J i=some p/\b=p.1
 | .dead,_,_=>False
structure sK (g:Gh) (w:pU) (H:sD):Prop where
 blk: ∀i b,qM H i=some b->AT g w i b
 dis: ∀i j bi bj b o,i≠j->qM H i=some bi->qM H j=some bj->sE g i bi b o->sE g j bj b o->False
 sl: ∀b o,g.S b o->b<w.heap.size
 tab:KO w/\∀i blk b o,qM H i=some blk->sE g i blk b o->NG<=b
def t8 (g:Gh) (H:sD) (ids:pT) (b o:Nat):Prop:= ∃i blk,i∈ids/\qM H i=some blk/\sE g i blk b o
structure Fr (A:Nat->Nat->Prop) (w w':pU) (S S':Nat->Nat->Prop):Prop where
 os:w'.os=w.os
 tape:w'.tape=w.tape
 output:w'.output=w.output
 size:w.heap.size<=w'.heap.size
 blk: ∀b,b<w.heap.size->(∀o,¬A b o)->w'.heap[b]? =w.heap[b]?
 cell: ∀b o,b<w.heap.size->¬A b o->w'.cell? ⟨b,o,none⟩=w.cell? ⟨b,o,none⟩/\w'.frozen? ⟨b,o,none⟩=w.frozen? ⟨b,o,none⟩
 new: ∀b o,S' b o->S b o\/w.heap.size<=b\/A b o
 shape: ∀b s,w.shape? b=some s->w'.shape? b=some s\/∀o,A b o
theorem Fr.refl (A:Nat->Nat->Prop) (w:pU) (S:Nat->Nat->Prop):Fr A w w S S:=
 ⟨rfl,rfl,rfl,aVp _,fun _ _ _=>rfl,fun _ _ _ _=>⟨rfl,rfl⟩,fun _ _ h=> .inl h,fun _ _ h=> .inl h⟩
theorem Fr.trans {A B:Nat->Nat->Prop}{w w' w'':pU}{S S' S'':Nat->Nat->Prop}(h:Fr A w w' S S') (k:Fr B w' w'' S' S'') (hB: ∀b o,B b o->w.heap.size<=b\/A b o):Fr A w w'' S S'':=by
 refine⟨k.os.trans h.os,k.tape.trans h.tape,k.output.trans h.output,aV7 h.size k.size,fun b hb hA=> ?_,fun b o hb hA=> ?_,fun b o hs=> ?_,fun b s hs=> ?_⟩
 .refine(k.blk b (aVP hb h.size) fun o ho=> ?_).trans (h.blk b hb hA);rcases hB b o ho with h1|h1
  .omega
  .exact hA o h1
 .have h1:=h.cell b o hb hA;have h2:=k.cell b o (aVP hb h.size) (fun ho=>by
   rcases hB b o ho with h1|h1
   .omega
   .exact hA h1)
  exact⟨h2.1.trans h1.1,h2.2.trans h1.2⟩
 .rcases k.new b o hs with h1|h1|h1
  .exact h.new b o h1
  .exact .inr (.inl (aV7 h.size h1))
  .exact .inr (hB b o h1)
 .rcases h.shape b s hs with h1|h1
  .rcases k.shape b s h1 with h2|h2
   .exact .inl h2
   .refine .inr fun o=>(hB b o (h2 o)).resolve_left ?_;have:=F1 hs;omega
  .exact .inr h1
structure sG (g:Gh) (w:pU) (H:sD) (e:qT) (g':Gh) (w':pU) (v:pV):Prop where
 le:Le g w g' w'
 slot:s3 g' w' e.slot v
 heap:sK g' w' (rD e.upd H)
 fr:Fr (t8 g H (qO e.upd)) w w' g.S g'.S
 perm: ∀i blk b o,i∈qO e.upd->qM (rD e.upd H) i=some blk->sE g' i blk b o->w.heap.size<=b\/t8 g H (qO e.upd) b o
 gho: ∀i,i∉qO e.upd->g'.J i=g.J i/\g'.cur i=g.cur i
 ty: ∀i u y us,qM (rD e.upd H) i=some (.cells u y us)->(∃x ts,qM H i=some (.cells u x ts))\/(g.J i=none/\∀n,g.cur i n=none)
structure AU (g:Gh) (w:pU) (H:sD) (e:qT) (g':Gh) (w':pU) (v:pV):Prop where
 le:Le g w g' w'
 slot:s3 g' w' e.slot v
 heap:sK g' w' (rD e.upd H)
 fr:Fr (t8 g H (qO e.upd)) w w' g.S g'.S
 perm: ∀i blk b o,i∈qO e.upd->qM (rD e.upd H) i=some blk->sE g' i blk b o->w.heap.size<=b\/t8 g H (qO e.upd) b o
 gho: ∀i,i∉qO e.upd->g'.J i=g.J i/\g'.cur i=g.cur i
 ty:IT e.rds=false->∀i u y us,qM (rD e.upd H) i=some (.cells u y us)->(∃x ts,qM H i=some (.cells u x ts))\/(g.J i=none/\∀n,g.cur i n=none)
theorem sG.w {g:Gh}{w:pU}{H:sD}{e:qT}{g':Gh}{w':pU}{v:pV}(h:sG g w H e g' w' v):AU g w H e g' w' v:=⟨h.le,h.slot,h.heap,h.fr,h.perm,h.gho,fun _=>h.ty⟩
theorem NH {w:pU}{B:Nat}{e:TypeId}{c n:Nat}{v:pV}{xs:pQ}(h:w.ownsRow B e c v n xs) {b:Nat}(hb:v.ownBlock=some b):b<w.heap.size:=(h.lt b hb).2
theorem V3 {w:pU}{b o:Nat}{v:pV}(h:w.cell? ⟨b,o,none⟩=some v):b<w.heap.size:=by
 have:=World.block_lt_of_cell? w ⟨b,o,none⟩ h;exact this
theorem QO {g:Gh}{w:pU}{i:Nat}{blk:qH}(h:AT g w i blk) {b o:Nat}(ho:sE g i blk b o):b<w.heap.size:=by
 cases blk with
 |cells t x toks=>
  obtain⟨p,cs,hp,_,_,ht,_⟩:=h;obtain⟨q,hq,rfl,h1,h2⟩:=ho;rw[hp] at hq;obtain rfl:=aVe hq;have:=(ht.1 (o-p.2) pJ).1;obtain⟨v,hv⟩:=aVb.1 this;exact V3 hv
 |grow e c n=>
  obtain⟨v,xs,hv,hr,_⟩:=h;obtain⟨v',hv',hb⟩:=ho;rw[hv] at hv';obtain rfl:=aVe hv';exact NH hr hb
 |row e t l n=>
  obtain⟨_,v,xs,hv,hr,_⟩:=h;obtain⟨v',hv',hb⟩:=ho;rw[hv] at hv';obtain rfl:=aVe hv';exact NH hr hb
 |map k v l=>
  obtain⟨p,es,cl,hp,_,hh,_,_⟩:=h;obtain⟨q,hq,rfl⟩:=ho;rw[hp] at hq;obtain rfl:=aVe hq;exact(aVz.1 hh).1
 |iter s n=>
  obtain⟨p,hp,_,hh,_⟩:=h;obtain⟨q,hq,rfl⟩:=ho;rw[hp] at hq;obtain rfl:=aVe hq;exact(aVz.1 hh).1
 |dead=>exact ho.elim
theorem aAT {g g':Gh}(hc: ∀k n v,g.cur k n=some v->g'.cur k n=some v) {t:Ty}{x:t.den}{cs:pQ}{toks:pO}(h:HH g t x cs toks):HH g' t x cs toks:=
 fun o k hm=>let ⟨u,l,v,h1,h2,h3⟩:=h o k hm;⟨u,l,v,h1,h2,hc _ _ _ h3⟩
theorem L8 {g g':Gh}{w w':pU}{i:Nat}{blk:qH}(h:AT g w i blk) (le:Le g w g' w') (hJ:g'.J i=g.J i) (hcur:g'.cur i=g.cur i)
  (hc: ∀b o,sE g i blk b o->w'.cell? ⟨b,o,none⟩=w.cell? ⟨b,o,none⟩/\w'.frozen? ⟨b,o,none⟩=w.frozen? ⟨b,o,none⟩)
  (hb: ∀b,(∀o,sE g i blk b o)->w'.heap[b]? =w.heap[b]?) (hS: ∀b o,sE g i blk b o->g'.S b o->g.S b o) (hsh: ∀b o s,sE g i blk b o->w.shape? b=some s->w'.shape? b=some s):AT g' w' i blk:=by
 cases blk with
 |cells t x toks=>
  obtain⟨p,cs,hp,hr,hra,ht,hs,htk⟩:=h;have ho: ∀j,j<t.cells->sE g i (.cells t x toks) p.1 (p.2+j):=fun j hj=>⟨p,hp,rfl,pJ,pJ⟩;refine⟨p,cs,hJ.trans hp,wT le hr,fun j v hv=> ?_,⟨fun j hj=> ?_,fun h0 s hs3=>hsh _ _ _ (ho 0 h0) (ht.2 h0 s hs3)⟩,fun j hj hs'=>hs j hj (hS _ _ (ho j hj) hs'),aAT le.cur htk⟩
  .have hj:j<t.cells:=sY hr▸(aVq.1 hv).1;rw[(hc _ _ (ho j hj)).1];exact hra j v hv
  .rw[(hc _ _ (ho j hj)).1,(hc _ _ (ho j hj)).2];exact ht.1 j hj
 |grow e c n=>
  obtain⟨v,xs,hv,hr,hn,hs⟩:=h;have hbl: ∀b,v.ownBlock=some b->∀o,sE g i (.grow e c n) b o:=fun b hb o=>⟨v,hv,hb⟩;refine⟨v,xs,by rw[hcur];exact hv,⟨hr.1,?_⟩,fun m hm=>by rw[hcur];exact hn m hm,fun b hvb o hs'=>hs b hvb o (hS _ _ (hbl b hvb o) hs')⟩;rcases hr.2 with h0|⟨q,cap,cur,e1,e2,e3,e4⟩
  .exact .inl h0
  .subst e1;exact .inr ⟨q,cap,cur,rfl,e2,by rw[hb q (hbl q rfl)];exact e3,e4⟩
 |row e t l n=>
  obtain⟨hl,v,xs,hv,hr,hF,hn,hs⟩:=h;have hbl: ∀b,v.ownBlock=some b->∀o,sE g i (.row e t l n) b o:=fun b hb o=>⟨v,hv,hb⟩;refine⟨hl,v,xs,by rw[hcur];exact hv,⟨hr.1,?_⟩,D8 (fun _ _ h=>wT le h) hF,fun m hm=>by rw[hcur];exact hn m hm,fun b hvb o hs'=>hs b hvb o (hS _ _ (hbl b hvb o) hs')⟩;rcases hr.2 with h0|⟨q,cap,cur,e1,e2,e3,e4⟩
  .exact .inl h0
  .subst e1;exact .inr ⟨q,cap,cur,rfl,e2,by rw[hb q (hbl q rfl)];exact e3,e4⟩
 |map k v l=>
  obtain⟨p,es,cl,hp,h0,hh,hM,hs⟩:=h;have hbl: ∀o,sE g i (.map k v l) p.1 o:=fun o=>⟨p,hp,rfl⟩;exact⟨p,es,cl,hJ.trans hp,h0,(hb _ hbl).trans hh,a0p le hM,fun o hs'=>hs o (hS _ _ (hbl o) hs')⟩
 |iter s n=>
  obtain⟨p,hp,h0,hh,hs⟩:=h;have hbl: ∀o,sE g i (.iter s n) p.1 o:=fun o=>⟨p,hp,rfl⟩;exact⟨p,hJ.trans hp,h0,(hb _ hbl).trans hh,fun o hs'=>hs o (hS _ _ (hbl o) hs')⟩
 |dead=>trivial
theorem zJ {g g':Gh}{i:Nat}{blk:qH}(hJ:g'.J i=g.J i) (hcur:g'.cur i=g.cur i) {b o:Nat}:sE g' i blk b o↔sE g i blk b o:=by
 cases blk<;>simp [sE,hJ,hcur]
theorem D9 {i:Nat}: ∀{u:List (Nat×qH)}{H:sD},i∉qO u->qM (rD u H) i=qM H i
 |[],_,_=>rfl
 |(k,b)::r,H,h=>by
  simp only[qO,aVs,not_or] at h;simp only[rD,qM];rw[aVa (Ne.symm h.1)];exact D9 h.2
theorem sK.upd {g g':Gh}{w w':pU}{H:sD}{u:List (Nat×qH)}(h:sK g w H) (le:Le g w g' w') (fr:Fr (t8 g H (qO u)) w w' g.S g'.S)
  (perm: ∀i blk b o,i∈qO u->qM (rD u H) i=some blk->sE g' i blk b o->w.heap.size<=b\/t8 g H (qO u) b o)
  (gho: ∀i,i∉qO u->g'.J i=g.J i/\g'.cur i=g.cur i)
  (hb: ∀i blk,i∈qO u->qM (rD u H) i=some blk->AT g' w' i blk)
  (hd: ∀i j bi bj b o,i∈qO u->j∈qO u->i≠j->qM (rD u H) i=some bi->qM (rD u H) j=some bj->sE g' i bi b o->sE g' j bj b o->False)
  (sl: ∀b o,g'.S b o->b<w'.heap.size):sK g' w' (rD u H):=by
 have out: ∀i blk,i∉qO u->qM H i=some blk->∀b o,sE g i blk b o->b<w.heap.size/\¬t8 g H (qO u) b o:=fun i blk hi hg b o ho=>
  ⟨QO (h.blk i blk hg) ho,fun⟨j,bj,hj,hgj,hoj⟩=>h.dis i j blk bj b o (fun e=>hi (e▸hj)) hg hgj ho hoj⟩
 refine⟨fun i blk hg=> ?_,fun i j bi bj b o hij hgi hgj hoi hoj=> ?_,sl,PY h.tab.1 fr.size (fun b hb=>fr.blk b (aVP hb h.tab.1.1) (fun o ⟨j,bj,_,k1,k2⟩=>Nat.not_lt.2 (h.tab.2 j bj b o k1 k2) hb)),fun i blk b o hg ho=> ?_⟩
 rotate_right
 .by_cases hi:i∈qO u
  .rcases perm i blk b o hi hg ho with h1|⟨j,bj,_,k1,k2⟩
   .exact aV7 h.tab.1.1 h1
   .exact h.tab.2 j bj b o k1 k2
  .exact h.tab.2 i blk b o ((D9 hi).symm.trans hg) ((zJ (gho i hi).1 (gho i hi).2).1 ho)
 .by_cases hi:i∈qO u
  .exact hb i blk hi hg
  .have hg0:=(D9 hi).symm.trans hg;have hk:=gho i hi;refine L8 (h.blk i blk hg0) le hk.1 hk.2 (fun b o ho=> ?_) (fun b ho=> ?_) (fun b o ho hs=> ?_) (fun b o s ho hs=>(fr.shape b s hs).resolve_right fun h1=>(out i blk hi hg0 b o ho).2 (h1 o))
   .exact fr.cell b o (out i blk hi hg0 b o ho).1 (out i blk hi hg0 b o ho).2
   .exact fr.blk b (out i blk hi hg0 b 0 (ho 0)).1 (fun o=>(out i blk hi hg0 b o (ho o)).2)
   .rcases fr.new b o hs with h1|h1|h1
    .exact h1
    .have:=(out i blk hi hg0 b o ho).1;omega
    .exact absurd h1 (out i blk hi hg0 b o ho).2
 .by_cases hi:i∈qO u<;>by_cases hj:j∈qO u
  .exact hd i j bi bj b o hi hj hij hgi hgj hoi hoj
  .have hg0:=(D9 hj).symm.trans hgj;have ho0:=(zJ (gho j hj).1 (gho j hj).2).1 hoj;rcases perm i bi b o hi hgi hoi with h1|h1
   .have:=(out j bj hj hg0 b o ho0).1;omega
   .exact(out j bj hj hg0 b o ho0).2 h1
  .have hg0:=(D9 hi).symm.trans hgi;have ho0:=(zJ (gho i hi).1 (gho i hi).2).1 hoi;rcases perm j bj b o hj hgj hoj with h1|h1
   .have:=(out i bi hi hg0 b o ho0).1;omega
   .exact(out i bi hi hg0 b o ho0).2 h1
  .exact h.dis i j bi bj b o hij ((D9 hi).symm.trans hgi) ((D9 hj).symm.trans hgj) ((zJ (gho i hi).1 (gho i hi).2).1 hoi) ((zJ (gho j hj).1 (gho j hj).2).1 hoj)
theorem sG.pure {g:Gh}{w:pU}{H:sD}{side:List Prop}{s:qI}{rds:pT}{v:pV}(h:sK g w H) (hs:s3 g w s v):sG g w H ⟨side,s,[],rds⟩ g w v:=
 ⟨.refl _ _,hs,h,.refl _ _ _,fun _ _ _ _ hi=>(by cases hi),fun _ _=>⟨rfl,rfl⟩,fun _ _ y us h=> .inl ⟨y,us,h⟩⟩
theorem AU.pure {g:Gh}{w:pU}{H:sD}{side:List Prop}{s:qI}{rds:pT}{v:pV}(h:sK g w H) (hs:s3 g w s v):AU g w H ⟨side,s,[],rds⟩ g w v:=(sG.pure h hs).w
def uB:Ty->pQ
 | .bool=>[.bool false]
 | .int k=>[.int k 0]
 | .str=>[.string ⟨#[]⟩]
 | .list _=>[.slice none 0 0]
 | .unit=>[]
 | .pair a b=>uB a++uB b
 | .ref=>[.pointer none]
 | .clo=>[.nilFunc]
 | .mp=>[.map none]
 | .rl _ _=>[.slice none 0 0]
 | .fn=>[.nilFunc]
 | .mref=>[.pointer none]
def xP (t:Ty):pV:=if t.isRow then .agg (uB t).toArray else(uB t).headD undef
def NI (P:Program):Ty->Nat->List Field->Prop
 | .unit,_,[]=>True
 | .pair a b,o,f::r=>f.offset=o/\(P.info? f.type).map (·.size)=some a.cells/\(P.underlying f.type).map (·.isRow)=some a.isRow/\NI P b (o+a.cells) r
 |_,_,_=>False
def QP (P:Program) (e:TypeId):Ty->Nat->Prop
 | .unit,0=>True
 | .pair a b,n+1=>(P.info? e).map (·.size)=some a.cells/\(P.underlying e).map (·.isRow)=some a.isRow/\QP P e b n
 |_,_=>False
inductive a0q where
 |ty (t:TypeId) |fs (o:Nat) (l:List Field) |el (e:TypeId) (i m:Nat)
inductive yV (P:Program):Nat->a0q->Ty->Prop
 |bool {h t}:P.underlying t=some .bool->yV P h (.ty t) .bool
 |int {h t k}:P.underlying t=some (.int k)->yV P h (.ty t) (.int k)
 |str {h t}:P.underlying t=some .string->yV P h (.ty t) .str
 |struct {h t fs ty}:ty.isRow=true->P.underlying t=some (.struct fs)->P.stoodInHeld t=false->yV P h (.fs 0 fs.toList) ty->yV P (h+1) (.ty t) ty
 |arr {h t e n ty}:ty.isRow=true->P.underlying t=some (.array n e)->(P.info? e).isSome=true->yV P h (.el e 0 n) ty->yV P (h+1) (.ty t) ty
 |nil {h o}:yV P h (.fs o []) .unit
 |cons {h o}{f:Field}{r a b}:f.name≠ "_" ->f.offset=o->(P.info? f.type).map (·.size)=some a.cells->(P.underlying f.type).map (·.isRow)=some a.isRow->yV P h (.ty f.type) a->yV P h (.fs (o+a.cells) r) b->yV P h (.fs o (f::r)) (.pair a b)
 |anil {h e i}:yV P h (.el e i 0) .unit
 |acons {h e i m a b}:(P.info? e).map (·.size)=some a.cells->(P.underlying e).map (·.isRow)=some a.isRow->yV P h (.ty e) a->yV P h (.el e (i+1) m) b->yV P h (.el e i (m+1)) (.pair a b)
def yW (P:Program) (t:TypeId) (ti:TI):Prop:=
 match ti.ty with
 | .bool=>P.underlying t=some .bool
 | .int k=>P.underlying t=some (.int k)
 | .str=>P.underlying t=some .string
 | .ref=> ∃e,P.underlying t=some (.pointer e)
 | .clo=> ∃a b c,P.underlying t=some (.func a b c)
 | .mp=>P.underlying t=some (.map ti.elem ti.bytes)
 | .rl _ _=> ∃e,P.underlying t=some (.slice e)
 | .fn=> ∃a b c,P.underlying t=some (.func a b c)
 | .mref=> ∃e,P.underlying t=some (.pointer e)
 | .list u=>P.underlying t=some (.slice ti.elem)/\(P.info? ti.elem).map (fun i=>(i.size,i.bytes,i.zero))=some (u.cells,ti.bytes,some (xP u))/\(P.underlying ti.elem).map (·.isRow)=some u.isRow
 |ty=>((ti.arr=false/\∃fs,P.underlying t=some (.struct fs)/\NI P ty 0 fs.toList)\/(ti.arr=true/\∃n e,P.underlying t=some (.array n e)/\QP P e ty n/\(P.info? e).isSome=true))/\(ti.bytes=1->P.eqGuardType P.depth t=false/\∃h,h<9000/\yV P h (.ty t) ty)
def tU (P:Program) (t:TypeId) (ti:TI):Prop:=(P.info? t).map (fun i=>(i.size,i.zero))=some (ti.ty.cells,some (xP ti.ty))/\yW P t ti
def xQ (P:Program):sX->Prop
 |[]=>True
 |(t,ti)::r=>tU P t ti/\xQ P r
theorem tK {P:Program}: ∀{T:sX},xQ P T->∀{t:TypeId}{ti:TI},s8 T t=some ti->tU P t ti
 |[],_,_,_,h=>by simp [s8] at h
 |(k,ti)::r,hT,t,ti',h=>by
  simp only[s8] at h;by_cases hk:k=t
  .rw[aU8 hk] at h;subst hk;rw[<-aVe h];exact hT.1
  .rw[aVa hk] at h;exact tK hT.2 h
theorem F3 (g:Gh) (w:pU): ∀t:Ty,Rd g w t t.zero (uB t)
 | .bool=>rfl
 | .int _=>rfl
 | .str=>rfl
 | .list _=>⟨none,0,rfl,aVp _,.inl rfl⟩
 | .unit=>rfl
 | .pair a b=>⟨_,_,rfl,F3 g w a,F3 g w b⟩
 | .ref=>rfl
 | .clo=>rfl
 | .mp=>rfl
 | .rl _ _=>rfl
 | .fn=>rfl
 | .mref=>rfl
theorem QQ (g:Gh) (w:pU) (t:Ty):tJ g w t t.zero (xP t):=by
 unfold tJ xP;by_cases h:t.isRow=true
 .left;rw[aU8 h];exact⟨h,_,rfl,F3 g w t⟩
 .right;rw[aVa h];refine⟨by simpa using h,?_⟩;cases t<;>first|exact F3 g w _|(simp [Ty.isRow] at h)
theorem G6 {g:Gh}{w:pU}{t:Ty}{x:t.den}{v:pV}(h:tJ g w t x v):Rd g w t x v.cells.toList:=by
 rcases h with⟨_,cs,rfl,r⟩ |⟨hr,r⟩
 .simpa[Value.cells] using r
 .have h1:=BP r v pL;have:v.cells= #[v]:=by cases v<;>first|rfl|(simp [Value.oneCell'] at h1)
  rw[this];exact r
theorem CD {g:Gh}{w:pU}{t:Ty}{x:t.den}{v:pV}(hr:t.isRow=false) (h:tJ g w t x v):Rd g w t x [v]:=by
 rcases h with⟨h1,_⟩ |⟨_,r⟩
 .rw[hr] at h1;cases h1
 .exact r
theorem wC {g:Gh}{w:pU}{k:IntKind}{n:Int}{v:pV}(h:tJ g w (.int k) n v):v= .int k n:=by
 have:=CD rfl h;simp only[Rd,aV8,and_true] at this;exact this
theorem xR {g:Gh}{w:pU}{n:Bool}{v:pV}(h:tJ g w .bool n v):v= .bool n:=by
 have:=CD rfl h;simp only[Rd,aV8,and_true] at this;exact this
theorem zK {g:Gh}{w:pU}{l:pG}{v:pV}(h:tJ g w .str l v):v= .string ⟨l.toArray⟩:=by
 have:=CD rfl h;simp only[Rd,aV8,and_true] at this;exact this
theorem F4 {g:Gh}{w:pU}{t:Ty}{l:List t.den}{v:pV}(h:tJ g w (.list t) l v): ∃a cap,v= .slice a l.length cap/\l.length<=cap/\(l=[]\/∃b o,a=some ⟨b,o,none⟩/\yU (Rd g w t) w g.S t.cells b o l):=by
 have:=CD rfl h;obtain⟨a,cap,e,h1,h2⟩:=this;simp only[aV8,and_true] at e;exact⟨a,cap,e,h1,h2⟩
theorem A0 {g:Gh}{w:pU}{i o:Nat}{v:pV}(h:tJ g w .ref (some (i,o)) v): ∃p,g.J i=some p/\v= .pointer (some ⟨p.1,p.2+o,none⟩):=by
 have:=CD rfl h;obtain⟨p,h1,e⟩:=this;simp only[aV8,and_true] at e;exact⟨p,h1,e⟩
theorem L9 {g:Gh}{w:pU}{t:Ty}{x:t.den}{v:pV}(hr:t.isRow=true) (h:tJ g w t x v): ∃cs:pQ,v= .agg cs.toArray/\Rd g w t x cs:=by
 rcases h with⟨_,r⟩ |⟨h1,_⟩
 .exact r
 .rw[hr] at h1;cases h1
theorem wU (g:Gh) (w:pU) (k:IntKind) (n:Int):tJ g w (.int k) n (.int k n):= .inr ⟨rfl,rfl⟩
theorem wV (g:Gh) (w:pU) (b:Bool):tJ g w .bool b (.bool b):= .inr ⟨rfl,rfl⟩
theorem HI (g:Gh) (w:pU) (l:pG):tJ g w .str l (.string ⟨l.toArray⟩):= .inr ⟨rfl,rfl⟩
def rR (P:Program) (o:Oper) (a:Act) (g:Gh) (w:pU) (H:sD) (e:qT):Prop:=
 ∀(K:Act->pU->Prop) (Q:Exit->Act->pU->Prop),(∀g' w' v,AU g w H e g' w' v->K (a.put o.dst v) w')->o.wp P a w K Q
theorem rR.valueW {P:Program}{o:Oper}{a:Act}{g g':Gh}{w w':pU}{H:sD}{e:qT}{v:pV}(hr:(execOp a.eval o).run P w= .ok (.value v) w') (h:AU g w H e g' w' v):rR P o a g w H e:=by
 intro K Q hK;unfold Oper.wp;rw[hr];exact hK g' w' v h
theorem rR.skipW {P:Program}{o:Oper}{a:Act}{g g':Gh}{w w':pU}{H:sD}{e:qT}(hr:(execOp a.eval o).run P w= .ok .skip w') (h:AU g w H e g' w' undef):rR P o a g w H e:=by
 intro K Q hK;unfold Oper.wp;rw[hr];exact hK g' w' undef h
theorem rR.value {P:Program}{o:Oper}{a:Act}{g g':Gh}{w w':pU}{H:sD}{e:qT}{v:pV}(hr:(execOp a.eval o).run P w= .ok (.value v) w') (h:sG g w H e g' w' v):rR P o a g w H e:= .valueW hr h.w
theorem rR.skip {P:Program}{o:Oper}{a:Act}{g g':Gh}{w w':pU}{H:sD}{e:qT}(hr:(execOp a.eval o).run P w= .ok .skip w') (h:sG g w H e g' w' undef):rR P o a g w H e:= .skipW hr h.w
theorem rR.pure {P:Program}{o:Oper}{a:Act}{g:Gh}{w:pU}{H:sD}{side:List Prop}{d:DV}{rds:pT}{v:pV}(hH:sK g w H) (hr:(execOp a.eval o).run P w= .ok (.value v) w) (h:AS g w d v):
  rR P o a g w H ⟨side,(d,none),[],rds⟩:= .value hr (.pure hH ⟨h,trivial⟩)
section
variable {P:Program}{o:Oper}{a:Act}{g:Gh}{w:pU}{H:sD}
theorem V4 {g:Gh}{w:pU}{k:IntKind}(q:Int) (hq: ∀p∈(KP k q).1,p):AS g w (KP k q).2 (.int k (k.wrap q)):=by
 cases k<;>simp only[KP] at hq|- <;>first|exact wU _ _ _ _|skip
 have h0:=hq _ (aVm.2 rfl);rw[show IntKind.i64.wrap q=q from IntWalk.i64_in q pJ];exact wU _ _ _ _
theorem aKr (g:Gh) {op:BinOp}{xt:TypeId}{x y:Operand}{k:IntKind}{m n:Int}{r:List Prop×DV}(hr:YZ k m n op=some r) (hs: ∀p∈r.1,p):
  ∃v,(do eqGuard op xt x y (.int k m) (.int k n);Go.binOp op xt (.int k m) (.int k n):Sem pV).run P w= .ok v w/\AS g w r.2 v:=by
 cases op<;>simp only[YZ,aU9,reduceCtorEq] at hr
 all_goals subst hr
 case add=>exact⟨.int k (k.wrap _),by simp [eqGuard,Go.binOp,Op.intArith],V4 _ hs⟩
 case sub=>exact⟨.int k (k.wrap _),by simp [eqGuard,Go.binOp,Op.intArith],V4 _ hs⟩
 case mul=>exact⟨.int k (k.wrap _),by simp [eqGuard,Go.binOp,Op.intArith],V4 _ hs⟩
 case eql=>exact⟨.bool (decide (m=n)),by simp [eqGuard,Go.binOp,Op.intCmp];rfl,wV _ _ _⟩
 case neq=>exact⟨.bool (!decide (m=n)),by simp [eqGuard,Go.binOp,Op.intCmp,bne];rfl,wV _ _ _⟩
 case lss=>exact⟨.bool (decide _),by simp [eqGuard,Go.binOp,Op.intCmp],wV _ _ _⟩
 case leq=>exact⟨.bool (decide _),by simp [eqGuard,Go.binOp,Op.intCmp],wV _ _ _⟩
 case gtr=>exact⟨.bool (decide (n<m)),by simp [eqGuard,Go.binOp,Op.intCmp],wV _ _ _⟩
 case geq=>exact⟨.bool (decide (n<=m)),by simp [eqGuard,Go.binOp,Op.intCmp],wV _ _ _⟩
 case quo=>
  have h0:=hs _ (aVm.2 rfl);exact⟨.int k (k.wrap (Int.tdiv m n)),by simp [eqGuard,Go.binOp,Op.intDiv,h0],wU _ _ _ _⟩
 case rem=>
  have h0:=hs _ (aVm.2 rfl);exact⟨.int k (Int.tmod m n),by simp [eqGuard,Go.binOp,Op.intDiv,h0],wU _ _ _ _⟩
 case and=>exact⟨.int k (bits .and k m n),by simp [eqGuard,Go.binOp,intBits_and],wU _ _ _ _⟩
 case or=>exact⟨.int k (bits .or k m n),by simp [eqGuard,Go.binOp,intBits_or],wU _ _ _ _⟩
 case xor=>exact⟨.int k (bits .xor k m n),by simp [eqGuard,Go.binOp,intBits_xor],wU _ _ _ _⟩
 case andNot=>exact⟨.int k (bits .andNot k m n),by simp [eqGuard,Go.binOp,intBits_andNot],wU _ _ _ _⟩
theorem QR (m n:pG):(m==n)=decide (m=n):=by rw[aWk];simp
theorem aKs (g:Gh) {op:BinOp}{xt:TypeId}{x y:Operand}{m n:pG}{r:List Prop×DV}(hr:Z1 m n op=some r) (hs: ∀p∈r.1,p):
  ∃v,(do eqGuard op xt x y (.string ⟨m.toArray⟩) (.string ⟨n.toArray⟩);Go.binOp op xt (.string ⟨m.toArray⟩) (.string ⟨n.toArray⟩):Sem pV).run P w= .ok v w/\AS g w r.2 v:=by
 have hl: ∀l:pG,(⟨l.toArray⟩:ByteArray).size=l.length:=fun l=>by simp [ByteArray.size]
 cases op<;>simp only[Z1,aU9,reduceCtorEq] at hr
 all_goals subst hr
 case add=>
  have h0:=hs _ (aVm.2 rfl);refine⟨.string ⟨(m++n).toArray⟩,?_,HI _ _ _⟩;rw[aVc] at h0;have h1: ¬(((⟨m.toArray⟩:ByteArray).size+(⟨n.toArray⟩:ByteArray).size:Nat):Int) >IntKind.i64.max:=by rw[hl,hl,show IntKind.i64.max=9223372036854775807 from by decide];omega
  simp only[eqGuard,Go.binOp,Op.stringOp,aVn,aVa h1];simp;rfl
 case eql=>exact⟨.bool (decide (m=n)),by simp [eqGuard,Go.binOp,Op.stringOp,QR],wV _ _ _⟩
 case neq=>exact⟨.bool (!decide (m=n)),by simp [eqGuard,Go.binOp,Op.stringOp,QR],wV _ _ _⟩
 case lss=>exact⟨.bool (Op.bytesLess m n),by simp [eqGuard,Go.binOp,Op.stringOp],wV _ _ _⟩
 case leq=>exact⟨.bool (Op.bytesLess m n||decide (m=n)),by simp [eqGuard,Go.binOp,Op.stringOp,QR],wV _ _ _⟩
 case gtr=>exact⟨.bool (!(Op.bytesLess m n||decide (m=n))),by simp [eqGuard,Go.binOp,Op.stringOp,QR],wV _ _ _⟩
 case geq=>exact⟨.bool (!Op.bytesLess m n),by simp [eqGuard,Go.binOp,Op.stringOp],wV _ _ _⟩
theorem LA {r:Option (List Prop×DV)}{e:qT}(h:C6 r=some e): ∃q,r=some q/\e=⟨q.1,(q.2,none),[],[]⟩:=by
 cases r with
 |none=>cases h
 |some q=>obtain⟨p,d⟩:=q;exact⟨(p,d),rfl,(aVe h).symm⟩
theorem aKt (hH:sK g w H) {op:BinOp}{xt yt:TypeId}{x y:Operand}(ho:o.op= .binOp op xt x y yt) {sx sy:qI}(hx:s3 g w sx (a.eval x)) (hy:s3 g w sy (a.eval y)) {e:qT}
  (hr:C6 (TM op sx sy)=some e) (hs: ∀p∈e.side,p):rR P o a g w H e:=by
 obtain⟨q,hq,rfl⟩:=LA hr;have go: ∀{u v:pV},a.eval x=u->a.eval y=v->(∃z,(do eqGuard op xt x y u v;Go.binOp op xt u v:Sem pV).run P w= .ok z w/\AS g w q.2 z)->rR P o a g w H ⟨q.1,(q.2,none),[],[]⟩:=by
  rintro u v rfl rfl ⟨z,hz,hd⟩;refine rR.pure hH (v:=z) ?_ hd;unfold execOp;rw[ho];simp only[aVn,aVC] at hz|-;rw[hz];rfl
 obtain⟨dx,kx⟩:=sx;obtain⟨dy,ky⟩:=sy;replace hx:=hx.1;replace hy:=hy.1;unfold TM at hq;split at hq
 .rename_i k m k1 k' n k2 e1 e2;simp only[aVD] at e1 e2;obtain⟨rfl,-⟩:=e1;obtain⟨rfl,-⟩:=e2;unfold a98 at hq;split at hq
  .cases hq;have h0:=hs _ (aVm.2 rfl);exact go (wC hx) (wC hy) ⟨.int k (Z0 k m n),by simp [eqGuard,Go.binOp,Op.shift,Z0,Int.not_lt.2 h0],wU _ _ _ _⟩
  .cases hq;have h0:=hs _ (aVm.2 rfl);exact go (wC hx) (wC hy) ⟨.int k (yC k m n),by simp [eqGuard,Go.binOp,Op.shift,yC,Int.not_lt.2 h0],wU _ _ _ _⟩
  .by_cases hk:k=k'
   .subst hk;rw[aU8 rfl] at hq;exact go (wC hx) (wC hy) (aKr g hq hs)
   .rw[aVa hk] at hq;cases hq
 .rename_i m k1 n k2 e1 e2;simp only[aVD] at e1 e2;obtain⟨rfl,-⟩:=e1;obtain⟨rfl,-⟩:=e2;exact go (zK hx) (zK hy) (aKs g hq hs)
 .cases hq
theorem aKu (hH:sK g w H) {op:UnOp}{xt:TypeId}{x:Operand}(ho:o.op= .unOp op xt x) {sx:qI}(hx:s3 g w sx (a.eval x)) {e:qT}
  (hr:C6 (Z3 op sx)=some e) (hs: ∀p∈e.side,p):rR P o a g w H e:=by
 obtain⟨q,hq,rfl⟩:=LA hr;replace hx:=hx.1;unfold Z3 at hq;split at hq
 .have:=xR hx;cases hq;refine rR.pure hH (v:= .bool _) ?_ (wV _ _ _);simp [execOp,ho,this,Op.unary]
 .rename_i k n _;have:=wC hx;cases hq;refine rR.pure hH (v:= .int k (k.wrap (-n))) ?_ (V4 _ hs);simp [execOp,ho,this,Op.unary,Op.intArith]
 .cases hq
theorem V5 {t:TypeId}{ti:TI}(h:tU P t ti): ∃d,P.underlying t=some d/\d.isRow=ti.ty.isRow:=by
 have h2:=h.2;unfold yW at h2;obtain⟨ty,el,by',ar,ls⟩:=ti;cases ty<;>simp only at h2
 case bool=>exact⟨_,h2,rfl⟩
 case int=>exact⟨_,h2,rfl⟩
 case str=>exact⟨_,h2,rfl⟩
 case list=>exact⟨_,h2.1,rfl⟩
 case ref=>obtain⟨e,h⟩:=h2;exact⟨_,h,rfl⟩
 case clo=>obtain⟨a,b,c,h⟩:=h2;exact⟨_,h,rfl⟩
 case mp=>exact⟨_,h2,rfl⟩
 case rl=>obtain⟨e,h⟩:=h2;exact⟨_,h,rfl⟩
 case fn=>obtain⟨a,b,c,h⟩:=h2;exact⟨_,h,rfl⟩
 case mref=>obtain⟨e,h⟩:=h2;exact⟨_,h,rfl⟩
 all_goals
  rcases h2.1 with⟨_,fs,h,_⟩ |⟨_,n,e,h,_⟩
  .exact⟨_,h,rfl⟩
  .exact⟨_,h,rfl⟩
theorem G7 {t:TypeId}{ti:TI}(h:tU P t ti): ∃i,P.info? t=some i/\i.size=ti.ty.cells/\i.zero=some (xP ti.ty):=by
 obtain⟨i,hi,he⟩:=aVo.1 h.1;simp only[aVD] at he;exact⟨i,hi,he.1,he.2⟩
theorem aKv {T:sX}(hT:xQ P T) (hH:sK g w H) {st dt:TypeId}{x:Operand}(ho:o.op= .convert st dt x) {sx:qI}(hx:s3 g w sx (a.eval x)) {e:qT}
  (hr:C6 (TO (s8 T st) (s8 T dt) sx)=some e):rR P o a g w H e:=by
 obtain⟨q,hq,rfl⟩:=LA hr;replace hx:=hx.1;generalize hs:s8 T st=os at hq;generalize hd:s8 T dt=od at hq;unfold TO at hq;split at hq
 .rename_i k' k _ _ _ _ k0 n _;obtain⟨d,hd1,_⟩:=V5 (tK hT hs);have hd2:=(tK hT hd).2;simp only[yW] at hd2;have:=wC hx;cases hq;refine rR.pure hH (v:= .int k (k.wrap n)) ?_ (wU _ _ _ _);simp [execOp,ho,this,Go.convert,aVu hd1,aVu hd2,Conv.intToInt]
 .rename_i k' _ _ _ _ s _;obtain⟨d,hd1,_⟩:=V5 (tK hT hs);have hd2:=(tK hT hd).2;simp only[yW] at hd2;have:=zK hx;cases hq;refine rR.pure hH (v:= .string ⟨List.toArray s⟩) ?_ (HI _ _ _);simp [execOp,ho,this,Go.convert,aVu hd1,aVu hd2]
 .cases hq
theorem V6 {α:Type}{R:α->pQ->Prop}{w:pU}{S:Nat->Nat->Prop}{c b:Nat}: ∀{l:List α}{o i:Nat}{x:α},yU R w S c b o l->l[i]? =some x->
  ∃cs,cs.length=c/\w.rangeAt b (o+i*c) cs/\(∀j,j<c->S b (o+i*c+j))/\R x cs
 |y::l,o,0,x,⟨⟨cs,h1,h2,h3,h4⟩,_⟩,h=>by
  simp only[aVI,aU9] at h;subst h;exact⟨cs,h1,by simpa using h2,by simpa using h3,h4⟩
 |y::l,o,i+1,x,⟨_,h5⟩,h=>by
  simp only[aVV] at h;obtain⟨cs,h1,h2,h3,h4⟩:=V6 h5 h;have e:o+c+i*c=o+(i+1)*c:=by rw[aWi];omega
  exact⟨cs,h1,by rw[<-e];exact h2,by rw[<-e];exact h3,h4⟩
theorem aAU {α:Type}{R:α->pQ->Prop}{w:pU}{S:Nat->Nat->Prop}{c b:Nat}: ∀{l:List α}{o:Nat}(i:Nat),yU R w S c b o l->i<=l.length->yU R w S c b (o+i*c) (l.drop i)
 |_,o,0,h,_=>by simpa using h
 |[],o,i+1,_,h=>by simp at h
 |y::l,o,i+1,⟨_,h5⟩,h=>by
  have:=aAU i h5 (by simpa using h);have e:o+c+i*c=o+(i+1)*c:=by rw[aWi];omega
  rw[<-e];simpa using this
theorem aAV {α:Type}{R:α->pQ->Prop}{w:pU}{S:Nat->Nat->Prop}{c b:Nat}: ∀{l:List α}{o:Nat}(i:Nat),yU R w S c b o l->yU R w S c b o (l.take i)
 |_,_,0,_=>by simp [yU]
 |[],_,_+1,_=>by simp [yU]
 |_::_,_,i+1,⟨h,h5⟩=>by simpa[yU] using⟨h,aAV i h5⟩
theorem a0r {g:Gh}{w:pU}: ∀{t:Ty}{x:t.den}{cs:pQ}{f:Nat}{u:Ty}{y:u.den},Rd g w t x cs->t.proj x f=some ⟨u,y⟩->
  ∃o c1 c2 c3,t.offs f=some o/\t.fld f=some u/\cs=c1++c2++c3/\c1.length=o/\Rd g w u y c2:=by
 intro t
 induction t with
 |pair a b _ ihb=>
  intro x cs f u y r h;obtain⟨c1,c2,e,r1,r2⟩:=r;cases f with
  |zero=>
   simp only[Ty.proj,aU9,Sigma.mk.injEq] at h;obtain⟨rfl,h2⟩:=h;obtain rfl:=eq_of_heq h2;exact⟨0,[],c1,c2,rfl,rfl,by simpa using e,rfl,r1⟩
  |succ f=>
   simp only[Ty.proj] at h;obtain⟨o,d1,d2,d3,h1,h2,h3,h4,h5⟩:=ihb r2 h;refine⟨a.cells+o,c1++d1,d2,d3,by simp [Ty.offs,h1],by simpa[Ty.fld] using h2,by rw[e,h3];simp,?_,h5⟩;rw[aVc,h4,sY r1]
 |_=>intro x cs f u y r h;cases f<;>simp [Ty.proj] at h
theorem a0s {P:Program}: ∀{ty:Ty}{off:Nat}{fs:List Field}{f o:Nat}{u:Ty},NI P ty off fs->ty.offs f=some o->ty.fld f=some u->
  ∃fd,fs[f]? =some fd/\fd.offset=off+o/\(P.info? fd.type).map (·.size)=some u.cells/\(P.underlying fd.type).map (·.isRow)=some u.isRow:=by
 intro ty
 induction ty with
 |pair a b _ ihb=>
  intro off fs f o u h ho hu;cases fs with
  |nil=>exact h.elim
  |cons fd fs=>
   obtain⟨h1,h2,h3,h4⟩:=h;cases f with
   |zero=>
    simp only[Ty.offs,aU9] at ho;simp only[Ty.fld,aU9] at hu;subst ho;subst hu;exact⟨fd,rfl,pJ,h2,h3⟩
   |succ f=>
    simp only[Ty.offs,aVo] at ho;obtain⟨o',ho',rfl⟩:=ho;obtain⟨fd',k1,k2,k3,k4⟩:=ihb h4 ho' hu;exact⟨fd',by simpa using k1,pJ,k3,k4⟩
 |_=>intro off fs f o u h ho hu;cases f<;>simp [Ty.offs] at ho
theorem a0t {P:Program}{e:TypeId}: ∀{ty:Ty}{n f o:Nat}{u:Ty},QP P e ty n->ty.offs f=some o->ty.fld f=some u->
  f<n/\(P.info? e).map (·.size)=some u.cells/\(P.underlying e).map (·.isRow)=some u.isRow/\o=f*u.cells:=by
 intro ty
 induction ty with
 |pair a b _ ihb=>
  intro n f o u h ho hu;cases n with
  |zero=>exact h.elim
  |succ n=>
   obtain⟨h2,h3,h4⟩:=h;cases f with
   |zero=>
    simp only[Ty.offs,aU9] at ho;simp only[Ty.fld,aU9] at hu;subst ho;subst hu;exact⟨pJ,h2,h3,by simp⟩
   |succ f=>
    simp only[Ty.offs,aVo] at ho;obtain⟨o',ho',rfl⟩:=ho;obtain⟨k1,k2,k3,k4⟩:=ihb h4 ho' hu;rw[h2] at k2;have hc:a.cells=u.cells:=aVe k2;exact⟨pJ,by rw[h2,hc],k3,by rw[k4,hc,aWi];omega⟩
 |_=>intro n f o u h ho hu;cases f<;>simp [Ty.offs] at ho
theorem QS {t:TypeId}{u:Ty}(hi:(P.info? t).map (·.size)=some u.cells) (hr:(P.underlying t).map (·.isRow)=some u.isRow) {y:u.den}{c1 c2 c3:pQ}(h:Rd g w u y c2):
  ∃v,(part t (c1++c2++c3).toArray c1.length).run P w= .ok v w/\tJ g w u y v:=by
 obtain⟨i,hi,hsz⟩:=aVo.1 hi;obtain⟨d,hd,hrow⟩:=aVo.1 hr;have hl:=sY h;by_cases hu:u.isRow=true
 .refine⟨.agg c2.toArray,?_,.inl ⟨hu,c2,rfl,h⟩⟩;have hagg:(isAgg t).run P w= .ok true w:=by
   unfold isAgg;rw[aVn,aVu hd w];rw[hu] at hrow;cases d<;>simp_all [TypeDesc.isRow]
  simp only[part,aVn,hagg,aVk,aWQ,sizeOf,typeInfo,aWg,hi,hsz,aVC];congr 2;apply aWp.1;simp [<-hl]
 .have hu':u.isRow=false:=by simpa using hu
  have h1:u.cells=1:=by cases u<;>first|rfl|(simp [Ty.isRow] at hu')
  obtain⟨v,rfl⟩: ∃v,c2=[v]:=by
   rw[h1] at hl;exact aWA.1 hl
  refine⟨v,?_,.inr ⟨hu',h⟩⟩;have hagg:(isAgg t).run P w= .ok false w:=by
   unfold isAgg;rw[aVn,aVu hd w];rw[hu'] at hrow;cases d<;>simp_all [TypeDesc.isRow]
  simp only[part,aVn,hagg,aVk];simp
theorem a0u {t:TypeId}{ti:TI}(h:tU P t ti) (hr:ti.ty.isRow=true):
  (ti.arr=false/\∃fs,P.underlying t=some (.struct fs)/\NI P ti.ty 0 fs.toList)\/(ti.arr=true/\∃n e,P.underlying t=some (.array n e)/\QP P e ti.ty n/\(P.info? e).isSome=true):=by
 have h2:=h.2;unfold yW at h2;obtain⟨ty,el,by',ar,ls⟩:=ti;cases ty<;>simp only[Ty.isRow,aWx] at hr<;>exact h2.1
theorem aAW {t:TypeId}{ti:TI}(h:tU P t ti) (hr:ti.ty.isRow=true) (ha:ti.arr=false): ∃fs,P.underlying t=some (.struct fs)/\NI P ti.ty 0 fs.toList:=by
 rcases a0u h hr with⟨_,h⟩ |⟨h,_⟩
 .exact h
 .rw[ha] at h;cases h
theorem aAX {t:TypeId}{ti:TI}(h:tU P t ti) (hr:ti.ty.isRow=true) (ha:ti.arr=true): ∃n e,P.underlying t=some (.array n e)/\QP P e ti.ty n/\(P.info? e).isSome=true:=by
 rcases a0u h hr with⟨h,_⟩ |⟨_,h⟩
 .rw[ha] at h;cases h
 .exact h
theorem aKw {t:Ty}{x:t.den}{f:Nat}{q: Σ u:Ty,u.den}(h:t.proj x f=some q):t.isRow=true:=by
 cases t<;>first|rfl|(cases f<;>simp [Ty.proj] at h)
theorem aKx {t:Ty}{f o:Nat}(h:t.offs f=some o):t.isRow=true:=by
 cases t<;>first|rfl|(cases f<;>simp [Ty.offs] at h)
end
theorem aKy (l:pG) (n:Nat) (h:n<l.length):(⟨l.toArray⟩:ByteArray)[n]? =some l[n]:=by
 have:n<(⟨l.toArray⟩:ByteArray).size:=by simpa[ByteArray.size] using h
 rw[getElem?_pos (⟨l.toArray⟩:ByteArray) n this];rfl
theorem xT {i:Int}{n:Nat}(h0:0<=i) (h1:i<n):i.toNat<n:=by omega
theorem aAY {i:Int}{n:Nat}(h0:0<=i) (h1:i.toNat<n):i<n:=by omega
section
variable {P:Program}{o:Oper}{a:Act}{g:Gh}{w:pU}{H:sD}{T:sX}(hT:xQ P T) (hH:sK g w H)
include hT hH
theorem aKz {t:TypeId}{x:Operand}{f:Nat}(ho:o.op= .field t x f) {sx:qI}(hx:s3 g w sx (a.eval x)) {e:qT}(hr:ZW f (s8 T t) sx=some e):rR P o a g w H e:=by
 generalize hs:s8 T t=ot at hr;replace hx:=hx.1;unfold ZW at hr;split at hr
 .rename_i ty el by' ls_ u y _;split at hr
  .rename_i hu;subst hu;have hty:=tK hT hs;generalize hp:u.proj y f=q at hr;cases q with
   |none=>cases hr
   |some q=>
    obtain⟨u,z⟩:=q;cases hr;have hrow:=aKw hp;obtain⟨cs,hv,hR⟩:=L9 hrow hx;obtain⟨oo,c1,c2,c3,h1,h2,rfl,rfl,h5⟩:=a0r hR hp;obtain⟨fs,hfs,hfe⟩:=aAW hty hrow rfl;obtain⟨fd,k1,k2,k3,k4⟩:=a0s hfe h1 h2;obtain⟨v,hv1,hv2⟩:=QS k3 k4 (P:=P) (c1:=c1) (c3:=c3) h5;refine rR.pure hH (v:=v) ?_ hv2;have k1':fs[f]? =some fd:=by simpa using k1
    simp only[execOp,ho,hv,Instr.field,aVn,aVu hfs,aVk,k1',asAgg,aVC,k2,aVF,hv1]
  .cases hr
 .cases hr
theorem a0v {t:TypeId}{ti:TI}(hty:tU P t ti) (har:ti.arr=false) {f oo:Nat}{u:Ty}(h1:ti.ty.offs f=some oo) (h2:ti.ty.fld f=some u) (hpos:0<u.cells) (b off:Nat):
  (Instr.fieldAt t (.pointer (some ⟨b,off,none⟩)) f).run P w= .ok (.pointer (some ⟨b,off+oo,none⟩)) w:=by
 obtain⟨fs,hfs,hfe⟩:=aAW hty (aKx h1) har;obtain⟨fd,k1,k2,k3,k4⟩:=a0s hfe h1 h2;obtain⟨i,hi,hsz⟩:=aVo.1 k3;have k1':fs[f]? =some fd:=by simpa using k1
 have hne: ¬(u.cells=0):=by omega
 simp only[Instr.fieldAt,aVn,aVu hfs,aVk,k1',Instr.sureAddr,aVC,fieldPlace,sizeOf,typeInfo,aWg,hi,hsz,aVa hne,k2,aVF,aWt]
theorem aKA {t:TypeId}{x:Operand}{f:Nat}(ho:o.op= .fieldAddr t x f) {sx:qI}(hx:s3 g w sx (a.eval x)) {e:qT}(hr:ZV f (s8 T t) sx=some e):rR P o a g w H e:=by
 generalize hs:s8 T t=ot at hr;replace hx:=hx.1;unfold ZV at hr;split at hr
 .rename_i ty el by' ls_ k n c i o' _;have hty:=tK hT hs;generalize h1:ty.offs f=o1 at hr;generalize h2:ty.fld f=o2 at hr;unfold aAz at hr;split at hr
  .split at hr
   .rename_i oo u hpos;cases hr;obtain⟨b,cap,hc,hi0,hi1,hv⟩:=hx;refine rR.pure hH (v:= .pointer (some ⟨b,i.toNat*c+o'+oo,none⟩)) ?_ ⟨b,cap,hc,hi0,hi1,by rw[aVS]⟩;simp only[execOp,ho,hv,aVn,a0v hT hH hty rfl h1 h2 hpos,aVk,aVC]
   .cases hr
  .cases hr
 .rename_i ty el by' ls_ u y _;split at hr
  .rename_i hu;subst hu;have hty:=tK hT hs;generalize hp:u.proj y f=q at hr;cases q with
   |none=>cases hr
   |some q=>
    obtain⟨u,z⟩:=q;simp only[UD] at hr;split at hr
    .rename_i hpos;cases hr;obtain⟨b,off,cs,hv,hra,hS,hR⟩:=hx;obtain⟨oo,c1,c2,c3,h1,h2,rfl,rfl,h5⟩:=a0r hR hp;refine rR.pure hH (v:= .pointer (some ⟨b,off+c1.length,none⟩)) ?_ ⟨b,off+c1.length,c2,rfl,fun j v hj=> ?_,fun j hj=> ?_,h5⟩
     .simp only[execOp,ho,hv,aVn,a0v hT hH hty rfl h1 h2 hpos,aVk,aVC]
     .have:=hra (c1.length+j) v (by
       have hj':=(aVq.1 hj).1;rw[aVi,aVl pJ,aVY,aVt hj'];exact hj)
      rw[aVS];exact this
     .have:=hS (c1.length+j) (by
       have:=sY hR;have h6:=sY h5;simp only[aVc] at this;omega)
      rw[aVS];exact this
    .cases hr
  .cases hr
 .rename_i ty el by' ls_ i off _;have hty:=tK hT hs;generalize h1:ty.offs f=o1 at hr;generalize h2:ty.fld f=o2 at hr;unfold UE at hr;split at hr
  .split at hr
   .rename_i oo u hpos;cases hr;obtain⟨p,hp,hv⟩:=A0 hx;refine rR.pure hH (v:= .pointer (some ⟨p.1,p.2+off+oo,none⟩)) ?_ (.inr ⟨rfl,p,hp,by rw[aVS]⟩);simp only[execOp,ho,hv,aVn,a0v hT hH hty rfl h1 h2 hpos,aVk,aVC]
   .cases hr
  .cases hr
 .cases hr
theorem aKB {x:Operand}{i:Nat}(ho:o.op= .extract x i) {sx:qI}(hx:s3 g w sx (a.eval x)) {e:qT}(hr:ZZ i sx=some e) (hs: ∀p∈e.side,p):rR P o a g w H e:=by
 replace hx:=hx.1;unfold ZZ at hr;split at hr
 rotate_left
 .rename_i b p c _;have run: ∀(v:pV) (vs:Array pV),a.eval x= .tuple vs->vs[i]? =some v->(execOp a.eval o).run P w= .ok (.value v) w:=by
   intro v vs h1 h2;simp [execOp,ho,h1,Instr.extract,h2]
  obtain⟨h1,h2⟩:=hx;unfold aAA at hr;split at hr
  .cases hr;cases b with
   |true=>exact rR.pure hH (run (.bool true) _ (h1 rfl) rfl) (wV _ _ _)
   |false=>exact rR.pure hH (run (.bool false) _ (h2 rfl) rfl) (wV _ _ _)
  .cases hr;have hb:=hs (b=true) pL;exact rR.pure hH (run (.int .i64 p) _ (h1 hb) rfl) (wU _ _ _ _)
  .cases hr;have hb:=hs (b=true) pL;exact rR.pure hH (run (.int .i32 c) _ (h1 hb) rfl) (wU _ _ _ _)
  .cases hr
 rotate_left
 .rename_i l _;obtain⟨vs,hv,hl⟩:=hx;have key: ∀(l:List ((Σ t:Ty,t.den)×pS)) (vs:pQ) (i:Nat),NF g w l vs->UF l i=some e->∃v,vs[i]? =some v/\s3 g w e.slot v/\e.upd=[]/\e.rds=[]:=by
   intro l
   induction l with
   |nil=>intro vs i _ h;cases i<;>cases h
   |cons q l ih=>
    obtain⟨⟨t,x⟩,k⟩:=q;rintro vs i ⟨v,vs',rfl,r1,r2,r3⟩ h;cases i with
    |zero=>
     simp only[UF,aU9] at h;subst h;refine⟨v,rfl,⟨r1,?_⟩,rfl,rfl⟩;cases k with
     |none=>trivial
     |some k=>exact r2
    |succ i=>
     obtain⟨v',h1,h2,h3,h4⟩:=ih vs' i r3 h;exact⟨v',by simpa using h1,h2,h3,h4⟩
  obtain⟨v,h1,h2,h3,h4⟩:=key l vs i hl hr;obtain⟨side,slot,upd,rds⟩:=e;simp only at h2 h3 h4;subst h3;refine rR.value (v:=v) (g':=g) (w':=w) ?_ (.pure hH h2);have:vs.toArray[i]? =some v:=by simpa using h1
  simp [execOp,ho,hv,Instr.extract,this]
 .cases hr
theorem aKC {x:Operand}(ho:o.op= .nilCheck x) {sx:qI}(hx:s3 g w sx (a.eval x)) {e:qT}(hr:ZU sx=some e):rR P o a g w H e:=by
 replace hx:=hx.1;unfold ZU at hr;split at hr
 .rename_i p _;obtain⟨i,off⟩:=p;cases hr;obtain⟨p,hp,hv⟩:=A0 hx;refine rR.pure hH (v:=a.eval x) ?_ hx;simp [execOp,ho,hv]
 .cases hr;obtain⟨b,off,cs,hv,h⟩:=hx;refine rR.pure hH (v:=a.eval x) ?_ ⟨b,off,cs,hv,h⟩;simp [execOp,ho,hv]
 .cases hr;obtain⟨b,cap,h1,h2,h3,hv⟩:=hx;refine rR.pure hH (v:=a.eval x) ?_ ⟨b,cap,h1,h2,h3,hv⟩;simp [execOp,ho,hv]
 .cases hr
theorem aKD {t:TypeId}{x ix:Operand}(ho:o.op= .index t x ix) {sx si:qI}(hx:s3 g w sx (a.eval x)) (hi:s3 g w si (a.eval ix)) {e:qT}(hr:ZY (s8 T t) sx si=some e) (hs: ∀p∈e.side,p):rR P o a g w H e:=by
 generalize hst:s8 T t=ot at hr;replace hx:=hx.1;replace hi:=hi.1;unfold ZY at hr;split at hr
 .rename_i _ _ _ _ l _ k i _;cases hr;have hb:=hs _ (aVm.2 rfl);have h2:=(tK hT hst).2;simp only[yW] at h2;have hv:=zK hx;have hvi:=wC hi;have hlt:(Int.toNat i)<List.length l:=xT hb.1 hb.2;refine rR.pure hH (v:= .int .u8 (r7 l i)) ?_ (wU _ _ _ _);have hget:(if (0:Int)<=i then(⟨List.toArray l⟩:ByteArray)[Int.toNat i]? else none)=some (l[Int.toNat i]):=by
   rw[aU8 hb.1];exact aKy l _ hlt
  have hbyte:r7 l i=((l[Int.toNat i]).toNat:Int):=by
   unfold r7;rw[aVy,aVj hlt];rfl
  simp only[execOp,ho,hv,hvi,Instr.index,asIntOf,aVn,aVC,aVk,aVu h2,hget,hbyte]
 .cases hr
theorem aKE {t:TypeId}{x ix:Operand}(ho:o.op= .indexAddr t x ix) {sx si:qI}(hx:s3 g w sx (a.eval x)) (hi:s3 g w si (a.eval ix)) {e:qT}(hr:ZX (s8 T t) sx si=some e) (hs: ∀p∈e.side,p):rR P o a g w H e:=by
 generalize hst:s8 T t=ot at hr;replace hx:=hx.1;replace hi:=hi.1;unfold ZX at hr;split at hr
 .rename_i t' el by' ar ls_ k n _ k' i _;split at hr
  .rename_i hpos;cases hr;have hb:=hs _ (aVm.2 rfl);obtain⟨h2,h3,_⟩:=(tK hT hst).2;obtain⟨ei,hei,hz⟩:=aVo.1 h3;simp only[aVD] at hz;have hvi:=wC hi;obtain⟨hc,hv⟩:=hx;rcases hv with⟨_,rfl⟩ |⟨b,cap,hv,hcap⟩
   .exact absurd (Int.lt_of_le_of_lt hb.1 hb.2) (Int.lt_irrefl 0)
   refine rR.pure hH (v:= .pointer (some ⟨b,0+Int.toNat i*t'.cells,none⟩)) ?_ ⟨b,cap,by rw[<-hv];exact hc,hb.1,hb.2,by rw[aVF,aWs]⟩;simp only[execOp,ho,hv,hvi,Instr.indexAt,asIntOf,aVn,aVC,aVk,aVu h2,sizeOf,typeInfo,aWg,hei,hz.1,aU8 hb,aWt]
  .cases hr
 .rename_i t' el by' ar ls_ t1 l _ k i _;split at hr
  .rename_i htt;subst htt;cases hr;have hb:=hs _ (aVm.2 rfl);obtain⟨h2,h3,_⟩:=(tK hT hst).2;obtain⟨ei,hei,hz⟩:=aVo.1 h3;simp only[aVD] at hz;have hvi:=wC hi;obtain⟨ad,cap,hv,hle,hl⟩:=F4 hx;have hlt:(Int.toNat i)<List.length l:=xT hb.1 hb.2;rcases hl with rfl|⟨b,off,rfl,hL⟩
   .simp at hlt
   have hnth:l[Int.toNat i]? =some (rC t1 l i):=by
    unfold rC;rw[aVy,aVj hlt];rfl
   obtain⟨cs,hc1,hc2,hc3,hc4⟩:=V6 hL hnth;refine rR.pure hH (v:= .pointer (some ⟨b,off+Int.toNat i*t1.cells,none⟩)) ?_ ⟨b,_,cs,rfl,hc2,hc3,hc4⟩;simp only[execOp,ho,hv,hvi,Instr.indexAt,asIntOf,aVn,aVC,aVk,aVu h2,sizeOf,typeInfo,aWg,hei,hz.1,aU8 hb,aWt]
  .cases hr
 .rename_i s u el by' ls_ i off _ k n _;have hty:=tK hT hst;generalize h1:(Ty.pair s u).offs (Int.toNat n)=o1 at hr;generalize h2:(Ty.pair s u).fld (Int.toNat n)=o2 at hr;unfold UE at hr;split at hr
  .split at hr
   .rename_i oo v hpos;cases hr;have hn0:=hs _ (aVm.2 rfl);obtain⟨p,hp,hv⟩:=A0 hx;have hvi:=wC hi;obtain⟨len,el',hu,hel,_⟩:=aAX hty rfl rfl;obtain⟨k1,k2,k3,k4⟩:=a0t hel h1 h2;obtain⟨ei,hei,hz⟩:=aVo.1 k2;have hb:(0:Int)<=n/\(n:Int)<(len:Int):=⟨hn0,aAY hn0 k1⟩;refine rR.pure hH (v:= .pointer (some ⟨p.1,p.2+off+oo,none⟩)) ?_ (.inr ⟨rfl,p,hp,by rw[aVS]⟩);simp only[execOp,ho,hv,hvi,Instr.indexAt,Instr.sureAddr,asIntOf,aVn,aVC,aVk,aVu hu,sizeOf,typeInfo,aWg,hei,hz,aU8 hb,aWt,k4]
   .cases hr
  .cases hr
 .rename_i s u el by' ls_ u' y _ k n _;split at hr
  .rename_i hu';subst hu';have hty:=tK hT hst;generalize hp:(Ty.pair s u).proj y (Int.toNat n)=q at hr;cases q with
   |none=>cases hr
   |some q=>
    obtain⟨v,z⟩:=q;simp only[UD] at hr;split at hr
    .rename_i hpos;cases hr;have hn0:=hs _ (aVm.2 rfl);obtain⟨b,off,cs,hv,hra,hS,hR⟩:=hx;have hvi:=wC hi;obtain⟨oo,c1,c2,c3,h1,h2,rfl,rfl,h5⟩:=a0r hR hp;obtain⟨len,el',hu,hel,_⟩:=aAX hty rfl rfl;obtain⟨k1,k2,k3,k4⟩:=a0t hel h1 h2;obtain⟨ei,hei,hz⟩:=aVo.1 k2;have hb:(0:Int)<=n/\(n:Int)<(len:Int):=⟨hn0,aAY hn0 k1⟩;refine rR.pure hH (v:= .pointer (some ⟨b,off+c1.length,none⟩)) ?_ ⟨b,off+c1.length,c2,rfl,fun j v hj=> ?_,fun j hj=> ?_,h5⟩
     .simp only[execOp,ho,hv,hvi,Instr.indexAt,Instr.sureAddr,asIntOf,aVn,aVC,aVk,aVu hu,sizeOf,typeInfo,aWg,hei,hz,aU8 hb,aWt,<-k4]
     .have:=hra (c1.length+j) v (by
       have hj':=(aVq.1 hj).1;rw[aVi,aVl pJ,aVY,aVt hj'];exact hj)
      rw[aVS];exact this
     .have:=hS (c1.length+j) (by
       have:=sY hR;have h6:=sY h5;simp only[aVc] at this;omega)
      rw[aVS];exact this
    .cases hr
  .cases hr
 .cases hr
end
theorem aAZ (off:Nat): ∀(vl:pQ) (k:Nat) (cs:Array pV) (c1 c2 c3:pQ),cs.toList=c1++c2++c3->c1.length=off+k->c2.length=vl.length->
  ((vl.zipIdx k).foldl (fun(cs:Array pV) (p:pV×Nat)=>cs.setIfInBounds (off+p.2) p.1) cs).toList=c1++vl++c3
 |[],_,cs,c1,c2,c3,h,_,h2=>by
  have:c2=[]:=aVE (by simpa using h2);subst this;simpa using h
 |v::vl,k,cs,c1,c2,c3,h,h1,h2=>by
  cases c2 with
  |nil=>simp at h2
  |cons u c2=>
   simp only[List.zipIdx_cons,List.foldl_cons];have:=aAZ off vl (k+1) (cs.setIfInBounds (off+k) v) (c1++[v]) c2 c3 (by
    rw[Array.toList_setIfInBounds,h,<-h1];simp) pM (by simpa using h2)
   rw[this];simp
theorem aKF (off:Nat) (vs cs:Array pV) (c1 c2 c3:pQ) (h:cs.toList=c1++c2++c3) (h1:c1.length=off) (h2:c2.length=vs.size):
  (vs.zipIdx.foldl (fun(cs:Array pV) (x:pV×Nat)=>match x with|(c,j)=>cs.setIfInBounds (off+j) c) cs).toList=c1++vs.toList++c3:=by
 rw[<-aXh,Array.toList_zipIdx];exact aAZ off vs.toList 0 cs c1 c2 c3 h pJ (by simpa using h2)
theorem aA0 {place:Nat->pR}{cells:Array pV}{i:Nat}{v:pV}{rest:List (Nat×pV)}{off size:Nat}{c1 c2 c3:pQ}(hp:place i=some (off,size)) (hs:v.cells.size=size)
  (h:cells.toList=c1++c2++c3) (h1:c1.length=off) (h2:c2.length=size):
  Instr.fill place cells ((i,v)::rest)=Instr.fill place (c1++v.cells.toList++c3).toArray rest:=by
 have hsz:cells.size=c1.length+c2.length+c3.length:=by rw[<-aVJ,h];simp;omega
 simp only[Instr.fill,hp];rw[aVa (by simp [hs];omega)];congr 1;apply aWp.1;rw[aKF off v.cells cells c1 c2 c3 h h1 pJ]
theorem a0w: ∀{t:Ty}{cs:pQ},N3 t=false->cs.length=t.cells->y6 t cs
 | .bool,_,_,_=>trivial
 | .int _,_,_,_=>trivial
 | .str,_,_,_=>trivial
 | .unit,_,_,_=>trivial
 | .ref,_,_,_=>trivial
 | .clo,_,_,_=>trivial
 | .mp,_,_,_=>trivial
 | .rl _ _,_,_,_=>trivial
 | .fn,_,_,_=>trivial
 | .mref,_,_,_=>trivial
 | .list _,_,h,_=>by simp [N3] at h
 | .pair a b,cs,h,hl=>by
  simp only[N3,aWr] at h;simp only[Ty.cells] at hl;exact⟨cs.take a.cells,cs.drop a.cells,by simp,by rw[aVx];omega,a0w h.1 (by rw[aVx];omega),a0w h.2 (by rw[aVh];omega)⟩
theorem a0x: ∀t:Ty,(uB t).length=t.cells
 | .bool=>rfl
 | .int _=>rfl
 | .str=>rfl
 | .unit=>rfl
 | .ref=>rfl
 | .clo=>rfl
 | .mp=>rfl
 | .rl _ _=>rfl
 | .fn=>rfl
 | .mref=>rfl
 | .list _=>rfl
 | .pair a b=>by simp only[uB,aVc,a0x a,a0x b,Ty.cells]
theorem V7: ∀t:Ty,y6 t (uB t)
 | .bool=>trivial
 | .int _=>trivial
 | .str=>trivial
 | .unit=>trivial
 | .ref=>trivial
 | .clo=>trivial
 | .mp=>trivial
 | .rl _ _=>trivial
 | .fn=>trivial
 | .mref=>trivial
 | .list _=>rfl
 | .pair a b=>⟨uB a,uB b,rfl,a0x a,V7 a,V7 b⟩
theorem aA1 {g:Gh}{w:pU}: ∀{t:Ty}{x:t.den}{cs:pQ}{o:Nat},y6 t cs->Rd g w t x cs->G0 t o=true->∃(u:Ty),rN (.list u) t x o=some []/\cs[o]? =some (.slice none 0 0):=by
 intro t
 induction t with
 |pair a b iha ihb=>
  intro x cs o hn hr hl;obtain⟨c1,c2,e,h1,h2,h3⟩:=hn;obtain⟨d1,d2,e',r1,r2⟩:=hr;have hd:c1=d1/\c2=d2:=aXg (e.symm.trans e') (by rw[h1,sY r1]);obtain⟨rfl,rfl⟩:=hd;have key: ∀(u:Ty) q,rN (.list u) (.pair a b) x q=if q<a.cells then rN (.list u) a x.1 q else rN (.list u) b x.2 (q-a.cells):=by
   intro u q;cases q with
   |zero=>
    conv=>lhs;unfold rN
    rw[aWW (by intro e;cases e),Nat.zero_sub]
   |succ q=>simp [rN]
  have hl':(if o<a.cells then G0 a o else G0 b (o-a.cells))=true:=by
   cases o<;>simpa[G0] using hl
  by_cases ho:o<a.cells
  .rw[aU8 ho] at hl';obtain⟨u,k1,k2⟩:=iha h2 r1 hl';exact⟨u,by rw[key,aU8 ho];exact k1,by rw[e,aVt pJ];exact k2⟩
  .rw[aVa ho] at hl';obtain⟨u,k1,k2⟩:=ihb h3 r2 hl';exact⟨u,by rw[key,aVa ho];exact k1,by rw[e,aVl pJ,h1];exact k2⟩
 |list u=>
  intro x cs o hn hr hl;cases o with
  |succ o=>simp [G0] at hl
  |zero=>
   obtain⟨a,cap,e,_,_⟩:=hr;have hn':cs=[.slice none 0 0]:=hn;rw[hn'] at e;simp only[aV8,aXi,and_true] at e;have:(x:List u.den)=[]:=aVE e.2.1.symm;subst this;exact⟨u,by unfold rN;simp [uV],by rw[hn'];rfl⟩
 |_=>intro x cs o hn hr hl;cases o<;>simp [G0] at hl
theorem aKG {g:Gh}{w:pU}{u:Ty}{y:u.den}{cy:pQ}(hy:Rd g w u y cy): ∀{t:Ty}{x z:t.den}{cs:pQ}{f:Nat},Rd g w t x cs->Ty.setPart u y t x f=some z->
  ∃o c1 c2 c3,t.offs f=some o/\t.fld f=some u/\cs=c1++c2++c3/\c1.length=o/\c2.length=u.cells/\Rd g w t z (c1++cy++c3)/\(y6 t cs->y6 u cy->y6 t (c1++cy++c3)):=by
 intro t
 induction t with
 |pair a b _ ihb=>
  intro x z cs f r h;obtain⟨c1,c2,e,r1,r2⟩:=r;cases f with
  |zero=>
   simp only[Ty.setPart] at h;split at h
   .rename_i hu;subst hu;simp only[uV,aU9] at h;subst h;refine⟨0,[],c1,c2,rfl,rfl,by simpa using e,rfl,sY r1,⟨cy,c2,by simp,hy,r2⟩,fun⟨d1,d2,e',k1,_,k3⟩ hcy=> ?_⟩;obtain⟨rfl,rfl⟩:=aXg (e'.symm.trans e) (by rw[k1,sY r1]);exact⟨cy,d2,by simp,sY hy,hcy,k3⟩
   .cases h
  |succ f=>
   simp only[Ty.setPart,aVo] at h;obtain⟨q,hq,rfl⟩:=h;obtain⟨o,d1,d2,d3,h1,h2,h3,h4,h5,h6,h7⟩:=ihb r2 hq;refine⟨a.cells+o,c1++d1,d2,d3,by simp [Ty.offs,h1],by simpa[Ty.fld] using h2,by rw[e,h3];simp,?_,h5,⟨c1,d1++cy++d3,by simp,r1,h6⟩,fun⟨k1,k2,e',k3,k4,k5⟩ hcy=>by
    obtain⟨rfl,rfl⟩:=aXg (e'.symm.trans e) (by rw[k3,sY r1]);exact⟨k1,d1++cy++d3,by simp,k3,k4,h7 k5 hcy⟩⟩
   rw[aVc,h4,sY r1]
 |_=>intro x z cs f r h;cases f<;>simp [Ty.setPart] at h
theorem a0y {g:Gh}{w:pU}{t:Ty}{ev:Operand->pV}{ρ:Operand->qI}{place:Nat->pR}(hp: ∀f o u,t.offs f=some o->t.fld f=some u->place f=some (o,u.cells)):
  ∀(ps:List (Nat×Operand)) (x z:t.den) (cs:pQ),Rd g w t x cs->(∀q∈ps,s3 g w (ρ q.2) (ev q.2))->BL t (some x) (v6 ρ ps)=some z->
  ∃cs',Instr.fill place cs.toArray (ps.map fun q=>(q.1,ev q.2))=some cs'.toArray/\Rd g w t z cs'/\(CA (v6 ρ ps)=true->y6 t cs->y6 t cs')
 |[],x,z,cs,r,_,h=>by
  simp only[v6,BL,aU9] at h;subst h;exact⟨cs,rfl,r,fun _ h=>h⟩
 |(i,q)::ps,x,z,cs,r,hq,h=>by
  have h0:=hq (i,q) pL;have step: ∀{u:Ty}{y:u.den}{z1:t.den},tJ g w u y (ev q)->Ty.setPart u y t x i=some z1->BL t (some z1) (v6 ρ ps)=some z->(CA (v6 ρ ((i,q)::ps))=true->y6 u (ev q).cells.toList/\CA (v6 ρ ps)=true)->
    ∃cs',Instr.fill place cs.toArray (((i,q)::ps).map fun q=>(q.1,ev q.2))=some cs'.toArray/\Rd g w t z cs'/\(CA (v6 ρ ((i,q)::ps))=true->y6 t cs->y6 t cs'):=by
   intro u y z1 hv hset h hpl;obtain⟨o,c1,c2,c3,h1,h2,rfl,h4,h5,h6,h7⟩:=aKG (G6 hv) r hset;obtain⟨cs',hf,hr,hn⟩:=a0y hp ps z1 z _ h6 (fun q hq'=>hq q (by simp [hq'])) h;refine⟨cs',?_,hr,fun hpp hcs=>hn (hpl hpp).2 (h7 hcs (hpl hpp).1)⟩;simp only[aWq];rw[aA0 (hp i o u h1 h2) (by have:=sY (G6 hv);simpa using this) (c1:=c1) (c2:=c2) (c3:=c3) pL h4 h5];exact hf
  generalize hs:ρ q=s at h0;simp only[v6,hs] at h;obtain⟨d,k⟩:=s;cases d with
  |val u y=>
   simp only[BL] at h;generalize hset:Ty.setPart u y t x i=o1 at h;cases o1 with
   |none=>cases ps with
    |nil=>simp [v6,BL] at h
    |cons p ps=>simp [v6,BL] at h
   |some z1=>
    have hpl:CA (v6 ρ ((i,q)::ps))=true->y6 u (ev q).cells.toList/\CA (v6 ρ ps)=true:=by
     intro hpp;simp only[v6,hs,CA,aVg,aVG] at hpp;exact⟨a0w hpp.1 (sY (G6 h0.1)),hpp.2⟩
    obtain⟨cs',k1,k2,k3⟩:=step h0.1 hset h hpl;exact⟨cs',k1,k2,k3⟩
  |nilS=>
   simp only[BL] at h;generalize hfl:t.fld i=fl at h;cases fl with
   |none=>cases ps<;>simp [TQ,v6,BL] at h
   |some u=>
    cases u with
    |list u=>
     simp only[TQ] at h;generalize hset:Ty.setPart (.list u) [] t x i=o1 at h;cases o1 with
     |none=>cases ps<;>simp [v6,BL] at h
     |some z1=>
      have hev:ev q= .slice none 0 0:=h0.1;refine step (u:= .list u) (y:=[]) ?_ hset h (fun hpp=> ?_)
      .rw[hev];exact .inr ⟨rfl,none,0,rfl,aVp _,.inl rfl⟩
      .simp only[v6,hs,CA] at hpp;exact⟨by rw[hev];rfl,hpp⟩
    |_=>cases ps<;>simp [TQ,v6,BL] at h
  |_=>simp [BL] at h
section
variable {P:Program}{o:Oper}{a:Act}{g:Gh}{w:pU}{H:sD}{T:sX}(hT:xQ P T) (hH:sK g w H)
include hT hH
theorem aA2 {P:Program}(w:pU): ∀(fs:List Field),(∀f∈fs,∃n,(P.info? f.type).map (·.size)=some n)->
  (fs.mapM (fun f=>do pure (f.offset,<-sizeOf f.type):Field->Sem (Nat×Nat))).run P w= .ok (fs.map fun f=>(f.offset,((P.info? f.type).map (·.size)).getD 0)) w
 |[],_=>rfl
 |f::fs,h=>by
  obtain⟨n,hn⟩:=h f pL;obtain⟨i,hi,hsz⟩:=aVo.1 hn;rw[List.mapM_cons];simp only[aVn,sizeOf,typeInfo,aWg,hi,aVk,aVC];have:=aA2 w fs (fun f hf=>h f (by simp [hf]));simp only[sizeOf,typeInfo,aVn,aWg] at this;rw[this];simp [hi]
theorem aKH {P:Program}: ∀{ty:Ty}{off:Nat}{fs:List Field},NI P ty off fs->∀f∈fs,∃n,(P.info? f.type).map (·.size)=some n:=by
 intro ty
 induction ty with
 |pair a b _ ihb=>
  intro off fs h f hf;cases fs with
  |nil=>cases hf
  |cons fd fs=>
   obtain⟨_,h2,_,h4⟩:=h;rcases aVs.1 hf with rfl|hf
   .exact⟨_,h2⟩
   .exact ihb h4 f hf
 |unit=>intro off fs h f hf;cases fs with|nil=>cases hf|cons=>exact h.elim
 |_=>intro off fs h f hf;cases fs<;>exact h.elim
omit hT hH in
theorem V8 {t:Ty}{x:t.den}{cs:pQ}{ps:List (Nat×qI)}(h:CA ps=true->y6 t (uB t)->y6 t cs):match ((DV.val t x,ZH t (CA ps)):qI) with
  |(_,none)=>True
  |(.val t x,some k)=>E4 g t x (.agg cs.toArray) (some k)
  |(_,some _)=>False:=by
 cases hp:CA ps with
 |false=>cases t<;>trivial
 |true=>
  cases t with
  |pair a b=>
   have:=h hp (V7 _);simpa[ZH,E4,Value.cells] using this
  |_=>trivial
omit hT in
theorem rR.pureS {s:qI}{v:pV}(hr:(execOp a.eval o).run P w= .ok (.value v) w) (hs:s3 g w s v):rR P o a g w H ⟨[],s,[],[]⟩:=
 rR.value hr (.pure hH hs)
theorem aKI {t:TypeId}{ps:Array (Nat×Operand)}(ho:o.op= .build t ps) {ρ:Operand->qI}(hρ: ∀q∈ps.toList,s3 g w (ρ q.2) (a.eval q.2)) {e:qT}(hr:ZI (v6 ρ ps.toList) (s8 T t)=some e):rR P o a g w H e:=by
 generalize hs:s8 T t=ot at hr;cases ot with
 |none=>cases hr
 |some ti=>
  have hty:=tK hT hs;simp only[ZI] at hr;by_cases hrow:ti.ty.isRow=true
  case neg=>rw[aVa hrow] at hr;cases hr
  rw[aU8 hrow] at hr;generalize hb:BL ti.ty (some ti.ty.zero) (v6 ρ ps.toList)=ox at hr;cases ox with
  |none=>cases hr
  |some x=>
   cases hr;obtain⟨i,hi,hsz,hz⟩:=G7 hty;have hzv:xP ti.ty= .agg (uB ti.ty).toArray:=by unfold xP;rw[aU8 hrow]
   have hzr: ∀w,(zeroValue t).run P w= .ok (.agg (uB ti.ty).toArray) w:=by
    intro w;simp [zeroValue,typeInfo,hi,hz,hzv]
   have hmap:(ps.map fun(q:Nat×Operand)=>(q.1,a.eval q.2)).toList=ps.toList.map fun q=>(q.1,a.eval q.2):=by simp
   rcases a0u hty hrow with⟨har,fs,hfs,hfe⟩ |⟨har,n,el,hu,hel,hsome⟩
   .have hpl:=aA2 (P:=P) hT hH w fs.toList (aKH hT hH hfe);obtain⟨cs',hf,hR,hN⟩:=a0y (g:=g) (w:=w) (ev:=a.eval) (ρ:=ρ) (t:=ti.ty) (place:=fun j=>((fs.map fun f=>(f.offset,((P.info? f.type).map (·.size)).getD 0))[j]?)) (fun f oo u h1 h2=>by
     obtain⟨fd,k1,k2,k3,_⟩:=a0s hfe h1 h2;have k1':fs[f]? =some fd:=by simpa using k1
     simp [k1',k2,k3]) ps.toList ti.ty.zero x (uB ti.ty) (F3 g w ti.ty) hρ hb
    refine rR.pureS hH (v:= .agg cs'.toArray) ?_ ⟨.inl ⟨hrow,cs',rfl,hR⟩,V8 hN⟩;have hmp:(fs.mapM (fun f=>do pure (f.offset,<-sizeOf f.type):Field->Sem (Nat×Nat))).run P w= .ok (fs.map fun f=>(f.offset,((P.info? f.type).map (·.size)).getD 0)) w:=by
     rw[Array.mapM_eq_mapM_toList,Sem.run_map,hpl];simp only[aVk];congr 1;apply aWp.1;simp
    simp only[execOp,ho,Instr.build,aVn,hzr,aVk,aVu hfs,hmp,Value.cells];rw[hmap,hf];rfl
   .obtain⟨cs',hf,hR,hN⟩:=a0y (g:=g) (w:=w) (ev:=a.eval) (ρ:=ρ) (t:=ti.ty) (place:=fun j=>some (j*((P.info? el).map (·.size)).getD 0,((P.info? el).map (·.size)).getD 0)) (fun f oo u h1 h2=>by
     obtain⟨k1,k2,k3,k4⟩:=a0t hel h1 h2;simp [k2,k4]) ps.toList ti.ty.zero x (uB ti.ty) (F3 g w ti.ty) hρ hb
    refine rR.pureS hH (v:= .agg cs'.toArray) ?_ ⟨.inl ⟨hrow,cs',rfl,hR⟩,V8 hN⟩;obtain⟨ei,hei⟩:=aVb.1 hsome;simp only[hei,Option.map_some,aWz] at hf;simp only[execOp,ho,Instr.build,aVn,hzr,aVk,aVu hu,sizeOf,typeInfo,aWg,hei,aVC,Value.cells];rw[hmap,hf];rfl
theorem a0z {ρ:Operand->qI}{ev:Operand->pV}: ∀{xs:List Operand}{ss:List qI},(∀x∈xs,s3 g w (ρ x) (ev x))->vU ρ xs=ss->∃vs,xs.map ev=vs/\vs.length=ss.length/\∀(i:Nat) (s:qI) (v:pV),ss[i]? =some s->vs[i]? =some v->s3 g w s v
 |[],_,_,h=>⟨[],rfl,by rw[<-h];rfl,fun i s v _ hv=>by simp at hv⟩
 |x::xs,ss,hx,h=>by
  subst h;obtain⟨vs,h1,h2,h3⟩:=a0z (fun y hy=>hx y (by simp [hy])) rfl (xs:=xs);refine⟨ev x::vs,by simp [h1],by simp [vU,h2],fun i s v hs hv=> ?_⟩;cases i with
  |zero=>
   simp only[vU,aVI,aU9] at hs hv;subst hs;subst hv;exact hx x pL
  |succ i=>
   simp only[vU,aVV] at hs hv;exact h3 i s v hs hv
theorem V9 {ρ:Operand->qI}{ev:Operand->pV}{args:Array Operand}{s:qI}(hρ: ∀x∈args.toList,s3 g w (ρ x) (ev x)) (h:vU ρ args.toList=[s]): ∃v,args.map ev= #[v]/\s3 g w s v:=by
 obtain⟨vs,h1,h2,h3⟩:=a0z hT hH hρ h;obtain⟨v,rfl⟩:=aWA.1 h2;exact⟨v,by apply aWp.1;simpa using h1,h3 0 s v rfl rfl⟩
theorem VA {ρ:Operand->qI}{ev:Operand->pV}{args:Array Operand}{s t:qI}(hρ: ∀x∈args.toList,s3 g w (ρ x) (ev x)) (h:vU ρ args.toList=[s,t]): ∃v u,args.map ev= #[v,u]/\s3 g w s v/\s3 g w t u:=by
 obtain⟨vs,h1,h2,h3⟩:=a0z hT hH hρ h
 match vs,h2 with
 |[v,u],_=>exact⟨v,u,by apply aWp.1;simpa using h1,h3 0 s v rfl rfl,h3 1 t u rfl rfl⟩
theorem HJ {b:Builtin}{args:Array Operand}{tys:Array TypeId}(ho:o.op= .call ⟨.builtin b,args,tys⟩):
  ∃cs,execOp a.eval o=builtin b tys o.type cs (args.map a.eval):=by
 refine⟨args.map fun| .const _=>true|_=>false,?_⟩
 unfold execOp;rw[ho];rfl
theorem aKJ (x y:Int):(if y<x then y else x)=min x y:=by rw[Int.min_def];split<;>split<;>omega
theorem aKK (x y:Int):(if y>x then y else x)=max x y:=by rw[Int.max_def];split<;>split<;>omega
theorem aKL {args:Array Operand}{tys:Array TypeId}(ho:o.op= .call ⟨.builtin .len,args,tys⟩) {ρ:Operand->qI}(hρ: ∀x∈args.toList,s3 g w (ρ x) (a.eval x)) {e:qT}
  (hr:UM T H (vU ρ args.toList) tys.toList=some e):rR P o a g w H e:=by
 obtain⟨t0,tr,htl⟩: ∃t0 tr,tys.toList=t0::tr:=by cases h:tys.toList with|nil=>(rw[h] at hr;cases hr) |cons t r=>exact⟨t,r,rfl⟩
 have ht0:tys[0]? =some t0:=by rw[<-aWj,htl];rfl
 rw[htl] at hr;simp only[UM] at hr;generalize hst:s8 T t0=ot at hr;generalize hss:vU ρ args.toList=ss at hr;unfold a0a at hr;split at hr
 .rename_i el fl ar ls_ i k;generalize hb:qM H i=ob at hr;unfold UG at hr;split at hr
  .rename_i kt vt l;cases hr;obtain⟨v,hv,hs⟩:=V9 hT hH hρ hss;have h2:=(tK hT hst).2;simp only[yW] at h2;obtain⟨p,es,cl,hp,hp0,hh,hM,hS⟩:=hH.blk i _ hb;obtain⟨p',hp',hxv⟩: ∃p,g.J i=some p/\v= .map (some p.1):=by
    rcases hs.1 with⟨h1,_⟩ |⟨_,p,h3,h4⟩
    .cases h1
    .simp only[aV8,and_true] at h4;exact⟨p,h3,h4⟩
   rw[hp] at hp';obtain rfl:=aVe hp';have hlen: ∀{l:List (kt.den×vt.den)}{es:List MapEntry},EZ g w kt vt l es->es.length=l.length:=by
    intro l
    induction l with
    |nil=>intro es h;rw[show es=[] from h];rfl
    |cons q l ih=>intro es h;obtain⟨e,es',rfl,_,_,h5⟩:=h;simp [ih h5]
   refine rR.pure hH (v:= .int .i64 (List.length l:Int)) ?_ (wU _ _ _ _);obtain⟨cs,hx⟩:=HJ (a:=a) hT hH ho;rw[hx,hv,hxv];have harg:(#[Value.map (some p.1)]:Array pV)[0]? =some (.map (some p.1)):=rfl;have hobj:(getObj p.1).run P w= .ok (.map es cl) w:=by simp [getObj,Sem.run,hh]
   simp only[builtin,Builtin.len_,ht0,harg,aVn,aVu h2,aVk,aVC,goInt,hobj];rw[<-hlen hM,aVJ]
  .cases hr
 .rename_i el by' ar ls_ l k;cases hr;obtain⟨v,hv,hs⟩:=V9 hT hH hρ hss;have h2:=(tK hT hst).2;simp only[yW] at h2;have hv':=zK hs.1;refine rR.pure hH (v:= .int .i64 (List.length l:Int)) ?_ (wU _ _ _ _);subst hv';obtain⟨cs,hx⟩:=HJ (a:=a) hT hH ho;rw[hx,hv];have harg:(#[Value.string ⟨List.toArray l⟩]:Array pV)[0]? =some (.string ⟨List.toArray l⟩):=rfl;simp only[builtin,Builtin.len_,ht0,harg,aVn,aVu h2,aVk,aVC,goInt];rfl
 .rename_i u el by' ar ls_ t l k;cases hr;obtain⟨v,hv,hs⟩:=V9 hT hH hρ hss;have h2:=(tK hT hst).2.1;obtain⟨ad,cap,rfl,_⟩:=F4 hs.1;refine rR.pure hH (v:= .int .i64 (List.length l:Int)) ?_ (wU _ _ _ _);obtain⟨cs,hx⟩:=HJ (a:=a) hT hH ho;rw[hx,hv];have harg:(#[Value.slice ad (List.length l) cap]:Array pV)[0]? =some (.slice ad (List.length l) cap):=rfl;simp only[builtin,Builtin.len_,ht0,harg,aVn,aVu h2,aVk,aVC,goInt]
 .rename_i u el by' ar ls_ ko n k;cases hr;obtain⟨v,hv,hs⟩:=V9 hT hH hρ hss;have h2:=(tK hT hst).2.1;obtain⟨ad,cap,rfl⟩: ∃ad cap,v= .slice ad n cap:=by
   rcases hs.1.2 with⟨h,rfl⟩ |⟨b,cap,h,_⟩
   .exact⟨_,_,h⟩
   .exact⟨_,_,h⟩
  refine rR.pure hH (v:= .int .i64 (n:Int)) ?_ (wU _ _ _ _);obtain⟨cs,hx⟩:=HJ (a:=a) hT hH ho;rw[hx,hv];have harg:(#[Value.slice ad n cap]:Array pV)[0]? =some (.slice ad n cap):=rfl;simp only[builtin,Builtin.len_,ht0,harg,aVn,aVu h2,aVk,aVC,goInt]
 .cases hr
theorem aA3 {args:Array Operand}{tys:Array TypeId}{mx:Bool}(ho:o.op= .call ⟨.builtin (if mx then .max else .min),args,tys⟩) {ρ:Operand->qI}(hρ: ∀x∈args.toList,s3 g w (ρ x) (a.eval x)) {e:qT}
  (hr:C6 (UK mx (vU ρ args.toList))=some e):rR P o a g w H e:=by
 obtain⟨q,hq,rfl⟩:=LA hr;generalize hss:vU ρ args.toList=ss at hq;unfold UK at hq;split at hq
 .rename_i k x k1 k' y k2;split at hq
  .rename_i hk;subst hk;cases hq;obtain⟨v,u,hv,hs1,hs2⟩:=VA hT hH hρ hss;have e1:=wC hs1.1;have e2:=wC hs2.1;subst e1;subst e2;cases mx
   .refine rR.pure hH (v:= .int k (min (x:Int) y)) ?_ (wU _ _ _ _);obtain⟨cs,hx⟩:=HJ (a:=a) hT hH ho;rw[hx,hv];have:=aKJ hT hH x y;simp [builtin,Builtin.min_,Builtin.min2,this]
   .refine rR.pure hH (v:= .int k (max (x:Int) y)) ?_ (wU _ _ _ _);obtain⟨cs,hx⟩:=HJ (a:=a) hT hH ho;rw[hx,hv];have:=aKK hT hH x y;simp [builtin,Builtin.max_,Builtin.max2,this]
  .cases hq
 .cases hq
theorem aKM {f:FuncId}{caps:Array Operand}(ho:o.op= .makeFunc (.func f) #[] caps) {ρ:Operand->qI}(hρ: ∀x∈caps.toList,s3 g w (ρ x) (a.eval x)) {e:qT}
  (hr:aAy f (KQ (vU ρ caps.toList))=some e):rR P o a g w H e:=by
 generalize hc:KQ (vU ρ caps.toList)=oc at hr;cases oc with
 |none=>cases hr
 |some l=>
  cases hr;have key: ∀(xs:List Operand) (l:pO),(∀x∈xs,s3 g w (ρ x) (a.eval x))->KQ (vU ρ xs)=some l->yG g l (xs.map a.eval):=by
   intro xs
   induction xs with
   |nil=>intro l _ h;simp only[vU,KQ,aU9] at h;subst h;rfl
   |cons x xs ih=>
    intro l hx h;have h0:=hx x pL;generalize hs:ρ x=s at h0;simp only[vU,hs] at h;obtain⟨d,k⟩:=s;unfold KQ at h;split at h
    .cases ‹_=[]›
    .rename_i p k r heq;simp only[aV8,aVD] at heq;obtain⟨⟨rfl,rfl⟩,rfl⟩:=heq;obtain⟨l',hl',rfl⟩:=aVo.1 h;obtain⟨i,off⟩:=p;obtain⟨p,hp,hv⟩:=A0 h0.1;exact⟨p,_,hp,by rw[aWq,hv],ih l' (fun y hy=>hx y (by simp [hy])) hl'⟩
    .cases h
  refine rR.pure hH (v:= .func (.func f) #[] (caps.map a.eval)) ?_ (.inr ⟨rfl,caps.toList.map a.eval,key _ _ hρ hc,by congr 2;apply aWp.1;simp⟩);simp [execOp,ho,Instr.makeFunc]
end
theorem a0A {α:Type}{l:List α}{m n:Int}(h0:0≤m) (h1:m≤n) (h2:n≤(l.length:Int)):(qV l m n).length=n.toNat-m.toNat:=by
  unfold qV;rw[aVx,aVh];omega
theorem aA4 {α:Type}{R:α→pQ→Prop}{c:Nat}: ∀{l:List α}{cs:pQ}{i:Nat}{x:α},tT R c l cs→l[i]? =some x→∃c1 c2 c3,cs=c1++c2++c3∧c1.length=i*c∧c2.length=c∧R x c2
  | y::l,_,0,x,⟨c1,c2,e,h1,h2,h3⟩,h=>by
    simp only[aVI,aU9] at h;subst h;exact⟨[],c1,c2,by simpa using e,by simp,h1,h2⟩
  | y::l,_,i+1,x,⟨c1,c2,e,h1,h2,h3⟩,h=>by
    simp only[aVV] at h;obtain⟨d1,d2,d3,e1,e2,e3,e4⟩:=aA4 h3 h;exact⟨c1++d1,d2,d3,by rw[e,e1];simp,by rw[aVc,h1,e2,aWi];omega,e3,e4⟩
theorem aKN {t:Ty}{l:List t.den}{i:Int}(h0:0≤i) (h:i.toNat<l.length):l[i.toNat]? =some (rC t l i):=by
  unfold rC;rw[aVy,aVj h];rfl
theorem LB {α:Type}{R:α→pQ→Prop}{w:pU}{S:Nat→Nat→Prop}{c b:Nat}: ∀{l:List α}{o:Nat}{cs:pQ},tT R c l cs→w.rangeAt b o cs→(∀j,j<l.length*c→S b (o+j))→yU R w S c b o l
  |[],_,_,_,_,_=>trivial
  | x::l,o,cs,⟨c1,c2,e,h1,h2,h3⟩,hr,hS=>by
    subst e;refine⟨⟨c1,h1,fun j v hv=>hr j v (by rw[aVt (aVq.1 hv).1];exact hv),fun j hj=>hS j (by rw[aVd,aWi];omega),h2⟩,LB h3 (fun j v hv=> ?_) (fun j hj=> ?_)⟩
    · have:=hr (c+j) v (by rw[aVl pJ,h1,aVY];exact hv)
      rwa [←aVS] at this
    · have:=hS (c+j) (by rw[aVd,aWi];omega)
      rwa [←aVS] at this
theorem QT {k:Nat}{u0:Ty}{l:List u0.den}: ∀{t:Ty}{x:t.den},(BO k u0 l t x).1.cells=t.cells
  | .rl e u,none=>rfl
  | .rl e u,some (j,n)=>by
    simp only[BO,ZL];split<;>rfl
  | .pair a b,x=>by
    simp only[BO];split
    .rfl
    .simp only[Ty.cells,QT (t:=a),QT (t:=b)]
  | .bool,_=>rfl
  | .int _,_=>rfl
  | .str,_=>rfl
  | .list _,_=>rfl
  | .unit,_=>rfl
  | .ref,_=>rfl
  | .clo,_=>rfl
  | .mp,_=>rfl
  | .mref,_=>rfl
  | .fn,_=>rfl
def aKO (g:Gh) (w:pU) (q: Σ t:Ty,t.den) (cs:pQ):Prop:=Rd g w q.1 q.2 cs
theorem a0B {g:Gh}{w:pU}{k n:Nat}{u0:Ty}{l:List u0.den}(hk: ∀cs,E3 g (some (k,n)) cs→Rd g w (.list u0) l cs): ∀{t:Ty}{x:t.den}{cs:pQ},QB k n t x→Rd g w t x cs→aKO g w (BO k u0 l t x) cs
  | .rl e u,none,_,_,r=>r
  | .rl e u,some (j,m),_,h,r=>by
    simp only[BO,ZL];split
    · rename_i hc
      obtain⟨rfl,rfl⟩:=hc;have:m=n:=h rfl;subst this;exact hk _ r
    .exact r
  | .pair a b,x,_,h,r=>by
    simp only[BO];split
    .exact r
    · obtain⟨c1,c2,e,r1,r2⟩:=r
      exact⟨c1,c2,e,a0B hk h.1 r1,a0B hk h.2 r2⟩
  | .bool,_,_,_,r=>r
  | .int _,_,_,_,r=>r
  | .str,_,_,_,r=>r
  | .list _,_,_,_,r=>r
  | .unit,_,_,_,r=>r
  | .ref,_,_,_,r=>r
  | .clo,_,_,_,r=>r
  | .mp,_,_,_,r=>r
  | .mref,_,_,_,r=>r
  | .fn,_,_,_,r=>r
theorem a0C {u0:Ty}{l:List u0.den}: ∀{t:Ty}{x:t.den}{q: Σ t:Ty,t.den},zX u0 l t x=some q→q.1.cells=t.cells:=by
  intro t
  induction t with
  | rl e u=>
    intro x q h;cases x with
    |none=>cases h
    | some p=>
      simp only[zX,ZN] at h;split at h
      .cases h;rfl
      .cases h
  | pair a b iha ihb=>
    intro x q h;simp only[zX] at h;cases hf:CB a x.1 with
    | some p=>
      rw[hf] at h;cases hq:zX u0 l a x.1 with
      |none=>rw[hq] at h;cases h
      | some r=>
        obtain⟨a',x'⟩:=r;rw[hq] at h;simp only[L1,aU9] at h;subst h;have:=iha hq;simp only[Ty.cells] at this|-;omega
    | none=>
      rw[hf] at h;cases hq:zX u0 l b x.2 with
      |none=>rw[hq] at h;simp [L1] at h
      | some r=>
        obtain⟨b',y'⟩:=r;rw[hq] at h;simp only[L1,aU9] at h;subst h;have:=ihb hq;simp only[Ty.cells] at this|-;omega
  |_=>intro x q h;simp [zX] at h
theorem aKP {g:Gh}{w:pU}{k n:Nat}{u0:Ty}{l:List u0.den}(hk: ∀cs,E3 g (some (k,n)) cs→Rd g w (.list u0) l cs): ∀{t:Ty}{x:t.den}{cs:pQ}{q: Σ t:Ty,t.den},CB t x=some (k,n)→zX u0 l t x=some q→Rd g w t x cs→Rd g w q.1 q.2 cs:=by
  intro t
  induction t with
  | rl e u=>
    intro x cs q hf h r;simp only[CB] at hf;subst hf;simp only[zX,ZN] at h;split at h
    · cases h
      exact hk _ r
    .cases h
  | pair a b iha ihb=>
    intro x cs q hf h r;obtain⟨c1,c2,e,r1,r2⟩:=r;simp only[CB] at hf;simp only[zX] at h;cases hfa:CB a x.1 with
    | some p=>
      rw[hfa] at h hf;simp only[ZM,aU9] at hf;subst hf;cases hq:zX u0 l a x.1 with
      |none=>rw[hq] at h;cases h
      | some z=>
        obtain⟨a',x'⟩:=z;rw[hq] at h;simp only[L1,aU9] at h;subst h;exact⟨c1,c2,e,iha hfa hq r1,r2⟩
    | none=>
      rw[hfa] at h hf;simp only[ZM] at hf;cases hq:zX u0 l b x.2 with
      |none=>rw[hq] at h;simp [L1] at h
      | some z=>
        obtain⟨b',y'⟩:=z;rw[hq] at h;simp only[L1,aU9] at h;subst h;exact⟨c1,c2,e,r1,ihb hf hq r2⟩
  |_=>intro x cs q hf;simp [CB] at hf
theorem aKQ {g:Gh}{w:pU}{H:sD}(hH:sK g w H) {k i:Nat}{e:TypeId}{t:Ty}{l:List t.den}{n:Nat}(hk:qM H k=some (.row e t l n)) {u:Ty}{x:u.den}{toks:pO}(hi:qM H i=some (.cells u x toks)) (hfr:CB u x=some (k,n)) {q: Σ t:Ty,t.den}(hq:zX t l u x=some q):
    ∃ g',sK g' w (rD [(i,qH.cells q.1 q.2 []),(k,qH.grow e t.cells (List.length l))] H)∧g'.J=g.J∧
      ∀side s rds v,IT rds=true→s3 g' w s v→AU g w H ⟨side,s,[(i,qH.cells q.1 q.2 []),(k,qH.grow e t.cells (List.length l))],rds⟩ g' w v:=by
  obtain⟨hl,v,xs,hv,hown,hF,hnone,hseal⟩:=hH.blk k _ hk
  let g':Gh:={g with S:=fun b o=>g.S b o∨(v.ownBlock=some b∧o<n*t.cells)}
  have le:Le g w g' w:=⟨fun _ _ h=> .inl h,fun _ _ _=>rfl,fun _ _ h=>h,fun _ _ _ h=>h⟩;have hown2: ∀b,v.ownBlock=some b→∀o,sE g k (.row e t l n) b o:=fun b hb o=>⟨v,hv,hb⟩
  have hlist: ∀u,g.cur k n=some u→((u= .slice none 0 0∧n=0)∨∃b cap,u= .slice (some ⟨b,0,none⟩) n cap∧n≤cap)→tJ g' w (.list t) l u:=by
    intro u hu hshape;rw[hv] at hu;obtain rfl:=aVe hu;rcases hshape with⟨rfl,h0⟩ |⟨b,cap,rfl,hcap⟩
    · have:l=[]:=aVE (by rw[hl,h0])
      subst this;exact .inr ⟨rfl,none,0,rfl,aVp _,.inl rfl⟩
    · refine .inr ⟨rfl,some ⟨b,0,none⟩,cap,by rw[hl],by rw[hl];exact hcap,.inr ⟨b,0,rfl,LB (D8 (fun _ _ h=>wT le h) hF) (fun j u hu=> ?_) (fun j hj=> ?_)⟩⟩
      · have:=hown.cells (g:=b) rfl j u hu
        rwa [aWt] at this
      · right
        exact⟨rfl,by rw[hl] at hj;omega⟩
  have hik:i≠k:=fun e1=>by rw[e1,hk] at hi;cases hi
  obtain⟨p0,cs0,hp0,hR0,hra0,hth0,hns0,_⟩:=hH.blk i _ hi
  let b':qH:= .cells q.1 q.2 []
  let H':sD:=(i,b')::(k,qH.grow e t.cells (List.length l))::H
  have hget: ∀i' b,qM H' i'=some b→(i'=i∧b=b')∨(i'=k∧b= .grow e t.cells (List.length l))∨(i'≠k∧i'≠i∧qM H i'=some b):=by
    intro i' b hb;simp only[H',qM] at hb;split at hb
    .rename_i e1;exact .inl ⟨e1.symm,(aVe hb).symm⟩
    · rename_i e1
      split at hb
      .rename_i e2;exact .inr (.inl ⟨e2.symm,(aVe hb).symm⟩)
      .rename_i e2;exact .inr (.inr ⟨Ne.symm e2,Ne.symm e1,hb⟩)
  have howns: ∀i' b bb o,qM H' i'=some b→sE g' i' b bb o→∃b0,qM H i'=some b0∧sE g i' b0 bb o:=by
    intro i' b bb o hb ho;rcases hget i' b hb with⟨rfl,rfl⟩ |⟨rfl,rfl⟩ |⟨_,_,h1⟩
    · obtain⟨p,hp,e1,e2,e3⟩:=ho
      rw[a0C hq] at e3;exact⟨_,hi,p,hp,e1,e2,e3⟩
    · obtain⟨u,hu,hub⟩:=ho
      have hu':g.cur i' (List.length l)=some u:=hu;rw[hl] at hu';exact⟨_,hk,u,hu',hub⟩
    .exact⟨b,h1,(zJ (g':=g') (g:=g) rfl rfl).1 ho⟩
  have hheap:sK g' w H':=by
    refine⟨fun i' b hb=> ?_,fun i' j bi bj b o hij h1 h2 o1 o2=> ?_,fun b o hS=> ?_,hH.tab.1,fun i' b bb oo hb ho=>by
      obtain⟨c1,k1,k2⟩:=howns i' b bb oo hb ho;exact hH.tab.2 i' c1 bb oo k1 k2⟩
    · rcases hget i' b hb with⟨rfl,rfl⟩ |⟨rfl,rfl⟩ |⟨hne,_,h1⟩
      · have hk2: ∀cs,E3 g' (some (k,n)) cs→Rd g' w (.list t) l cs:=by
          rintro cs ⟨v1,z1,z2,z3⟩;rw[z2];exact CD rfl (hlist v1 z1 z3)
        refine⟨p0,cs0,hp0,aKP (n:=n) hk2 hfr hq (wT le hR0),hra0,?_,?_,fun _ _ hm=>by cases hm⟩
        .rw[a0C hq];exact⟨hth0.1,hth0.2⟩
        · rw[a0C hq]
          intro j hj hS;rcases hS with hS|hS
          .exact hns0 j hj hS
          .exact hH.dis i' k _ _ p0.1 (p0.2+j) hik hi hk ⟨p0,hp0,rfl,pJ,pJ⟩ (hown2 _ hS.1 _)
      · refine⟨v,xs,by rw[hl];exact hv,by rw[hl];exact hown,fun m hm=>hnone m (by rw[hl] at hm;exact hm),fun b hb o hS=> ?_⟩
        rw[hl];rcases hS with hS|hS
        .exact absurd hS (hseal b hb o)
        .exact hS.2
      .exact L8 (hH.blk i' b h1) le rfl rfl (fun _ _ _=>⟨rfl,rfl⟩) (fun _ _=>rfl) (fun bb o ho hS=>by
          rcases hS with hS|hS
          .exact hS
          .exact absurd (hown2 bb hS.1 o) (fun h5=>hH.dis i' k b _ bb o hne h1 hk ho h5)) (fun _ _ _ _ h=>h)
    · obtain⟨c1,k1,k2⟩:=howns i' bi b o h1 o1
      obtain⟨c2,k3,k4⟩:=howns j bj b o h2 o2;exact hH.dis i' j c1 c2 b o hij k1 k3 k2 k4
    · rcases hS with hS|hS
      .exact hH.sl b o hS
      .exact NH hown hS.1
  refine⟨g',hheap,rfl,fun side s rds vv hre hs=>⟨le,hs,hheap,⟨rfl,rfl,rfl,aVp _,fun _ _ _=>rfl,fun _ _ _ _=>⟨rfl,rfl⟩,fun b o hS=> ?_,fun _ _ h=> .inl h⟩,fun i' blk b o hm hg ho=> ?_,fun _ _=>⟨rfl,rfl⟩,fun h=>by rw[hre] at h;cases h⟩⟩
  · rcases hS with hS|hS
    .exact .inl hS
    .exact .inr (.inr ⟨k,_,by simp [qO],hk,hown2 b hS.1 o⟩)
  · obtain⟨b0,k1,k2⟩:=howns i' blk b o hg ho
    exact .inr ⟨i',b0,hm,k1,k2⟩
section
variable {P:Program}{o:Oper}{a:Act}{g:Gh}{w:pU}{H:sD}{T:sX}(hT:xQ P T) (hH:sK g w H)
include hT hH
theorem QU {t:TypeId}{ti:TI}(hty:tU P t ti) {x:ti.ty.den}{b off:Nat}{cs:pQ}(hra:w.rangeAt b off cs) (hR:Rd g w ti.ty x cs):
    ∃v,(Instr.loadAt t (.pointer (some ⟨b,off,none⟩))).run P w= .ok v w∧tJ g w ti.ty x v∧v.cells.toList=cs:=by
  obtain⟨d,hd,hrow⟩:=V5 hty;obtain⟨i,hi,hsz,_⟩:=G7 hty;have hl:=sY hR;by_cases hr:ti.ty.isRow=true
  .refine⟨.agg cs.toArray,run_loadAt_mid w b off t cs d hra hd (by rw[hrow,hr]) (by rw[hi,Option.map_some,hsz,hl]),.inl ⟨hr,cs,rfl,hR⟩,by simp [Value.cells]⟩
  · have hr':ti.ty.isRow=false:=by simpa using hr
    have h1:ti.ty.cells=1:=by
      obtain⟨ty,el,by',ar,ls⟩:=ti;cases ty<;>first|rfl|(simp [Ty.isRow] at hr')
    obtain⟨v,rfl⟩: ∃v,cs=[v]:=by rw[h1] at hl;exact aWA.1 hl
    have hv1:=BP hR v pL;refine⟨v,?_,.inr ⟨hr',hR⟩,by cases v<;>first|rfl|(simp [Value.oneCell'] at hv1)⟩
    have hc:w.cell? ⟨b,off,none⟩=some v:=by simpa using hra 0 v rfl
    have hagg:(isAgg t).run P w= .ok false w:=by
      unfold isAgg;rw[aVn,aVu hd w];rw[hr'] at hrow;cases d<;>simp_all [TypeDesc.isRow]
    simp [Instr.loadAt,Instr.sureAddr,loadVar,aVn,hagg,hc]
theorem NJ {b off:Nat}{c1 c2 c3:pQ}(h:w.rangeAt b off (c1++c2++c3)):w.rangeAt b (off+c1.length) c2:=fun j v hj=>by
  have:=h (c1.length+j) v (by
    have hj':=(aVq.1 hj).1;rw[aVi,aVl pJ,aVY,aVt hj'];exact hj)
  rw[aVS];exact this
theorem aA5 {k n c:Nat}{i:Int}{o':Nat}{v:pV}(hx:AS g w (.elt k n c i o') v) {e:TypeId}{t:Ty}{l:List t.den}{m:Nat}(hk:qM H k=some (.row e t l m)) (hnm:n=m) (hc:c=t.cells):
    ∃ b cap xs c1 c2 c3,v= .pointer (some ⟨b,i.toNat*c+o',none⟩)∧g.cur k m=some (.slice (some ⟨b,0,none⟩) m cap)∧w.ownsRow 0 e t.cells (.slice (some ⟨b,0,none⟩) m cap) m xs∧tT (Rd g w t) t.cells l xs∧l.length=m∧i.toNat<l.length∧0≤i∧
      xs=c1++c2++c3∧c1.length=i.toNat*c∧c2.length=c∧Rd g w t (rC t l i) c2:=by
  subst hnm;subst hc;obtain⟨b,cap,h1,h2,h3,hv⟩:=hx;obtain⟨hl,v0,xs,hv0,hown,hF,hnone,hseal⟩:=hH.blk k _ hk;rw[h1] at hv0;obtain rfl:=aVe hv0;have hi:i.toNat<l.length:=by rw[hl];omega
  obtain⟨c1,c2,c3,e1,e2,e3,e4⟩:=aA4 hF (aKN h2 hi);exact⟨b,cap,xs,c1,c2,c3,hv,h1,hown,hF,hl,hi,h2,e1,e2,e3,e4⟩
theorem aKR {e:TypeId}{c n:Nat}{q cap:Nat}{xs:pQ}(h:w.ownsRow 0 e c (.slice (some ⟨q,0,none⟩) n cap) n xs):w.rangeAt q 0 xs:=fun j u hu=>by
  have:=h.cells (g:=q) rfl j u hu;rwa [aWt] at this
theorem aKS {t:TypeId}{ti:TI}(hst:s8 T t=some ti) {k n c:Nat}{i:Int}{o':Nat}{vx:pV}(hx:AS g w (.elt k n c i o') vx) {e:qT}(hr:QA ti.ty k n c i o' (qM H k)=some e) (hs: ∀p∈e.side,p):
    ∃v,(Instr.loadAt t vx).run P w= .ok v w∧s3 g w e.slot v∧e.upd=[]:=by
  generalize hk:qM H k=ob at hr;unfold QA at hr;split at hr
  · rename_i e' t' l m
    split at hr
    · rename_i hc
      generalize hga:rN ti.ty t' (rC t' l i) o'=oy at hr;cases oy with
      |none=>cases hr
      | some y=>
        cases hr;have hnm:=hs _ (aVm.2 rfl);obtain⟨b,cap,xs,c1,c2,c3,hv,hcur,hown,hF,hl,hi,h0,e1,e2,e3,e4⟩:=aA5 hT hH hx hk hnm hc;obtain⟨d1,d2,d3,f1,f2,f3⟩:=F0 e4 hga;have hra:=aKR hT hH hown;rw[e1] at hra;have hra2:=NJ hT hH hra;rw[f1] at hra2;have hra3:=NJ hT hH hra2;rw[aVF,e2,f2] at hra3;obtain⟨v,h1,h2,_⟩:=QU hT hH (tK hT hst) hra3 f3;exact⟨v,by rw[hv];exact h1,⟨h2,trivial⟩,rfl⟩
    .cases hr
  .cases hr
theorem a0D: ∀{toks:pO}{q k:Nat},xO toks q=some k→(q,k)∈toks
  |[],_,_,h=>by simp [xO] at h
  | (q',k')::r,q,k,h=>by
    simp only[xO] at h;split at h
    · rename_i e
      subst e;simp only[aU9] at h;subst h;simp
    .exact aVr _ (a0D h)
theorem aA6 {u v:Ty}: ∀{t:Ty}{x:t.den}{q:Nat}{l:List u.den}{y:v.den},rN (.list u) t x q=some l→rN v t x q=some y→v.isRow=false→∃h:v= .list u,uV h y=l:=by
  intro t
  induction t with
  | pair s t ihs iht=>
    intro x q l y h1 h2 hv
    have key: ∀q,(if q<s.cells then rN (.list u) s x.1 q else rN (.list u) t x.2 (q-s.cells))=some l→(if q<s.cells then rN v s x.1 q else rN v t x.2 (q-s.cells))=some y→∃h:v= .list u,uV h y=l:=by
      intro q h1 h2;by_cases hq:q<s.cells
      .rw[aU8 hq] at h1 h2;exact ihs h1 h2 hv
      .rw[aVa hq] at h1 h2;exact iht h1 h2 hv
    cases q with
    | zero=>
      have e1:Ty.pair s t≠.list u:=by intro h;cases h
      have e2:Ty.pair s t≠v:=by intro h;subst h;simp [Ty.isRow] at hv
      unfold rN at h1 h2;rw[aWW e1] at h1;rw[aWW e2] at h2;exact key 0 (by simpa using h1) (by simpa using h2)
    |succ q=>exact key (q+1) (by simpa[rN] using h1) (by simpa[rN] using h2)
  | _=>
    intro x q l y h1 h2 hv;cases q with
    | zero=>
      unfold rN at h1 h2;split at h1
      · rename_i e1
        split at h2
        · rename_i e2
          first
          |(cases e1;done)
          | (subst e2
             injection e1 with e1'
             subst e1';simp only[uV,aU9] at h1 h2;subst h1;subst h2;exact⟨rfl,rfl⟩)
        .simp at h2
      .simp at h1
    |succ q=>simp [rN] at h1
theorem aKT {t:TypeId}{ti:TI}(hty:tU P t ti) (hr:ti.ty.isRow=false) {b off:Nat}{v:pV}(hc:w.cell? ⟨b,off,none⟩=some v):
    (Instr.loadAt t (.pointer (some ⟨b,off,none⟩))).run P w= .ok v w:=by
  obtain⟨d,hd,hrow⟩:=V5 hty
  have hagg:(isAgg t).run P w= .ok false w:=by
    unfold isAgg;rw[aVn,aVu hd w];rw[hr] at hrow;cases d<;>simp_all [TypeDesc.isRow]
  simp [Instr.loadAt,Instr.sureAddr,loadVar,aVn,hagg,hc]
omit hT hH in
theorem aA7 {a b:Option qT}{e:qT}(h:orE a b=some e):a=some e∨b=some e:=by
  cases a with
  |some r=>exact .inl h
  |none=>exact .inr h
omit hT hH in
theorem aA8 {H:List (Nat×qH)}{t:Ty}{i off:Nat}{b:Option qH}{x:Option qT}{e:qT}(h:orS H t i off b x=some e):x=some e∨(x=none∧IY H t i off b=some e):=by
  cases x with
  |some r=>exact .inl h
  |none=>exact .inr ⟨rfl,h⟩
theorem aKU {t:TypeId}{ti:TI}{x:Operand}(ho:o.op= .load t x) (hs:s8 T t=some ti) {i off:Nat}(hx:tJ g w .ref (some (i,off)) (a.eval x)) {e:qT}(hr:U3 i off ti (qM H i)=some e):rR P o a g w H e:=by
  have hty:=tK hT hs;generalize hb:qM H i=ob at hr;unfold U3 at hr;split at hr
  · rename_i u el _ _ _ v x' toks
    generalize hga:rN (.rl el u) v x' off=oy at hr;unfold ZK at hr;split at hr
    · rename_i k n
      cases hr;obtain⟨p,hp,hv⟩:=A0 hx;obtain⟨p',cs,hp',hR,hra,_⟩:=hH.blk i _ hb;rw[hp] at hp';obtain rfl:=aVe hp';obtain⟨c1,c2,c3,rfl,rfl,hR2⟩:=F0 hR hga;obtain⟨v0,hcur,rfl,hsh⟩:=hR2;have hc:w.cell? ⟨p.1,p.2+c1.length,none⟩=some v0:=by simpa using NJ hT hH hra 0 _ rfl
      have h1:=aKT (P:=P) hT hH hty rfl hc;exact rR.value (v:=v0) (g':=g) (w':=w) (by simp only[execOp,ho,hv,aVn,h1,aVk,aVC]) (.pure hH ⟨⟨hcur,hsh⟩,trivial⟩)
    .cases hr
  .cases hr
theorem aKV {t:TypeId}{ti:TI}{x:Operand}(ho:o.op= .load t x) (hs:s8 T t=some ti) {i off:Nat}(hx:tJ g w .ref (some (i,off)) (a.eval x)) {e:qT}(hr:IY H ti.ty i off (qM H i)=some e) (hside: ∀p∈e.side,p):rR P o a g w H e:=by
  have hty:=tK hT hs;generalize hb:qM H i=ob at hr;unfold IY at hr;split at hr
  case h_2=>cases hr
  rename_i v z toks;generalize hf:CB v z=of at hr;cases of with
  |none=>cases hr
  | some kn=>
    obtain⟨k,n0⟩:=kn;simp only[U5] at hr;generalize hk:qM H k=ok at hr;unfold U4 at hr;split at hr
    case h_2=>cases hr
    rename_i el u0 l m;generalize hz:zX u0 l v z=oq at hr;cases oq with
    |none=>cases hr
    |some q=>
    obtain⟨v',x'⟩:=q;simp only[ZP] at hr;generalize hga:rN ti.ty v' x' off=oy at hr;cases oy with
    |none=>cases hr
    | some y=>
      simp only[ZO,aU9] at hr;subst hr;have hnm:n0=m:=hside _ (aVm.2 rfl);subst hnm;obtain⟨g',hH',hJ,heff⟩:=aKQ hH hk hb hf hz;obtain⟨p,hp,hv⟩:=A0 hx;obtain⟨p',cs,hp',hR,hra,_,_,_⟩:=hH'.blk i (.cells v' x' []) (by simp [rD,qM]);rw[hJ,hp] at hp';obtain rfl:=aVe hp';obtain⟨c1,c2,c3,rfl,rfl,hR2⟩:=F0 hR hga;obtain⟨v0,h1,h2,_⟩:=QU hT hH' hty (NJ hT hH' hra) hR2;exact rR.valueW (v:=v0) (g':=g') (w':=w) (by simp only[execOp,ho,hv,aVn,h1,aVk,aVC]) (heff _ _ _ _ rfl ⟨h2,trivial⟩)
theorem aKW {t:TypeId}{x:Operand}(ho:o.op= .load t x) {sx:qI}(hx:s3 g w sx (a.eval x)) {e:qT}(hr:U6 H (s8 T t) sx=some e) (hside: ∀p∈e.side,p):rR P o a g w H e:=by
  generalize hs:s8 T t=ot at hr;replace hx:=hx.1;unfold U6 at hr;split at hr
  · rename_i ti k n c i o' _
    obtain⟨v,h1,h2,h3⟩:=aKS hT hH hs hx hr hside;obtain⟨side,slot,upd,rds⟩:=e;simp only at h2 h3;subst h3;exact rR.value (v:=v) (g':=g) (w':=w) (by simp only[execOp,ho,aVn,h1,aVk,aVC]) (.pure hH h2)
  · rename_i ti u y k
    split at hr
    · rename_i hu
      subst hu;cases hr;have hty:=tK hT hs;obtain⟨b,off,cs,hv,hra,hS,hR⟩:=hx;obtain⟨v,h1,h2,_⟩:=QU hT hH hty hra hR;exact rR.pure hH (v:=v) (by simp only[execOp,ho,hv,aVn,h1,aVk,aVC]) h2
    .cases hr
  · rename_i ti i off k
    rcases aA8 hr with hr|⟨_,hr⟩
    case inr=>exact aKV hT hH ho hs hx hr hside
    rcases aA7 hr with hr|hr
    case inr=>exact aKU hT hH ho hs hx hr
    have hty:=tK hT hs;generalize hb:qM H i=ob at hr;unfold Q9 at hr;split at hr
    · rename_i u z toks
      generalize hga:rN ti.ty u z off=oy at hr;cases oy with
      |none=>cases hr
      | some y=>
        cases hr;obtain⟨p,hp,hv⟩:=A0 hx;obtain⟨p',cs,hp',hR,hra,_,_,htk⟩:=hH.blk i _ hb;rw[hp] at hp';obtain rfl:=aVe hp';obtain⟨c1,c2,c3,rfl,rfl,hR2⟩:=F0 hR hga;obtain⟨v,h1,h2,h3⟩:=QU hT hH hty (NJ hT hH hra) hR2;refine rR.value (v:=v) (g':=g) (w':=w) (by simp only[execOp,ho,hv,aVn,h1,aVk,aVC]) (.pure hH ⟨h2,?_⟩);obtain⟨ty,el,by',ar,ls⟩:=ti;cases ty with
        | list u'=>
          simp only[H8];generalize htt:xO toks c1.length=ok;cases ok with
          |none=>trivial
          | some k=>
            obtain⟨u2,l,v',g1,g2,g3⟩:=htk _ _ (a0D hT hH htt);obtain⟨heq,hl⟩:=aA6 hT hH g1 hga rfl;injection heq with heq'
            subst heq';have hlen:=sY hR2;obtain⟨v2,rfl⟩:=aWA.1 hlen
            have e2:v'=v2:=by
              have e:(c1++[v2]++c3)[c1.length]? =some v2:=by simp
              rw[e] at g2;exact(aVe g2).symm
            have e3:v=v2:=by
              have h4:=CD rfl h2;have hone:=BP h4 v pL;have:v.cells= #[v]:=by cases v<;>first|rfl|(simp [Value.oneCell'] at hone)
              rw[this] at h3;simpa using h3
            subst e2;subst e3;have e4:(y:List u'.den)=l:=hl;subst e4;exact g3
        |_=>trivial
    .cases hr
  .cases hr
theorem VB {ρ:Operand→qI}{x:Option Operand}{n m:Int}(hρ: ∀y∈x.toList,s3 g w (ρ y) (a.eval y)) (h:ET (zY ρ x) n=some m):(x=none∧m=n)∨∃y k,x=some y∧a.eval y= .int k m:=by
  cases x with
  |none=>simp only[zY,ET,aU9] at h;exact .inl ⟨rfl,h.symm⟩
  | some y=>
    have h0:=hρ y pL;simp only[zY] at h;unfold ET at h;split at h
    .cases ‹some _=none›
    · rename_i k q kk heq
      simp only[aU9] at heq h;rw[heq] at h0;subst h;exact .inr ⟨y,k,rfl,wC h0.1⟩
    .cases h
theorem aA9 {isSlice:Bool}{len cap:Nat}{lo hi:Option Operand}{m n:Int}(hlo:(lo=none∧m=0)∨∃y k,lo=some y∧a.eval y= .int k m) (hhi:(hi=none∧n=(len:Int))∨∃y k,hi=some y∧a.eval y= .int k n)
    (h0:0≤m) (h1:m≤n) (h2:n≤(len:Int)) (h3:len≤cap):(Instr.sliceBounds isSlice len cap (lo.map a.eval) (hi.map a.eval) none).run P w= .ok (m.toNat,n.toNat,cap) w:=by
  have e1:(n.toNat:Int)=n:=Int.toNat_of_nonneg pJ;rcases hlo with⟨rfl,rfl⟩ |⟨y,k,rfl,hy⟩<;>rcases hhi with⟨rfl,rfl⟩ |⟨z,k',rfl,hz⟩
  .simp [Instr.sliceBounds]
  .simp [Instr.sliceBounds,hz,run_sliceBound,(by omega:0≤n),(by omega:n≤(cap:Int))]
  .simp [Instr.sliceBounds,hy,run_sliceBound,h0,h1]
  .simp [Instr.sliceBounds,hy,hz,run_sliceBound,(by omega:0≤n),(by omega:n≤(cap:Int)),e1,h0,h1]
theorem aKX {t:TypeId}{x:Operand}{lo hi:Option Operand}(ho:o.op= .slice t x lo hi none) {ρ:Operand→qI}(hx:s3 g w (ρ x) (a.eval x)) (hlo: ∀y∈lo.toList,s3 g w (ρ y) (a.eval y)) (hhi: ∀y∈hi.toList,s3 g w (ρ y) (a.eval y)) {e:qT}
    (hr:C6 (Z5 (s8 T t) (ρ x) (zY ρ lo) (zY ρ hi))=some e) (hs: ∀p∈e.side,p):rR P o a g w H e:=by
  obtain⟨q,hq,rfl⟩:=LA hr;replace hx:=hx.1;generalize hst:s8 T t=ot at hq;generalize hsx:ρ x=sx at hq hx;unfold Z5 at hq;split at hq
  · rename_i el by' ar ls_ l k
    generalize hb1:ET (zY ρ lo) 0=o1 at hq;generalize hb2:ET (zY ρ hi) (List.length l)=o2 at hq;unfold TP at hq;split at hq
    · rename_i m n
      cases hq;obtain⟨k1,k2,k3⟩:=hs _ (aVm.2 rfl);have h2:=(tK hT hst).2;simp only[yW] at h2;have hv:=zK hx;have hbd:=aA9 (P:=P) (isSlice:=false) (cap:=List.length l) hT hH (VB hT hH hlo hb1) (VB hT hH hhi hb2) k1 k2 k3 (aVp _);refine rR.pure hH (v:= .string ⟨(qV l m n).toArray⟩) ?_ (HI _ _ _);have hsz:(⟨List.toArray l⟩:ByteArray).size=List.length l:=by simp [ByteArray.size]
      have hext:(⟨List.toArray l⟩:ByteArray).extract m.toNat n.toNat=⟨(qV l m n).toArray⟩:=by
        apply ByteArray.ext;apply aWp.1;simp [qV]
      simp only[execOp,ho,hv,Option.map_none,Instr.sliceAt,Instr.slice,aVn,aVu h2,aVk,Option.isSome_none,aWx,aXn,hsz,hbd,hext,aVC]
    .cases hq
  · rename_i u el by' ar ls_ t1 l k
    split at hq
    · rename_i htu
      subst htu;generalize hb1:ET (zY ρ lo) 0=o1 at hq;generalize hb2:ET (zY ρ hi) (List.length l)=o2 at hq;unfold TP at hq;split at hq
      · rename_i m n
        cases hq;obtain⟨k1,k2,k3⟩:=hs _ (aVm.2 rfl);obtain⟨h2,h3,_⟩:=(tK hT hst).2;obtain⟨ei,hei,hz⟩:=aVo.1 h3;simp only[aVD] at hz;obtain⟨ad,cap,hv,hle,hl⟩:=F4 hx;have hbd:=aA9 (P:=P) (isSlice:=true) (cap:=cap) hT hH (VB hT hH hlo hb1) (VB hT hH hhi hb2) k1 k2 k3 hle;refine rR.pure hH (v:= .slice (if cap=m.toNat then ad else ad.map (·.add (m.toNat*t1.cells))) (n.toNat-m.toNat) (cap-m.toNat)) ?_ (.inr ⟨rfl,(if cap=m.toNat then ad else ad.map (·.add (m.toNat*t1.cells))),cap-m.toNat,?_,?_,?_⟩)
        .simp only[execOp,ho,hv,Option.map_none,Instr.sliceAt,Instr.slice,aVn,aVu h2,aVk,hbd,sizeOf,typeInfo,aWg,hei,hz.1,aVC]
        .rw[a0A k1 k2 k3]
        .rw[a0A k1 k2 k3];omega
        · rcases hl with rfl|⟨b,off,rfl,hL⟩
          .exact .inl (by simp [qV])
          · by_cases hc:cap=m.toNat
            · left
              apply aVE;rw[a0A k1 k2 k3];omega
            · right
              rw[aVa hc];refine⟨b,off+m.toNat*t1.cells,by simp [aWt],?_⟩;exact aAV _ (aAU _ hL pJ)
      .cases hq
    .cases hq
  .cases hq
end
theorem QV {α:Type}{R:α->pQ->Prop}{c:Nat}(hR: ∀x cs,R x cs->∀v∈cs,v.oneCell'=true): ∀{l:List α}{cs:pQ},tT R c l cs->∀v∈cs,v.oneCell'=true
 |[],_,h=>by rw[h];simp
 |_::_,_,⟨c1,c2,e,_,h2,h3⟩=>by
  subst e;intro v hv;rcases aWa.1 hv with h|h
  .exact hR _ _ h2 v h
  .exact QV hR h3 v h
theorem a0E {α:Type}{R:α->pQ->Prop}{c:Nat}: ∀{l:List α}{cs cy:pQ}{i:Nat}{y:α},tT R c l cs->R y cy->cy.length=c->i<l.length->
  ∃c1 c2 c3,cs=c1++c2++c3/\c1.length=i*c/\c2.length=c/\tT R c (l.set i y) (c1++cy++c3)
 |[],_,_,_,_,_,_,_,h=>by simp at h
 |_::l,_,cy,0,y,⟨c1,c2,e,h1,_,h3⟩,hy,hc,_=>⟨[],c1,c2,by simpa using e,by simp,h1,⟨cy,c2,by simp,hc,hy,h3⟩⟩
 |x::l,_,cy,i+1,y,⟨c1,c2,e,h1,h2,h3⟩,hy,hc,hi=>by
  obtain⟨d1,d2,d3,e1,e2,e3,e4⟩:=a0E h3 hy hc (by simpa using hi);refine⟨c1++d1,d2,d3,by rw[e,e1];simp,by rw[aVc,h1,e2,aWi];omega,e3,⟨c1,d1++cy++d3,by simp,h1,h2,e4⟩⟩
theorem NK {α:Type}{R:α->pQ->Prop}{w:pU}{S:Nat->Nat->Prop}{c b:Nat}: ∀{l:List α}{o:Nat},yU R w S c b o l->∃cs,tT R c l cs/\w.rangeAt b o cs/\∀j,j<l.length*c->S b (o+j)
 |[],o,_=>⟨[],rfl,fun j v h=>by simp at h,fun j h=>by simp at h⟩
 |x::l,o,⟨⟨c1,h1,h2,h3,h4⟩,h5⟩=>by
  obtain⟨c2,k1,k2,k3⟩:=NK h5;refine⟨c1++c2,⟨c1,c2,rfl,h1,h4,k1⟩,fun j v hv=> ?_,fun j hj=> ?_⟩
  .by_cases hj:j<c
   .exact h2 j v (by rwa [aVt pJ] at hv)
   .have:=k2 (j-c) v (by rw[aVl pJ,h1] at hv;exact hv);rwa [show o+c+(j-c)=o+j from by omega] at this
  .by_cases hj':j<c
   .exact h3 j hj'
   .have:=k3 (j-c) (by rw[aVd,aWi] at hj;omega);rwa [show o+c+(j-c)=o+j from by omega] at this
theorem aBa {g:Gh}{w:pU}{t:Ty}: ∀n,tT (Rd g w t) t.cells (DX t n) (List.flatten (List.replicate n (uB t)))
 |0=>rfl
 |n+1=>⟨uB t,_,rfl,sY (F3 g w t),F3 g w t,aBa n⟩
theorem aBb (t:Ty): ∀n,(DX t n).length=n
 |0=>rfl
 |n+1=>by simp [DX,aBb t n]
def Gh.tok (g:Gh) (k n:Nat) (v:pV):Gh:={g with cur:=fun k' n'=>if k'=k/\n'=n then some v else g.cur k' n'}
def Gh.var (g:Gh) (i b:Nat) (k:Option (TypeId×Nat)):Gh:={g with J:=fun i'=>if i'=i then some ⟨b,0,k⟩ else g.J i'}
def Gh.shut (g:Gh) (b m:Nat):Gh:={g with S:=fun b' o=>g.S b' o\/(b'=b/\o<m)}
section
variable {g:Gh}{w:pU}{H:sD}(hH:sK g w H)
include hH
theorem sG.nilTok {side:List Prop}{d:DV}{rds:pT}{base e c:Nat}{u:Ty}(hd:d= .val (.list u) []) (hf: ∀n,g.cur base n=none):
  sG g w H ⟨side,(d,some base),[(base,.grow e c 0)],rds⟩ (g.tok base 0 (.slice none 0 0)) w (.slice none 0 0):=by
 have le:Le g w (g.tok base 0 (.slice none 0 0)) w:=⟨fun _ _ h=>h,fun _ _ _=>rfl,fun _ _ h=>h,fun k n v h=>by
  show (if k=base/\n=0 then _ else _)=_;rw[aVa (fun⟨e1,_⟩=>by rw[e1,hf] at h;cases h)];exact h⟩
 have fr:Fr (t8 g H (qO [(base,qH.grow e c 0)])) w w g.S (g.tok base 0 (.slice none 0 0)).S:= .refl _ _ _;have gho: ∀i,i∉qO [(base,qH.grow e c 0)]->(g.tok base 0 (.slice none 0 0)).J i=g.J i/\(g.tok base 0 (.slice none 0 0)).cur i=g.cur i:=fun i hi=>⟨rfl,by
  funext n;show (if i=base/\n=0 then _ else _)=_;rw[aVa (fun⟨e1,_⟩=>hi (by simp [qO,e1]))]⟩
 have cur0:(g.tok base 0 (.slice none 0 0)).cur base 0=some (.slice none 0 0):=by simp [Gh.tok]
 have own: ∀i blk b o,i∈qO [(base,qH.grow e c 0)]->qM (rD [(base,qH.grow e c 0)] H) i=some blk->¬sE (g.tok base 0 (.slice none 0 0)) i blk b o:=by
  intro i blk b o hi hg ho;simp only[qO,aVm] at hi;subst hi;simp only[rD,qM,aWQ,aU9] at hg;subst hg;obtain⟨v,hv,hb⟩:=ho;rw[cur0] at hv;obtain rfl:=aVe hv;cases hb
 subst hd;refine⟨le,⟨.inr ⟨rfl,none,0,rfl,aVp _,.inl rfl⟩,cur0⟩,hH.upd le fr (fun i blk b o h1 h2 h3=>absurd h3 (own i blk b o h1 h2)) gho (fun i blk hi hg=> ?_) (fun i j bi bj b o hi hj hij hgi hgj hoi hoj=>own i bi b o hi hgi hoi) hH.sl,fr,fun i blk b o h1 h2 h3=>absurd h3 (own i blk b o h1 h2),gho,fun i u' y us h=>by
  simp only[rD,qM] at h;split at h
  .cases h
  .exact .inl ⟨y,us,h⟩⟩
 simp only[qO,aVm] at hi;subst hi;simp only[rD,qM,aWQ,aU9] at hg;subst hg;refine⟨.slice none 0 0,[],cur0,World.ownsRow_nil w 0 e c,fun m hm=> ?_,fun b hb=>by cases hb⟩;show (if i=i/\m=0 then _ else _)=_;rw[aVa pJ];exact hf m
theorem sG.row {side:List Prop}{rds:pT}{s:qI}{val:pV}{k:Nat}{e:TypeId}{t:Ty}{l:List t.den}{n:Nat}{v:pV}{xs:pQ}{w':pU}
  (hl:l.length=n) (hown:w'.ownsRow 0 e t.cells v n xs) (hF:tT (Rd g w t) t.cells l xs) (hnone: ∀m,n<m->g.cur k m=none) (hcur: ∀u,g.cur k n=some u->u=v)
  (hg:w.grownBy w' (v.ownBlock)\/∃q,w.grownBy w' q/\∀b,q=some b->∀o,t8 g H [k] b o)
  (hcell: ∀b o,g.S b o->w'.cell? ⟨b,o,none⟩=w.cell? ⟨b,o,none⟩)
  (hseal: ∀b,v.ownBlock=some b->∀o,¬g.S b o)
  (hperm: ∀b,v.ownBlock=some b->w.heap.size<=b\/∀o,t8 g H [k] b o)
  (hslot:s3 (g.tok k n v) w' s val):sG g w H ⟨side,s,[(k,.row e t l n)],rds⟩ (g.tok k n v) w' val:=by
 have le:Le g w (g.tok k n v) w':=⟨fun _ _ h=>h,fun b o h=>hcell b o h,fun _ _ h=>h,fun k' n' v' h=>by
  show (if k'=k/\n'=n then _ else _)=_;by_cases hk:k'=k/\n'=n
  .obtain⟨rfl,rfl⟩:=hk;rw[aU8 ⟨rfl,rfl⟩,hcur _ h]
  .rw[aVa hk];exact h⟩
 have cur1:(g.tok k n v).cur k n=some v:=by simp [Gh.tok]
 have hblk: ∀b,b<w.heap.size->(∀o,¬t8 g H (qO [(k,qH.row e t l n)]) b o)->w'.heap[b]? =w.heap[b]? :=by
  intro b hb hno;rcases hg with hg|⟨q,hg,hq⟩
  .refine hg.block b hb (fun e1=> ?_);rcases hperm b e1.symm with h|h
   .omega
   .exact hno 0 (h 0)
  .exact hg.block b hb (fun e1=>hno 0 (hq b e1.symm 0))
 have hgo:w'.os=w.os/\w'.tape=w.tape/\w'.output=w.output/\w.heap.size<=w'.heap.size:=by
  rcases hg with hg|⟨q,hg,_⟩
  .exact⟨hg.os,hg.tape,hg.output,hg.size⟩
  .exact⟨hg.os,hg.tape,hg.output,hg.size⟩
 have hall: ∀b o,t8 g H (qO [(k,qH.row e t l n)]) b o->True:=fun _ _ _=>trivial;have hcell2: ∀b o,b<w.heap.size->¬t8 g H (qO [(k,qH.row e t l n)]) b o->(w'.cell? ⟨b,o,none⟩=w.cell? ⟨b,o,none⟩/\w'.frozen? ⟨b,o,none⟩=w.frozen? ⟨b,o,none⟩):=by
  intro b o hb hno;have:w'.heap[b]? =w.heap[b]? :=by
   rcases hg with hg|⟨q,hg,hq⟩
   .refine hg.block b hb (fun e1=> ?_);rcases hperm b e1.symm with h|h
    .omega
    .exact hno (h o)
   .exact hg.block b hb (fun e1=>hno (hq b e1.symm o))
  exact⟨aVB (a:=⟨b,o,none⟩) this,aWb (a:=⟨b,o,none⟩) this⟩
 have hshape: ∀b s,w.shape? b=some s->w'.shape? b=some s\/∀o,t8 g H (qO [(k,qH.row e t l n)]) b o:=by
  intro b s hs;rcases hg with hg|⟨q,hg,hq⟩
  .by_cases e1:v.ownBlock=some b
   .rcases hperm b e1 with h|h
    .have:=F1 hs;omega
    .exact .inr h
   .exact .inl ((F2 (hg.block b (F1 hs) (fun h=>e1 h.symm))).trans hs)
  .by_cases e1:q=some b
   .exact .inr (hq b e1)
   .exact .inl ((F2 (hg.block b (F1 hs) (fun h=>e1 h.symm))).trans hs)
 have fr:Fr (t8 g H (qO [(k,qH.row e t l n)])) w w' g.S (g.tok k n v).S:=⟨hgo.1,hgo.2.1,hgo.2.2.1,hgo.2.2.2,hblk,hcell2,fun b o h=> .inl h,hshape⟩;have gho: ∀i,i∉qO [(k,qH.row e t l n)]->(g.tok k n v).J i=g.J i/\(g.tok k n v).cur i=g.cur i:=fun i hi=>⟨rfl,by
  funext n';show (if i=k/\n'=n then _ else _)=_;rw[aVa (fun⟨e1,_⟩=>hi (by simp [qO,e1]))]⟩
 have get: ∀i blk,i∈qO [(k,qH.row e t l n)]->qM (rD [(k,qH.row e t l n)] H) i=some blk->i=k/\blk= .row e t l n:=by
  intro i blk hi hg;simp only[qO,aVm] at hi;subst hi;simp only[rD,qM,aWQ,aU9] at hg;exact⟨rfl,hg.symm⟩
 have perm: ∀i blk b o,i∈qO [(k,qH.row e t l n)]->qM (rD [(k,qH.row e t l n)] H) i=some blk->sE (g.tok k n v) i blk b o->w.heap.size<=b\/t8 g H (qO [(k,qH.row e t l n)]) b o:=by
  intro i blk b o hi hgt ho;obtain⟨rfl,rfl⟩:=get i blk hi hgt;obtain⟨v',hv',hb⟩:=ho;rw[cur1] at hv';obtain rfl:=aVe hv';exact(hperm b hb).imp id (fun h=>h o)
 refine⟨le,hslot,hH.upd le fr perm gho (fun i blk hi hgt=> ?_) (fun i j bi bj b o hi hj hij hgi hgj _ _=>hij ((get i bi hi hgi).1.trans (get j bj hj hgj).1.symm)) (fun b o h=>aVP (hH.sl b o h) hgo.2.2.2),fr,perm,gho,fun i u' y us h=>by
  simp only[rD,qM] at h;split at h
  .cases h
  .exact .inl ⟨y,us,h⟩⟩
 obtain⟨rfl,rfl⟩:=get i blk hi hgt;refine⟨hl,v,xs,cur1,hown,D8 (fun _ _ h=>wT le h) hF,fun m hm=> ?_,hseal⟩;show (if i=i/\m=n then _ else _)=_;rw[aVa pJ];exact hnone m hm
theorem sG.newVarJ {side:List Prop}{rds:pT}{base:Nat}{t:Ty}{x:t.den}{toks:pO}{cs:pQ}{e:TypeId}(hR:Rd (g.var base w.heap.size (some (e,cs.length))) w t x cs) (htk:HH g t x cs toks) (hf:g.J base=none) (hc:g.cur base=fun _=>none):
  sG g w H ⟨side,(.val .ref (some (base,0)),none),[(base,.cells t x toks)],rds⟩ (g.var base w.heap.size (some (e,cs.length))) (w.alloc (.cells cs.toArray e)) (.pointer (some ⟨w.heap.size,0,none⟩)):=by
 have hJ:(g.var base w.heap.size (some (e,cs.length))).J base=some ⟨w.heap.size,0,some (e,cs.length)⟩:=by simp [Gh.var]
 have le:Le g w (g.var base w.heap.size (some (e,cs.length))) (w.alloc (.cells cs.toArray e)):=⟨fun _ _ h=>h,fun b o h=>aVB (a:=⟨b,o,none⟩) (aVH _ _ _ (hH.sl b o h)),fun i p h=>by
  show (if i=base then _ else _)=_;rw[aVa (fun e1=>by rw[e1,hf] at h;cases h)];exact h,fun _ _ _ h=>h⟩
 have le2:Le (g.var base w.heap.size (some (e,cs.length))) w (g.var base w.heap.size (some (e,cs.length))) (w.alloc (.cells cs.toArray e)):=⟨fun _ _ h=>h,fun b o h=>aVB (a:=⟨b,o,none⟩) (aVH _ _ _ (hH.sl b o h)),fun _ _ h=>h,fun _ _ _ h=>h⟩;have fr:Fr (t8 g H (qO [(base,qH.cells t x toks)])) w (w.alloc (.cells cs.toArray e)) g.S (g.var base w.heap.size (some (e,cs.length))).S:=
  ⟨rfl,rfl,rfl,by simp,fun b hb _=>aVH _ _ _ hb,fun b o hb _=>⟨aVB (a:=⟨b,o,none⟩) (aVH _ _ _ hb),aWb (a:=⟨b,o,none⟩) (aVH _ _ _ hb)⟩,fun b o h=> .inl h,fun b s h=> .inl ((F2 (aVH _ _ _ (F1 h))).trans h)⟩
 have gho: ∀i,i∉qO [(base,qH.cells t x toks)]->(g.var base w.heap.size (some (e,cs.length))).J i=g.J i/\(g.var base w.heap.size (some (e,cs.length))).cur i=g.cur i:=fun i hi=>⟨by
  show (if i=base then _ else _)=_;rw[aVa (fun e1=>hi (by simp [qO,e1]))],rfl⟩
 have get: ∀i blk,i∈qO [(base,qH.cells t x toks)]->qM (rD [(base,qH.cells t x toks)] H) i=some blk->i=base/\blk= .cells t x toks:=by
  intro i blk hi hg;simp only[qO,aVm] at hi;subst hi;simp only[rD,qM,aWQ,aU9] at hg;exact⟨rfl,hg.symm⟩
 have perm: ∀i blk b o,i∈qO [(base,qH.cells t x toks)]->qM (rD [(base,qH.cells t x toks)] H) i=some blk->sE (g.var base w.heap.size (some (e,cs.length))) i blk b o->w.heap.size<=b\/t8 g H (qO [(base,qH.cells t x toks)]) b o:=by
  intro i blk b o hi hg ho;obtain⟨rfl,rfl⟩:=get i blk hi hg;obtain⟨p,hp,h1,_⟩:=ho;rw[hJ] at hp;obtain rfl:=aVe hp;exact .inl (aWO h1.symm)
 have hl:=sY hR;refine⟨le,⟨.inr ⟨rfl,_,hJ,rfl⟩,trivial⟩,hH.upd le fr perm gho (fun i blk hi hg=> ?_) (fun i j bi bj b o hi hj hij hgi hgj _ _=>hij ((get i bi hi hgi).1.trans (get j bj hj hgj).1.symm)) (fun b o h=>aVP (hH.sl b o h) pL),fr,perm,gho,fun i u' y us h=>by
  simp only[rD,qM] at h;split at h
  .rename_i e1;subst e1;exact .inr ⟨hf,fun n=>by rw[hc]⟩
  .exact .inl ⟨y,us,h⟩⟩
 obtain⟨rfl,rfl⟩:=get i blk hi hg;refine⟨_,cs,hJ,wT le2 hR,fun j v hv=> ?_,⟨fun j hj=> ?_,fun _ s hs=> ?_⟩,fun j _ hs=>aW3 _ (hH.sl _ _ hs),aAT le.cur htk⟩
 .simp only[aVF];rw[aWE];simpa using hv
 .simp only[aVF];rw[aWE,World.frozen?_alloc_new];exact⟨by simp;omega,rfl⟩
 .cases hs;show (match (w.heap.push (.cells cs.toArray e))[w.heap.size]? with|some (.cells c elem _)=>some (elem,c.size) |_=>none)=_
  rw[aXf];simp only[aV3]
theorem sG.newVar {side:List Prop}{rds:pT}{base:Nat}{t:Ty}{x:t.den}{toks:pO}{cs:pQ}{e:TypeId}(hR:Rd g w t x cs) (htk:HH g t x cs toks) (hf:g.J base=none) (hc:g.cur base=fun _=>none):
  sG g w H ⟨side,(.val .ref (some (base,0)),none),[(base,.cells t x toks)],rds⟩ (g.var base w.heap.size (some (e,cs.length))) (w.alloc (.cells cs.toArray e)) (.pointer (some ⟨w.heap.size,0,none⟩)):=
 sG.newVarJ hH (wT (g:=g) (g':=g.var base w.heap.size (some (e,cs.length))) (w:=w) (w':=w) ⟨fun _ _ h=>h,fun _ _ _=>rfl,fun i p h=>by
  show (if i=base then _ else _)=_;rw[aVa (fun e1=>by rw[e1,hf] at h;cases h)];exact h,fun _ _ _ h=>h⟩ hR) htk hf hc
end
theorem a0F {P:Program}(w:pU) (t ty e:TypeId) (i:TypeInfo) (z:pV) (size bytes:Nat) (ht:P.underlying t=some (.slice e)) (hi:P.info? e=some i) (hz:i.zero=some z)
  (hsize:i.size=size) (hby:i.bytes=bytes) (hzs:z.cells.size=size)
  (v:pV) (n:Nat) (xs:pQ) (hown:w.ownsRow 0 e size v n xs)
  (a:Addr) (m c:Nat) (news:pQ) (hl:news.length=m*size) (hnews: ∀j u,news[j]? =some u->w.cell? (a.add j)=some u) (h1: ∀u∈news,u.oneCell'=true) (hm:0<m)
  (h63:n+m<=maxLen) (hbytes:(n+m)*bytes<=140737488355328):
  ∃q cap w',(Builtin.append_ #[t,t] ty #[v,.slice (some a) m c]).run P w= .ok (.slice (some ⟨q,0,none⟩) (n+m) cap) w'/\w'.ownsRow 0 e size (.slice (some ⟨q,0,none⟩) (n+m) cap) (n+m) (xs++news)/\
   (q=w.heap.size\/v.ownBlock=some q)/\w.grownBy w' v.ownBlock/\n+m<=cap/\
   ∀b o,b<w.heap.size->(v.ownBlock=some b->o<n*size)->w'.cell? ⟨b,o,none⟩=w.cell? ⟨b,o,none⟩:=by
 subst hsize;subst hby;have hsmall:n+m<=9223372036854775807:=by simp only[maxLen] at h63;omega
 have hlen:(xs++news).length=(n+m)*i.size:=by rw[aVc,hown.1,hl,Nat.add_mul]
 have grown: ∀(old:Nat),old<n+m->∀(row:pS),
   (w.drew.alloc (.cells (xs.toArray++news.toArray++Builtin.zeroCells z.cells (grownCap w (n+m) old e- (n+m))) e)).ownsRow 0 e i.size
    (.slice (some ⟨w.heap.size,0,none⟩) (n+m) (grownCap w (n+m) old e)) (n+m) (xs++news)/\
   w.grownBy (w.drew.alloc (.cells (xs.toArray++news.toArray++Builtin.zeroCells z.cells (grownCap w (n+m) old e- (n+m))) e)) row/\n+m<=grownCap w (n+m) old e/\
   ∀b o,b<w.heap.size->(w.drew.alloc (.cells (xs.toArray++news.toArray++Builtin.zeroCells z.cells (grownCap w (n+m) old e- (n+m))) e)).cell? ⟨b,o,none⟩=w.cell? ⟨b,o,none⟩:=by
  intro old ho row;have hge:=grownCap_ge w (n+m) old e;have hcm:grownCap w (n+m) old e<=maxLen:=grownCap_le_maxLen w (n+m) old e h63;refine⟨⟨hlen,.inr ⟨w.heap.size,_,_,rfl,aVX _,aXl w.drew _,hge,hcm,?_,?_⟩⟩,⟨rfl,rfl,rfl,by simp,fun k hk _=>aVH w.drew _ k hk⟩,hge,fun b o hb=>aVB (w:=w) (a:=⟨b,o,none⟩) (aVH w.drew _ b hb)⟩
  .simp only[aXk,aV3,size_zeroCells,hzs,hown.1,hl,<-Nat.add_mul];congr 1;omega
  .simp only[Array.toList_append,aVi];rw[<-aVi,<-hlen];exact aWu
 rcases hown.2 with⟨rfl,rfl⟩ |⟨g,cap,cur,rfl,hbg,hg,hnc,hcm,hcs,htake⟩
 .have hx:xs=[]:=aVE (by simpa using hown.1);subst hx;have hr:=run_append_nil (P:=P) w t ty e i z ht hi hz a m c news hl hnews pJ pJ (by have hb:=hbytes;simp only[aVF] at hb;omega);have hgr:=grown 0 pJ (Value.ownBlock (.slice none 0 0));simp only[aVF,List.nil_append,Array.empty_append] at hgr|-;exact⟨_,_,_,hr,hgr.1,.inl rfl,hgr.2.1,hgr.2.2.1,fun b o hb _=>hgr.2.2.2 b o hb⟩
 .by_cases hroom:n+m<=cap
  .have hfit:n*i.size+news.length<=cur.size:=by rw[hl,hcs,<-Nat.add_mul];exact aW5 _ hroom
   have hr:=run_append_room (P:=P) w t ty e i ht hi g n cap cur hg a m c news hl hnews h1 hroom hfit;refine⟨_,_,_,hr,⟨hlen,.inr ⟨g,cap,_,rfl,hbg,aXb w g cur _ e _ hg,hroom,hcm,?_,?_⟩⟩,.inr rfl,⟨rfl,rfl,rfl,by simp,fun k _ hk=>aWM w g k _ (fun e=>hk (by simp [Value.ownBlock,e]))⟩,hroom,fun b o hb hso=> ?_⟩
   .simp only[aV3,aVc,aVx,aVh,aVJ];omega
   .rw[htake,<-hlen];exact aWu
   .by_cases hbg':b=g
    .subst hbg';have ho:=hso rfl;rw[cell_setRow_same w b o cur _ e _ hg,cell_of_row w b o cur e (0,0) hg];have hlt:o<(cur.toList.take (n*i.size)).length:=by rw[aVx,aVJ];omega
     rw[aVi,List.getElem?_toArray,aVt hlt,aWY,aU8 ho,aWj]
    .exact aVB (w:=w) (a:=⟨b,o,none⟩) (aWM w g b _ hbg')
  .have holds: ∀j u,xs[j]? =some u->w.cell? ((⟨g,0,none⟩:Addr).add j)=some u:=hown.cells (g:=g) rfl;have hr:=run_append_grow (P:=P) w t ty e i z ht hi hz ⟨g,0,none⟩ n cap xs hown.1 holds a m c news hl hnews pJ pJ (growslice_fits pJ hbytes);have hgr:=grown cap pJ (Value.ownBlock (.slice (some ⟨g,0,none⟩) n cap));exact⟨_,_,_,hr,hgr.1,.inl rfl,hgr.2.1,hgr.2.2.1,fun b o hb _=>hgr.2.2.2 b o hb⟩
theorem a0G {w:pU}{e:TypeId}{c n:Nat}{q cap:Nat}{xs:pQ}(h:w.ownsRow 0 e c (.slice (some ⟨q,0,none⟩) n cap) n xs):w.rangeAt q 0 xs:=fun j u hu=>by
 have:=h.cells (g:=q) rfl j u hu;rwa [aWt] at this
theorem aKY (w:pU) (a:Addr) (v:pV) (b:Nat):(w.setCell a v).shape? b=w.shape? b:=by
 unfold World.shape? World.setCell;simp only[aWH];by_cases h:a.block=b
 .rw[aU8 h];cases hb:w.heap[b]? with
  |none=>rfl
  |some x=>
   cases x with
   |cells c e f=>
    simp only[Option.map_some];split<;>simp
   |_=>rfl
 .rw[aVa h]
theorem QW (b:Nat): ∀(l:pQ) (o:Nat) (w:pU) (b':Nat),(w.setCells b o l).shape? b'=w.shape? b'
 |[],_,_,_=>rfl
 |v::l,o,w,b'=>by rw[World.setCells,QW b l,aKY]
section
variable {g:Gh}{w:pU}{H:sD}(hH:sK g w H)
include hH
theorem sG.append {side:List Prop}{rds:pT}{k e c n:Nat}{u:Ty}{l r:List u.den}{w':pU}{q cap:Nat}{v:pV}{xs news:pQ}(hk:qM H k=some (.grow e c n)) (hc:c=u.cells)
  (hln:l.length=n) (hv:g.cur k n=some v) (hown:w.ownsRow 0 e c v n xs) (hnone: ∀m,n<m->g.cur k m=none) (hseal: ∀b,v.ownBlock=some b->∀o,g.S b o->o<n*c) (hl:tT (Rd g w u) c l xs) (hr:tT (Rd g w u) c r news) (hm:0<r.length)
  (ho:w'.ownsRow 0 e c (.slice (some ⟨q,0,none⟩) (n+r.length) cap) (n+r.length) (xs++news)) (hq:q=w.heap.size\/v.ownBlock=some q) (hg:w.grownBy w' v.ownBlock) (hcap:n+r.length<=cap)
  (hcell: ∀b o,b<w.heap.size->(v.ownBlock=some b->o<n*c)->w'.cell? ⟨b,o,none⟩=w.cell? ⟨b,o,none⟩):
  sG g w H ⟨side,(.val (.list u) (l++r),some k),[(k,.grow e c (n+r.length))],rds⟩ ((g.tok k (n+r.length) (.slice (some ⟨q,0,none⟩) (n+r.length) cap)).shut q ((n+r.length)*c)) w' (.slice (some ⟨q,0,none⟩) (n+r.length) cap):=by
 have hnb:=hnone (n+r.length) pJ;have hownk: ∀o b,v.ownBlock=some b->t8 g H (qO [(k,qH.grow e c (n+r.length))]) b o:=fun o b hb=>⟨k,_,by simp [qO],hk,v,hv,hb⟩;have hqlt:q<w'.heap.size:=(ho.lt q rfl).2;have le:Le g w ((g.tok k (n+r.length) (.slice (some ⟨q,0,none⟩) (n+r.length) cap)).shut q ((n+r.length)*c)) w':=⟨fun _ _ h=> .inl h,fun b o h=>hcell b o (hH.sl b o h) (fun hb=>hseal b hb o h),fun _ _ h=>h,fun k' n' v' h=>by
  show (if k'=k/\n'=n+r.length then _ else _)=_;rw[aVa (fun⟨e1,e2⟩=>by rw[e1,e2,hnb] at h;cases h)];exact h⟩
 have fr:Fr (t8 g H (qO [(k,qH.grow e c (n+r.length))])) w w' g.S ((g.tok k (n+r.length) (.slice (some ⟨q,0,none⟩) (n+r.length) cap)).shut q ((n+r.length)*c)).S:=by
  have hbk: ∀b,b<w.heap.size->∀o,¬t8 g H (qO [(k,qH.grow e c (n+r.length))]) b o->w'.heap[b]? =w.heap[b]? :=fun b hb o hno=>hg.block b hb (fun e1=>hno (hownk o b e1.symm));refine⟨hg.os,hg.tape,hg.output,hg.size,fun b hb hno=>hbk b hb 0 (hno 0),fun b o hb hno=>⟨aVB (a:=⟨b,o,none⟩) (hbk b hb o hno),aWb (a:=⟨b,o,none⟩) (hbk b hb o hno)⟩,fun b o h=> ?_,fun b s hs=> ?_⟩
  rotate_left
  .by_cases e1:v.ownBlock=some b
   .exact .inr fun o=>hownk o b e1
   .exact .inl ((F2 (hg.block b (F1 hs) (fun h=>e1 h.symm))).trans hs)
  rcases h with h|⟨rfl,_⟩
  .exact .inl h
  .rcases hq with h|h
   .exact .inr (.inl (aWO h.symm))
   .exact .inr (.inr (hownk o b h))
 have gho: ∀i,i∉qO [(k,qH.grow e c (n+r.length))]->((g.tok k (n+r.length) (.slice (some ⟨q,0,none⟩) (n+r.length) cap)).shut q ((n+r.length)*c)).J i=g.J i/\((g.tok k (n+r.length) (.slice (some ⟨q,0,none⟩) (n+r.length) cap)).shut q ((n+r.length)*c)).cur i=g.cur i:=fun i hi=>⟨rfl,by
  funext n';show (if i=k/\n'=n+r.length then _ else _)=_;rw[aVa (fun⟨e1,_⟩=>hi (by simp [qO,e1]))]⟩
 have cur1:((g.tok k (n+r.length) (.slice (some ⟨q,0,none⟩) (n+r.length) cap)).shut q ((n+r.length)*c)).cur k (n+r.length)=some (.slice (some ⟨q,0,none⟩) (n+r.length) cap):=by
  show (if k=k/\n+r.length=n+r.length then _ else _)=_;simp
 have get: ∀i blk,i∈qO [(k,qH.grow e c (n+r.length))]->qM (rD [(k,qH.grow e c (n+r.length))] H) i=some blk->i=k/\blk= .grow e c (n+r.length):=by
  intro i blk hi hg;simp only[qO,aVm] at hi;subst hi;simp only[rD,qM,aWQ,aU9] at hg;exact⟨rfl,hg.symm⟩
 have perm: ∀i blk b o,i∈qO [(k,qH.grow e c (n+r.length))]->qM (rD [(k,qH.grow e c (n+r.length))] H) i=some blk->sE ((g.tok k (n+r.length) (.slice (some ⟨q,0,none⟩) (n+r.length) cap)).shut q ((n+r.length)*c)) i blk b o->w.heap.size<=b\/t8 g H (qO [(k,qH.grow e c (n+r.length))]) b o:=by
  intro i blk b o hi hgt ho';obtain⟨rfl,rfl⟩:=get i blk hi hgt;obtain⟨v',hv',hb⟩:=ho';rw[cur1] at hv';obtain rfl:=aVe hv';cases hb;rcases hq with h|h
  .exact .inl (aWO h.symm)
  .exact .inr (hownk o _ h)
 have hF:tT (Rd ((g.tok k (n+r.length) (.slice (some ⟨q,0,none⟩) (n+r.length) cap)).shut q ((n+r.length)*c)) w' u) u.cells (l++r) (xs++news):=hc▸D8 (fun _ _ h=>wT le h) (QN hl hr);have hlr:(l++r).length=n+r.length:=by rw[aVc,hln]
 refine⟨le,⟨.inr ⟨rfl,some ⟨q,0,none⟩,cap,by rw[hlr],by rw[hlr];exact hcap,.inr ⟨q,0,rfl,LB hF (a0G ho) (fun j hj=> ?_)⟩⟩,?_⟩,hH.upd le fr perm gho (fun i blk hi hgt=> ?_) (fun i j bi bj b o hi hj hij hgi hgj _ _=>hij ((get i bi hi hgi).1.trans (get j bj hj hgj).1.symm)) (fun b o h=> ?_),fr,perm,gho,fun i u' y us h=>by
  simp only[rD,qM] at h;split at h
  .cases h
  .exact .inl ⟨y,us,h⟩⟩
 .right;rw[hlr] at hj;exact⟨rfl,by rw[hc];omega⟩
 .show _=_;rw[hlr];exact cur1
 .obtain⟨rfl,rfl⟩:=get i blk hi hgt;refine⟨_,_,cur1,ho,fun m hm'=> ?_,fun b hb o h=> ?_⟩
  .show (if i=i/\m=n+r.length then _ else _)=_;rw[aVa pJ];exact hnone m pJ
  .cases hb;rcases h with h|⟨_,h⟩
   .rcases hq with h2|h2
    .have:q<w.heap.size:=hH.sl _ _ h;omega
    .have:=hseal _ h2 o h;rw[Nat.add_mul];omega
   .exact h
 .rcases h with h|⟨rfl,_⟩
  .exact aVP (hH.sl b o h) hg.size
  .exact hqlt
theorem sG.lit {side:List Prop}{rds:pT}{base e c n:Nat}{u:Ty}{l:List u.den}{cs:pQ}(hc:c=u.cells) (hln:l.length=n) (hl:tT (Rd g w u) c l cs) (hn:n<=maxLen) (hf: ∀m,g.cur base m=none):
  sG g w H ⟨side,(.val (.list u) l,some base),[(base,.grow e c n)],rds⟩ ((g.tok base n (.slice (some ⟨w.heap.size,0,none⟩) n n)).shut w.heap.size (n*c)) (w.alloc (.cells cs.toArray e)) (.slice (some ⟨w.heap.size,0,none⟩) n n):=by
 have hlen:=J5 hl;have le:Le g w ((g.tok base n (.slice (some ⟨w.heap.size,0,none⟩) n n)).shut w.heap.size (n*c)) (w.alloc (.cells cs.toArray e)):=⟨fun _ _ h=> .inl h,fun b o h=>aVB (a:=⟨b,o,none⟩) (aVH _ _ _ (hH.sl b o h)),fun _ _ h=>h,fun k' n' v' h=>by
  show (if k'=base/\n'=n then _ else _)=_;rw[aVa (fun⟨e1,e2⟩=>by rw[e1,hf] at h;cases h)];exact h⟩
 have fr:Fr (t8 g H (qO [(base,qH.grow e c n)])) w (w.alloc (.cells cs.toArray e)) g.S ((g.tok base n (.slice (some ⟨w.heap.size,0,none⟩) n n)).shut w.heap.size (n*c)).S:=
  ⟨rfl,rfl,rfl,by simp,fun b hb _=>aVH _ _ _ hb,fun b o hb _=>⟨aVB (a:=⟨b,o,none⟩) (aVH _ _ _ hb),aWb (a:=⟨b,o,none⟩) (aVH _ _ _ hb)⟩,fun b o h=>h.imp id fun h=> .inl (aWO h.1.symm),fun b s h=> .inl ((F2 (aVH _ _ _ (F1 h))).trans h)⟩
 have gho: ∀i,i∉qO [(base,qH.grow e c n)]->((g.tok base n (.slice (some ⟨w.heap.size,0,none⟩) n n)).shut w.heap.size (n*c)).J i=g.J i/\((g.tok base n (.slice (some ⟨w.heap.size,0,none⟩) n n)).shut w.heap.size (n*c)).cur i=g.cur i:=fun i hi=>⟨rfl,by
  funext n';show (if i=base/\n'=n then _ else _)=_;rw[aVa (fun⟨e1,_⟩=>hi (by simp [qO,e1]))]⟩
 have cur1:((g.tok base n (.slice (some ⟨w.heap.size,0,none⟩) n n)).shut w.heap.size (n*c)).cur base n=some (.slice (some ⟨w.heap.size,0,none⟩) n n):=by
  show (if base=base/\n=n then _ else _)=_;simp
 have get: ∀i blk,i∈qO [(base,qH.grow e c n)]->qM (rD [(base,qH.grow e c n)] H) i=some blk->i=base/\blk= .grow e c n:=by
  intro i blk hi hg;simp only[qO,aVm] at hi;subst hi;simp only[rD,qM,aWQ,aU9] at hg;exact⟨rfl,hg.symm⟩
 have perm: ∀i blk b o,i∈qO [(base,qH.grow e c n)]->qM (rD [(base,qH.grow e c n)] H) i=some blk->sE ((g.tok base n (.slice (some ⟨w.heap.size,0,none⟩) n n)).shut w.heap.size (n*c)) i blk b o->w.heap.size<=b\/t8 g H (qO [(base,qH.grow e c n)]) b o:=by
  intro i blk b o hi hgt ho';obtain⟨rfl,rfl⟩:=get i blk hi hgt;obtain⟨v',hv',hb⟩:=ho';rw[cur1] at hv';obtain rfl:=aVe hv';cases hb;exact .inl (aVp _)
 have hF:tT (Rd ((g.tok base n (.slice (some ⟨w.heap.size,0,none⟩) n n)).shut w.heap.size (n*c)) (w.alloc (.cells cs.toArray e)) u) u.cells l cs:=hc▸D8 (fun _ _ h=>wT le h) hl;have hra:(w.alloc (.cells cs.toArray e)).rangeAt w.heap.size 0 cs:=fun j v hv=>by
  rw[aVF,aWE];simpa using hv
 refine⟨le,⟨.inr ⟨rfl,some ⟨w.heap.size,0,none⟩,n,by rw[hln],by rw[hln];exact aVp _,.inr ⟨w.heap.size,0,rfl,LB hF hra (fun j hj=> ?_)⟩⟩,?_⟩,hH.upd le fr perm gho (fun i blk hi hgt=> ?_) (fun i j bi bj b o hi hj hij hgi hgj _ _=>hij ((get i bi hi hgi).1.trans (get j bj hj hgj).1.symm)) (fun b o h=> ?_),fr,perm,gho,fun i u' y us h=>by
  simp only[rD,qM] at h;split at h
  .cases h
  .exact .inl ⟨y,us,h⟩⟩
 .right;rw[hln] at hj;exact⟨rfl,by rw[hc];omega⟩
 .show _=_;rw[hln];exact cur1
 .obtain⟨rfl,rfl⟩:=get i blk hi hgt;refine⟨_,cs,cur1,⟨by rw[hlen,hln],.inr ⟨w.heap.size,n,cs.toArray,rfl,aVX _,aXl w _,aVp _,hn,by simp [hlen,hln],by simp [<-hln,<-hlen]⟩⟩,fun m hm'=> ?_,fun b hb o h=> ?_⟩
  .show (if i=i/\m=n then _ else _)=_;rw[aVa pJ];exact hf m
  .cases hb;rcases h with h|⟨_,h⟩
   .exact absurd (hH.sl _ _ h) (aW3 _)
   .exact h
 .rcases h with h|⟨rfl,_⟩
  .exact aVP (hH.sl b o h) pL
  .simp
theorem a0H: ∀{toks:pO}{off n q k:Nat},(q,k)∈vT toks off n->(q,k)∈toks/\¬(off<=q/\q<off+n)
 |[],_,_,_,_,h=>by simp [vT] at h
 |(q',k')::r,off,n,q,k,h=>by
  simp only[vT] at h;split at h
  .obtain⟨h1,h2⟩:=a0H h;exact⟨aVr _ h1,h2⟩
  .rename_i hn;rcases aVs.1 h with h|h
   .cases h;exact⟨by simp,hn⟩
   .obtain⟨h1,h2⟩:=a0H h;exact⟨aVr _ h1,h2⟩
theorem aKZ {u:Ty}{y:u.den}: ∀{t:Ty}{x z:t.den}{o:Nat},u.isRow=false->sW u y t x o=some z->rN u t z o=some y:=by
 intro t
 induction t with
 |pair a b iha ihb=>
  intro x z o hu h;have hne:u≠.pair a b:=by intro e;rw[e] at hu;cases hu
  have key: ∀o,(if o<a.cells then(sW u y a x.1 o).map (fun q=>(q,x.2)) else(sW u y b x.2 (o-a.cells)).map (fun q=>(x.1,q)))=some z->
    (if o<a.cells then rN u a z.1 o else rN u b z.2 (o-a.cells))=some y:=by
   intro o h;by_cases ho:o<a.cells
   .rw[aU8 ho] at h|-;obtain⟨q,hq,rfl⟩:=aVo.1 h;exact iha hu hq
   .rw[aVa ho] at h|-;obtain⟨q,hq,rfl⟩:=aVo.1 h;exact ihb hu hq
  cases o with
  |zero=>
   unfold sW at h;unfold rN;rw[aWW hne] at h;rw[aWW (Ne.symm hne)];have:=key 0 (by simpa using h);simpa using this
  |succ o=>
   have:=key (o+1) (by simpa[sW] using h);simpa[rN] using this
 |_=>
  intro x z o hu h;cases o with
  |zero=>
   unfold sW at h;split at h
   .rename_i e;subst e;simp only[uV,aU9] at h
    try subst h
    unfold rN;simp [uV]
   .simp at h
  |succ o=>simp [sW] at h
theorem aBc {u v:Ty}{y:u.den}: ∀{t:Ty}{x z:t.den}{o q:Nat}{l:(Ty.list v).den},sW u y t x o=some z->rN (.list v) t x q=some l->¬(o<=q/\q<o+u.cells)->rN (.list v) t z q=some l:=by
 intro t
 induction t with
 |pair a b iha ihb=>
  intro x z o q l h g hq;by_cases hu:o=0/\u= .pair a b
  .obtain⟨rfl,rfl⟩:=hu;exfalso;apply hq;have: ∀(t:Ty) (x:t.den) (q:Nat) (l:(Ty.list v).den),rN (.list v) t x q=some l->q<t.cells:=by
    intro t
    induction t with
    |pair s t ihs iht=>
     intro x q l g;have key: ∀q,(if q<s.cells then rN (.list v) s x.1 q else rN (.list v) t x.2 (q-s.cells))=some l->q<s.cells+t.cells:=by
      intro q g;by_cases h:q<s.cells
      .omega
      .rw[aVa h] at g;have:=iht _ _ _ g;omega
     cases q with
     |zero=>
      unfold rN at g;rw[aWW (by intro e;cases e)] at g;exact key 0 (by simpa using g)
     |succ q=>exact key (q+1) (by simpa[rN] using g)
    |_=>
     intro x q l g;cases q with
     |zero=>first|(simp [Ty.cells];done) |(unfold rN at g;simp at g)
     |succ q=>simp [rN] at g
   exact⟨aVX _,by simpa using this _ _ _ _ g⟩
  .have keyh:(if o<a.cells then(sW u y a x.1 o).map (fun q=>(q,x.2)) else(sW u y b x.2 (o-a.cells)).map (fun q=>(x.1,q)))=some z:=by
    cases o with
    |zero=>
     unfold sW at h;rw[aWW (fun e=>hu ⟨rfl,e⟩)] at h;simpa using h
    |succ o=>simpa[sW] using h
   have keyg: ∀x:(Ty.pair a b).den,rN (.list v) (.pair a b) x q=(if q<a.cells then rN (.list v) a x.1 q else rN (.list v) b x.2 (q-a.cells)):=by
    intro x;cases q with
    |zero=>
     conv=>lhs;unfold rN
     rw[aWW (by intro e;cases e),Nat.zero_sub]
    |succ q=>simp [rN]
   rw[keyg] at g|-;by_cases ho:o<a.cells
   .rw[aU8 ho] at keyh;obtain⟨z',hz',rfl⟩:=aVo.1 keyh;by_cases hqa:q<a.cells
    .rw[aU8 hqa] at g|-;exact iha hz' g hq
    .rw[aVa hqa] at g|-;exact g
   .rw[aVa ho] at keyh;obtain⟨z',hz',rfl⟩:=aVo.1 keyh;by_cases hqa:q<a.cells
    .rw[aU8 hqa] at g|-;exact g
    .rw[aVa hqa] at g|-;exact ihb hz' g pJ
 |unit=>
  intro x z o q l h g hq;cases q with
  |zero=>
   unfold rN at g;rw[aWW (by intro e;cases e)] at g;cases g
  |succ q=>simp [rN] at g
 |_=>
  intro x z o q l h g hq;cases o with
  |zero=>
   unfold sW at h;split at h
   .rename_i e;subst e;cases q with
    |zero=>exact absurd ⟨aVp _,Nat.zero_lt_one⟩ hq
    |succ q=>simp [rN] at g
   .simp at h
  |succ o=>simp [sW] at h
theorem sG.store {side:List Prop}{rds:pT}{i:Nat}{u t:Ty}{x z:u.den}{y:t.den}{off:Nat}{toks:pO}{k:pS}{p:Pl}{cy:pQ}{v:pV}(hb:qM H i=some (.cells u x toks)) (hp:g.J i=some p)
  (hset:sW t y u x off=some z) (hy:Rd g w t y cy) (hk:E4 g t y v k) (hk2: ∀a b,t= .pair a b->k=none) (hv:t.isRow=false->cy=[v]):
  sG g w H ⟨side,(.any,none),[(i,.cells u z (rD (xX k off) (vT toks off t.cells)))],rds⟩ g (w.setCells p.1 (p.2+off) cy) undef/\w.there p.1 (p.2+off) cy.length:=by
 obtain⟨p',cs,hp',hR,hra,hth,hns,htk⟩:=hH.blk i _ hb;rw[hp] at hp';obtain rfl:=aVe hp';obtain⟨c1,c2,c3,hcs,hl1,hl2,hz⟩:=V2 hy hR hset;subst hcs;subst hl1;have hcl:=sY hR;have hyl:=sY hy;simp only[aVc] at hcl;have hthere:w.there p.1 (p.2+c1.length) cy.length:=fun j hj=>by
  have:=hth.1 (c1.length+j) pJ;rwa [<-aVS] at this
 have hout: ∀b o,(b=p.1->o<p.2+c1.length\/p.2+c1.length+cy.length<=o)->(w.setCells p.1 (p.2+c1.length) cy).cell? ⟨b,o,none⟩=w.cell? ⟨b,o,none⟩:=fun b o h=>World.cell?_setCells_out p.1 cy _ w ⟨b,o,none⟩ (fun e _=>h e);have hin: ∀b o,b=p.1->p.2+c1.length<=o->o<p.2+c1.length+cy.length->sE g i (.cells u x toks) b o:=fun b o e h1 h2=>⟨p,hp,e,pJ,pJ⟩;have hsz:(w.setCells p.1 (p.2+c1.length) cy).heap.size=w.heap.size:=by
  have: ∀(l:pQ) (o:Nat) (w:pU),(w.setCells p.1 o l).heap.size=w.heap.size:=by
   intro l
   induction l with
   |nil=>intro o w;rfl
   |cons v l ih=>intro o w;rw[World.setCells,ih];simp [World.setCell]
  exact this _ _ _
 have hbk: ∀b,b≠p.1->(w.setCells p.1 (p.2+c1.length) cy).heap[b]? =w.heap[b]? :=by
  intro b hb;have: ∀(l:pQ) (o:Nat) (w:pU),(w.setCells p.1 o l).heap[b]? =w.heap[b]? :=by
   intro l
   induction l with
   |nil=>intro o w;rfl
   |cons v l ih=>intro o w;rw[World.setCells,ih];exact Below.heap_setCell _ _ _ _ hb
  exact this _ _ _
 have hos:(w.setCells p.1 (p.2+c1.length) cy).os=w.os/\(w.setCells p.1 (p.2+c1.length) cy).tape=w.tape/\(w.setCells p.1 (p.2+c1.length) cy).output=w.output:=by
  have: ∀(l:pQ) (o:Nat) (w:pU),(w.setCells p.1 o l).os=w.os/\(w.setCells p.1 o l).tape=w.tape/\(w.setCells p.1 o l).output=w.output:=by
   intro l
   induction l with
   |nil=>intro o w;exact⟨rfl,rfl,rfl⟩
   |cons v l ih=>intro o w;rw[World.setCells];exact ih _ _
  exact this _ _ _
 have hiS: ∀b o,g.S b o->¬(b=p.1/\p.2<=o/\o<p.2+u.cells):=fun b o hs ⟨e,h1,h2⟩=>hns (o-p.2) pJ (by rw[show p.2+(o-p.2)=o from by omega,<-e];exact hs);have le:Le g w g (w.setCells p.1 (p.2+c1.length) cy):=⟨fun _ _ h=>h,fun b o h=>hout b o (fun e=>by
  have:=hiS b o h;rcases aWm o (p.2+c1.length) with h1|h1
  .exact .inl h1
  .rcases aWm o (p.2+c1.length+cy.length) with h2|h2
   .exact absurd ⟨e,pJ,pJ⟩ this
   .exact .inr h2),fun _ _ h=>h,fun _ _ _ h=>h⟩
 have hofI: ∀b o,sE g i (.cells u x toks) b o->t8 g H (qO [(i,qH.cells u z (rD (xX k c1.length) (vT toks c1.length t.cells)))]) b o:=fun b o h=>⟨i,_,by simp [qO],hb,h⟩;have fr:Fr (t8 g H (qO [(i,qH.cells u z (rD (xX k c1.length) (vT toks c1.length t.cells)))])) w (w.setCells p.1 (p.2+c1.length) cy) g.S g.S:=by
  refine⟨hos.1,hos.2.1,hos.2.2,aWO hsz.symm,fun b hb' hno=> ?_,fun b o hb' hno=>⟨hout b o (fun e=> ?_),World.frozen?_setCells _ _ _ _ _⟩,fun b o h=> .inl h,fun b s hs=> .inl ((QW _ _ _ _ _).trans hs)⟩
  .by_cases e:b=p.1
   .cases hcy:cy with
    |nil=>rfl
    |cons q l=>exact absurd (hofI b (p.2+c1.length) (hin b _ e (aVp _) (by rw[hcy];simp))) (hno _)
   .exact hbk b e
  .rcases aWm o (p.2+c1.length) with h1|h1
   .exact .inl h1
   .rcases aWm o (p.2+c1.length+cy.length) with h2|h2
    .exact absurd (hofI b o (hin b o e h1 h2)) hno
    .exact .inr h2
 have gho: ∀j,j∉qO [(i,qH.cells u z (rD (xX k c1.length) (vT toks c1.length t.cells)))]->g.J j=g.J j/\g.cur j=g.cur j:=fun _ _=>⟨rfl,rfl⟩;have get: ∀j blk,j∈qO [(i,qH.cells u z (rD (xX k c1.length) (vT toks c1.length t.cells)))]->qM (rD [(i,qH.cells u z (rD (xX k c1.length) (vT toks c1.length t.cells)))] H) j=some blk->j=i/\blk= .cells u z (rD (xX k c1.length) (vT toks c1.length t.cells)):=by
  intro j blk hi hg;simp only[qO,aVm] at hi;subst hi;simp only[rD,qM,aWQ,aU9] at hg;exact⟨rfl,hg.symm⟩
 have perm: ∀j blk b o,j∈qO [(i,qH.cells u z (rD (xX k c1.length) (vT toks c1.length t.cells)))]->qM (rD [(i,qH.cells u z (rD (xX k c1.length) (vT toks c1.length t.cells)))] H) j=some blk->sE g j blk b o->w.heap.size<=b\/t8 g H (qO [(i,qH.cells u z (rD (xX k c1.length) (vT toks c1.length t.cells)))]) b o:=by
  intro j blk b o hi hg ho;obtain⟨rfl,rfl⟩:=get j blk hi hg;exact .inr (hofI b o ho)
 refine⟨⟨le,⟨trivial,trivial⟩,hH.upd le fr perm gho (fun j blk hi hg=> ?_) (fun i j bi bj b o hi hj hij hgi hgj _ _=>hij ((get i bi hi hgi).1.trans (get j bj hj hgj).1.symm)) (fun b o h=>by rw[hsz];exact hH.sl b o h),fr,perm,gho,fun j u' y' us h=>by
  simp only[rD,qM] at h;split at h
  .rename_i e1;subst e1;simp only[aU9,qH.cells.injEq] at h;obtain⟨rfl,_⟩:=h;exact .inl ⟨x,toks,hb⟩
  .exact .inl ⟨y',us,h⟩⟩,hthere⟩
 obtain⟨rfl,rfl⟩:=get j blk hi hg;refine⟨p,_,hp,wT le hz,fun q v hq=> ?_,⟨fun q hq=> ?_,fun h0 s hs=>(QW _ _ _ _ _).trans (hth.2 h0 s hs)⟩,hns,?_⟩
 .by_cases h1:q<c1.length
  .rw[hout _ _ (fun _=> .inl pJ)];refine hra q v ?_;rw[aVi,aVt h1] at hq|-;exact hq
  .by_cases h2:q<c1.length+cy.length
   .have:=aWJ p.1 cy (p.2+c1.length) w (fun j hj=>(hthere j hj).1) (q-c1.length) pJ;rw[show p.2+c1.length+(q-c1.length)=p.2+q from by omega] at this;rw[this];rw[aVi,aVl pJ,aVt pJ] at hq;rw[<-hq,aVj pJ]
   .rw[hout _ _ (fun _=> .inr pJ)];refine hra q v ?_;rw[aVi,aVl pJ,aVl pJ] at hq|-;rw[hl2];rw[hyl] at hq;exact hq
 .have hh:=hth.1 q hq;refine⟨?_,by rw[World.frozen?_setCells];exact hh.2⟩;by_cases h1:q<c1.length\/c1.length+cy.length<=q
  .rw[hout _ _ (fun _=>by omega)];exact hh.1
  .have:=aWJ p.1 cy (p.2+c1.length) w (fun j hj=>(hthere j hj).1) (q-c1.length) pJ;rw[show p.2+c1.length+(q-c1.length)=p.2+q from by omega] at this;rw[this];rfl
 .intro q kk hm;have hsplit:(q,kk)∈xX k c1.length\/(q,kk)∈vT toks c1.length t.cells:=by
   cases k with
   |none=>exact .inr (by simpa[xX,rD] using hm)
   |some k=>
    simp only[xX,rD,aVs] at hm;rcases hm with hm|hm
    .exact .inl (by simp [xX,hm])
    .exact .inr hm
  rcases hsplit with hm|hm
  .cases k with
   |none=>simp [xX] at hm
   |some k=>
    simp only[xX,aVm,aVD] at hm;obtain⟨rfl,rfl⟩:=hm;cases t with
    |list t=>
     obtain rfl:=hv rfl;exact⟨t,y,v,aKZ hH rfl hset,by simp,hk⟩
    |pair a b=>cases hk2 a b rfl
    |_=>exact hk.elim
  .obtain⟨h1,h2⟩:=a0H hH hm;obtain⟨v',l,v1,g1,g2,g3⟩:=htk q kk h1;refine⟨v',l,v1,aBc hH hset g1 h2,?_,g3⟩;rcases aWm q c1.length with h3|h3
   .rw[aVi,aVt h3] at g2|-;exact g2
   .have h4:c1.length+t.cells<=q:=by omega
    rw[aVi,aVl pJ,aVl pJ] at g2|-;rw[hyl];rw[hl2] at g2;exact g2
theorem AU.openS {side:List Prop}{rds:pT}{i:Nat}{u u0:Ty}{el:Nat}{kn:pR}{x:u.den}{z: Σ t:Ty,t.den}{off:Nat}{toks:pO}{p:Pl}{cy:pQ}(hb:qM H i=some (.cells u x toks)) (hp:g.J i=some p)
  (hset:yE el u0 kn u x off=some z) (hy:E3 g kn cy) (hyl:cy.length=1) (hre:IT rds=true):
  AU g w H ⟨side,(.any,none),[(i,.cells z.1 z.2 [])],rds⟩ g (w.setCells p.1 (p.2+off) cy) undef/\w.there p.1 (p.2+off) cy.length:=by
 obtain⟨p',cs,hp',hR,hra,hth,hns,htk⟩:=hH.blk i _ hb;rw[hp] at hp';obtain rfl:=aVe hp';obtain⟨c1,c2,c3,hcs,hl1,hl2,hz⟩:=aKp hy hR hset;subst hcs;subst hl1;have hcl:=sY hR;have hcz:=aKo hset;simp only[aVc] at hcl;have hthere:w.there p.1 (p.2+c1.length) cy.length:=fun j hj=>by
  have:=hth.1 (c1.length+j) pJ;rwa [<-aVS] at this
 have hout: ∀b o,(b=p.1->o<p.2+c1.length\/p.2+c1.length+cy.length<=o)->(w.setCells p.1 (p.2+c1.length) cy).cell? ⟨b,o,none⟩=w.cell? ⟨b,o,none⟩:=fun b o h=>World.cell?_setCells_out p.1 cy _ w ⟨b,o,none⟩ (fun e _=>h e);have hin: ∀b o,b=p.1->p.2+c1.length<=o->o<p.2+c1.length+cy.length->sE g i (.cells u x toks) b o:=fun b o e h1 h2=>⟨p,hp,e,pJ,pJ⟩;have hsz:(w.setCells p.1 (p.2+c1.length) cy).heap.size=w.heap.size:=by
  have: ∀(l:pQ) (o:Nat) (w:pU),(w.setCells p.1 o l).heap.size=w.heap.size:=by
   intro l
   induction l with
   |nil=>intro o w;rfl
   |cons v l ih=>intro o w;rw[World.setCells,ih];simp [World.setCell]
  exact this _ _ _
 have hbk: ∀b,b≠p.1->(w.setCells p.1 (p.2+c1.length) cy).heap[b]? =w.heap[b]? :=by
  intro b hb;have: ∀(l:pQ) (o:Nat) (w:pU),(w.setCells p.1 o l).heap[b]? =w.heap[b]? :=by
   intro l
   induction l with
   |nil=>intro o w;rfl
   |cons v l ih=>intro o w;rw[World.setCells,ih];exact Below.heap_setCell _ _ _ _ hb
  exact this _ _ _
 have hos:(w.setCells p.1 (p.2+c1.length) cy).os=w.os/\(w.setCells p.1 (p.2+c1.length) cy).tape=w.tape/\(w.setCells p.1 (p.2+c1.length) cy).output=w.output:=by
  have: ∀(l:pQ) (o:Nat) (w:pU),(w.setCells p.1 o l).os=w.os/\(w.setCells p.1 o l).tape=w.tape/\(w.setCells p.1 o l).output=w.output:=by
   intro l
   induction l with
   |nil=>intro o w;exact⟨rfl,rfl,rfl⟩
   |cons v l ih=>intro o w;rw[World.setCells];exact ih _ _
  exact this _ _ _
 have hiS: ∀b o,g.S b o->¬(b=p.1/\p.2<=o/\o<p.2+u.cells):=fun b o hs ⟨e,h1,h2⟩=>hns (o-p.2) pJ (by rw[show p.2+(o-p.2)=o from by omega,<-e];exact hs);have le:Le g w g (w.setCells p.1 (p.2+c1.length) cy):=⟨fun _ _ h=>h,fun b o h=>hout b o (fun e=>by
  have:=hiS b o h;rcases aWm o (p.2+c1.length) with h1|h1
  .exact .inl h1
  .rcases aWm o (p.2+c1.length+cy.length) with h2|h2
   .exact absurd ⟨e,pJ,pJ⟩ this
   .exact .inr h2),fun _ _ h=>h,fun _ _ _ h=>h⟩
 have hofI: ∀b o,sE g i (.cells u x toks) b o->t8 g H (qO [(i,qH.cells z.1 z.2 [])]) b o:=fun b o h=>⟨i,_,by simp [qO],hb,h⟩;have fr:Fr (t8 g H (qO [(i,qH.cells z.1 z.2 [])])) w (w.setCells p.1 (p.2+c1.length) cy) g.S g.S:=by
  refine⟨hos.1,hos.2.1,hos.2.2,aWO hsz.symm,fun b hb' hno=> ?_,fun b o hb' hno=>⟨hout b o (fun e=> ?_),World.frozen?_setCells _ _ _ _ _⟩,fun b o h=> .inl h,fun b s hs=> .inl ((QW _ _ _ _ _).trans hs)⟩
  .by_cases e:b=p.1
   .cases hcy:cy with
    |nil=>rfl
    |cons q l=>exact absurd (hofI b (p.2+c1.length) (hin b _ e (aVp _) (by rw[hcy];simp))) (hno _)
   .exact hbk b e
  .rcases aWm o (p.2+c1.length) with h1|h1
   .exact .inl h1
   .rcases aWm o (p.2+c1.length+cy.length) with h2|h2
    .exact absurd (hofI b o (hin b o e h1 h2)) hno
    .exact .inr h2
 have gho: ∀j,j∉qO [(i,qH.cells z.1 z.2 [])]->g.J j=g.J j/\g.cur j=g.cur j:=fun _ _=>⟨rfl,rfl⟩;have get: ∀j blk,j∈qO [(i,qH.cells z.1 z.2 [])]->qM (rD [(i,qH.cells z.1 z.2 [])] H) j=some blk->j=i/\blk= .cells z.1 z.2 []:=by
  intro j blk hi hg;simp only[qO,aVm] at hi;subst hi;simp only[rD,qM,aWQ,aU9] at hg;exact⟨rfl,hg.symm⟩
 have perm: ∀j blk b o,j∈qO [(i,qH.cells z.1 z.2 [])]->qM (rD [(i,qH.cells z.1 z.2 [])] H) j=some blk->sE g j blk b o->w.heap.size<=b\/t8 g H (qO [(i,qH.cells z.1 z.2 [])]) b o:=by
  intro j blk b o hi hg ho;obtain⟨rfl,rfl⟩:=get j blk hi hg;obtain⟨q,hq,e1,e2,e3⟩:=ho;rw[hcz] at e3;exact .inr (hofI b o ⟨q,hq,e1,e2,e3⟩)
 refine⟨⟨le,⟨trivial,trivial⟩,hH.upd le fr perm gho (fun j blk hi hg=> ?_) (fun i j bi bj b o hi hj hij hgi hgj _ _=>hij ((get i bi hi hgi).1.trans (get j bj hj hgj).1.symm)) (fun b o h=>by rw[hsz];exact hH.sl b o h),fr,perm,gho,fun h=>by rw[hre] at h;cases h⟩,hthere⟩;obtain⟨rfl,rfl⟩:=get j blk hi hg;refine⟨p,_,hp,wT le hz,fun q v hq=> ?_,⟨fun q hq=> ?_,fun h0 s hs=>(QW _ _ _ _ _).trans (hth.2 (by rw[<-hcz];exact h0) s hs)⟩,fun q hq=>hns q (by rw[<-hcz];exact hq),fun _ _ hm=>by cases hm⟩
 .by_cases h1:q<c1.length
  .rw[hout _ _ (fun _=> .inl pJ)];refine hra q v ?_;rw[aVi,aVt h1] at hq|-;exact hq
  .by_cases h2:q<c1.length+cy.length
   .have:=aWJ p.1 cy (p.2+c1.length) w (fun j hj=>(hthere j hj).1) (q-c1.length) pJ;rw[show p.2+c1.length+(q-c1.length)=p.2+q from by omega] at this;rw[this];rw[aVi,aVl pJ,aVt pJ] at hq;rw[<-hq,aVj pJ]
   .rw[hout _ _ (fun _=> .inr pJ)];refine hra q v ?_;rw[aVi,aVl pJ,aVl pJ] at hq|-;rw[hl2];rw[hyl] at hq;exact hq
 .have hh:=hth.1 q (by rw[<-hcz];exact hq);refine⟨?_,by rw[World.frozen?_setCells];exact hh.2⟩;by_cases h1:q<c1.length\/c1.length+cy.length<=q
  .rw[hout _ _ (fun _=>by omega)];exact hh.1
  .have:=aWJ p.1 cy (p.2+c1.length) w (fun j hj=>(hthere j hj).1) (q-c1.length) pJ;rw[show p.2+c1.length+(q-c1.length)=p.2+q from by omega] at this;rw[this];rfl
end
def AV (g:Gh) (base:Nat) (e:qT):Prop:= ∀i,i∈qO e.upd->base<=i->g.J i=none/\∀n,g.cur i n=none
section
variable {P:Program}{o:Oper}{a:Act}{g:Gh}{w:pU}{H:sD}{T:sX}(hT:xQ P T) (hH:sK g w H)
include hT hH
theorem aBd {x:Operand}(ho:o.op= .move x\/o.op= .assign x) {sx:qI}(hx:s3 g w sx (a.eval x)) {base:Nat}{e:qT}(hr:ZB base (s8 T o.type) sx=some e) (hf:AV g base e):rR P o a g w H e:=by
 have hrun:(execOp a.eval o).run P w= .ok (.value (a.eval x)) w:=by rcases ho with ho|ho<;>simp [execOp,ho]
 generalize hst:s8 T o.type=ot at hr;unfold ZB at hr;split at hr
 .cases hr;have hv:a.eval x= .slice none 0 0:=hx.1;have hfr:=(hf base (by simp [qO]) (aVp _)).2;refine rR.value (v:= .slice none 0 0) (by rw[hrun,hv]) (sG.row (v:= .slice none 0 0) (xs:=[]) hH rfl (World.ownsRow_nil w 0 _ _) rfl (fun m _=>hfr m) (fun u hu=>by rw[hfr] at hu;cases hu) (.inl ⟨rfl,rfl,rfl,aVp _,fun _ _ _=>rfl⟩) (fun _ _ _=>rfl) (fun b hb=>by cases hb) (fun b hb=>by cases hb) ⟨⟨by simp [Gh.tok],.inl ⟨rfl,rfl⟩⟩,trivial⟩)
 .cases hr;have hv:a.eval x= .slice none 0 0:=hx.1;refine rR.value (v:= .slice none 0 0) (by rw[hrun,hv]) (sG.nilTok hH rfl (hf base (by simp [qO]) (aVp _)).2)
 .cases hr
 .cases hr;exact rR.value hrun (.pure hH hx)
theorem aK0 {u:Ty}{y:List u.den}{k:pS}{v:pV}{cs:pQ}(h:E4 g (.list u) y v k) (hc:cs=[v]):HH g (.list u) y cs (xX k 0):=by
 intro q kk hm;cases k with
 |none=>simp [xX] at hm
 |some k=>
  simp only[xX,aVm,aVD] at hm;obtain⟨rfl,rfl⟩:=hm;exact⟨u,y,v,by unfold rN;simp [uV],by rw[hc];rfl,h⟩
omit hT hH in
theorem NL {α:Type}: ∀(l m n:List α),rD (rD l m) n=rD l (rD m n)
 |[],_,_=>rfl
 |x::l,m,n=>by simp only[rD,NL l m n]
omit hT hH in
theorem F5 {i:Nat}: ∀{l m:List (Nat×qH)},i∈qO (rD l m)↔i∈qO l\/i∈qO m
 |[],m=>by simp [rD,qO]
 |(k,b)::l,m=>by simp only[rD,qO,aVs,F5 (l:=l),or_assoc]
omit hT hH in
theorem sG.trans {H:sD}{e1 e2:qT}{g1 g2:Gh}{w1 w2:pU}{v1 v2:pV}{side:List Prop}{rds:pT}(h:sG g w H e1 g1 w1 v1) (k:sG g1 w1 (rD e1.upd H) e2 g2 w2 v2):sG g w H ⟨side,e2.slot,rD e2.upd e1.upd,rds⟩ g2 w2 v2:=by
 have hB: ∀b o,t8 g1 (rD e1.upd H) (qO e2.upd) b o->w.heap.size<=b\/t8 g H (qO (rD e2.upd e1.upd)) b o:=by
  rintro b o ⟨i,blk,hi,hg,ho⟩;by_cases h1:i∈qO e1.upd
  .refine(h.perm i blk b o h1 hg ho).imp id fun⟨j,bj,hj,q⟩=>⟨j,bj,F5.2 (.inr hj),q⟩
  .exact .inr ⟨i,blk,F5.2 (.inl hi),(D9 h1).symm.trans hg,(zJ (h.gho i h1).1 (h.gho i h1).2).1 ho⟩
 have mono: ∀b o,t8 g H (qO e1.upd) b o->t8 g H (qO (rD e2.upd e1.upd)) b o:=fun b o ⟨j,bj,hj,q⟩=>⟨j,bj,F5.2 (.inr hj),q⟩;refine⟨h.le.trans k.le,k.slot,by simp only[NL];exact k.heap,?_,fun i blk b o hi hg ho=> ?_,fun i hi=> ?_,fun i u y us hg=> ?_⟩
 .have h1:Fr (t8 g H (qO (rD e2.upd e1.upd))) w w1 g.S g1.S:=⟨h.fr.os,h.fr.tape,h.fr.output,h.fr.size,fun b hb hn=>h.fr.blk b hb (fun o ho=>hn o (mono b o ho)),fun b o hb hn=>h.fr.cell b o hb (fun ho=>hn (mono b o ho)),fun b o hs=>(h.fr.new b o hs).imp id (Or.imp id (mono b o)),fun b s hs=>(h.fr.shape b s hs).imp id fun h o=>mono b o (h o)⟩;exact h1.trans k.fr hB
 .simp only[NL] at hg;by_cases h2:i∈qO e2.upd
  .rcases k.perm i blk b o h2 hg ho with h3|h3
   .exact .inl (aV7 h.fr.size h3)
   .exact hB b o h3
  .have hi1:i∈qO e1.upd:=(F5.1 hi).resolve_left h2;rw[D9 h2] at hg;exact(h.perm i blk b o hi1 hg ((zJ (k.gho i h2).1 (k.gho i h2).2).1 ho)).imp id (mono b o)
 .have h2:i∉qO e2.upd:=fun q=>hi (F5.2 (.inl q));have h1:i∉qO e1.upd:=fun q=>hi (F5.2 (.inr q));exact⟨(k.gho i h2).1.trans (h.gho i h1).1,(k.gho i h2).2.trans (h.gho i h1).2⟩
 .simp only[NL] at hg;rcases k.ty i u y us hg with⟨x,ts,h3⟩ |⟨h3,h4⟩
  .exact h.ty i u x ts h3
  .right;refine⟨?_,fun n=> ?_⟩
   .cases hj:g.J i with
    |none=>rfl
    |some p=>rw[h.le.J i p hj] at h3;cases h3
   .cases hj:g.cur i n with
    |none=>rfl
    |some p=>rw[<-h4 n,h.le.cur i n p hj]
omit hT hH in
theorem sG.congrH {H H':sD}{e:qT}{g':Gh}{w':pU}{v:pV}(h:sG g w H e g' w' v) (hH:H=H'):sG g w H' e g' w' v:=hH▸h
omit hT hH in
theorem a0I {w:pU}: ∀(ls:List (Nat×TypeId×Nat)) (i:Nat) (g:Gh) (H:sD),sK g w H->(∀j,i<=j->j<i+ls.length->∀n,g.cur j n=none)->
  ∃g1,sG g w H ⟨[],(.any,none),EW ls i,[]⟩ g1 w undef/\g1.J=g.J/\(∀o k,(o,k)∈D5 ls i->g1.cur k 0=some (.slice none 0 0))/\(∀k,k<i->g1.cur k=g.cur k)
 |[],i,g,H,hH,_=>⟨g,.pure hH ⟨trivial,trivial⟩,rfl,fun _ _ h=>by simp [D5] at h,fun _ _=>rfl⟩
 |(o,e,c)::r,i,g,H,hH,hf=>by
  have e1:=sG.nilTok (side:=[]) (d:= .val (.list .bool) []) (rds:=[]) (base:=i) (e:=e) (c:=c) (u:= .bool) hH rfl (hf i (aVp _) pL);have hc1: ∀k n,k≠i->(g.tok i 0 (.slice none 0 0)).cur k n=g.cur k n:=fun k n hk=>by
   show (if k=i/\n=0 then _ else _)=_;rw[aVa (fun h=>hk h.1)]
  obtain⟨g1,k1,k2,k3,k4⟩:=a0I r (i+1) (g.tok i 0 (.slice none 0 0)) (rD [(i,qH.grow e c 0)] H) e1.heap (fun j h1 h2 n=>by rw[hc1 j n pJ];exact hf j pJ (by simp only[aVd];omega) n);refine⟨g1,e1.trans k1,k2.trans rfl,fun o' k hm=> ?_,fun k hk=> ?_⟩
  .simp only[D5,aVs,aVD] at hm;rcases hm with⟨rfl,rfl⟩ |hm
   .rw[k4 _ pJ];show (if k=k/\0=0 then _ else _)=_;simp
   .exact k3 o' k hm
  .rw[k4 k pJ];funext n;exact hc1 k n pJ
omit hT hH in
theorem a0J: ∀{ls:List (Nat×TypeId×Nat)}{i o k:Nat},(o,k)∈D5 ls i->∃q∈ls,q.1=o
 |[],_,_,_,h=>by simp [D5] at h
 |(o',e,c)::r,i,o,k,h=>by
  simp only[D5,aVs,aVD] at h;rcases h with⟨h1,_⟩ |h
  .exact⟨(o',e,c),by simp,h1.symm⟩
  .obtain⟨q,h1,h2⟩:=a0J h;exact⟨q,by simp [h1],h2⟩
omit hT hH in
theorem a0K {t:Ty}: ∀{ls:List (Nat×TypeId×Nat)},G1 t ls=true->∀q∈ls,G0 t q.1=true
 |[],_,_,h=>by cases h
 |(o,e,c)::r,h,q,hq=>by
  simp only[G1,aVg] at h;rcases aVs.1 hq with rfl|hq
  .exact h.1
  .exact a0K h.2 q hq
omit hT hH in
theorem QX: ∀(ls:List (Nat×TypeId×Nat)) (i j:Nat),j∈qO (EW ls i)↔i<=j/\j<i+ls.length
 |[],i,j=>by simp only[EW,qO,aW9,aVv,false_iff];omega
 |(o,e,c)::r,i,j=>by
  simp only[EW,F5,QX r (i+1) j,qO,aVm,aVd];omega
omit hT hH in
theorem aBe {w:pU}: ∀(R:List (Nat×Nat×Ty)) (i:Nat) (g:Gh) (H:sD),sK g w H->(∀j,i<=j->j<i+R.length->∀n,g.cur j n=none)->
  ∃g1,sG g w H ⟨[],(.any,none),KZ R i,[]⟩ g1 w undef/\g1.J=g.J/\(∀j,j<R.length->g1.cur (i+j) 0=some (.slice none 0 0))/\(∀k,k<i->g1.cur k=g.cur k)
 |[],i,g,H,hH,_=>⟨g,.pure hH ⟨trivial,trivial⟩,rfl,fun _ h=>by simp at h,fun _ _=>rfl⟩
 |(o,e,u)::r,i,g,H,hH,hf=>by
  have hfr:=hf i (aVp _) pL;have e1:=sG.row (side:=[]) (rds:=[]) (k:=i) (e:=e) (t:=u) (l:=[]) (n:=0) (s:=(.any,none)) (val:=undef) (v:= .slice none 0 0) (xs:=[]) hH rfl (World.ownsRow_nil w 0 _ _) rfl (fun m _=>hfr m) (fun u hu=>by rw[hfr] at hu;cases hu) (.inl ⟨rfl,rfl,rfl,aVp _,fun _ _ _=>rfl⟩) (fun _ _ _=>rfl) (fun b hb=>by cases hb) (fun b hb=>by cases hb) ⟨trivial,trivial⟩;have hc1: ∀k n,k≠i->(g.tok i 0 (.slice none 0 0)).cur k n=g.cur k n:=fun k n hk=>by
   show (if k=i/\n=0 then _ else _)=_;rw[aVa (fun h=>hk h.1)]
  obtain⟨g1,k1,k2,k3,k4⟩:=aBe r (i+1) (g.tok i 0 (.slice none 0 0)) (rD [(i,qH.row e u [] 0)] H) e1.heap (fun j h1 h2 n=>by rw[hc1 j n pJ];exact hf j pJ (by simp only[aVd];omega) n);refine⟨g1,e1.trans k1,k2.trans rfl,fun j hj=> ?_,fun k hk=> ?_⟩
  .cases j with
   |zero=>
    rw[aWs,k4 _ pJ];show (if i=i/\0=0 then _ else _)=_;simp
   |succ j=>
    have:=k3 j (by simpa using hj);rwa [show i+1+j=i+(j+1) by omega] at this
  .rw[k4 k pJ];funext n;exact hc1 k n pJ
omit hT hH in
theorem aBf: ∀(R:List (Nat×Nat×Ty)) (i j:Nat),j∈qO (KZ R i)↔i<=j/\j<i+R.length
 |[],i,j=>by simp only[KZ,qO,aW9,aVv,false_iff];omega
 |(o,e,c)::r,i,j=>by
  simp only[KZ,F5,aBf r (i+1) j,qO,aVm,aVd];omega
omit hT hH in
theorem a0L {α:Type}: ∀l:List α,Q8 l=l.length
 |[]=>rfl
 |_::l=>by simp only[Q8,a0L l,aVd]
omit hT hH in
theorem QY {α:Type}{x:α}: ∀{l m:List α},x∈rD l m↔x∈l\/x∈m
 |[],m=>by simp [rD]
 |y::l,m=>by simp only[rD,aVs,QY (l:=l),or_assoc]
omit hT hH in
theorem aK1 {g:Gh}{w:pU}: ∀{t:Ty}{x:t.den}{cs:pQ}{o:Nat},Rd g w t x cs->∀q∈G2 t x o,o<=q.1/\cs[q.1-o]? =some (.slice none 0 0):=by
 intro t
 induction t with
 |pair a b iha ihb=>
  intro x cs o r q hq;obtain⟨c1,c2,rfl,r1,r2⟩:=r;simp only[G2,QY] at hq;have hl:=sY r1;rcases hq with hq|hq
  .obtain⟨h1,h2⟩:=iha r1 q hq;exact⟨h1,by rw[aVt (aVq.1 h2).1];exact h2⟩
  .obtain⟨h1,h2⟩:=ihb r2 q hq;refine⟨pJ,?_⟩;rw[aVl pJ,hl,show q.1-o-a.cells=q.1- (o+a.cells) by omega];exact h2
 |rl e u=>
  intro x cs o r q hq;cases x with
  |none=>
   simp only[G2,ZD,aVm] at hq;subst hq;refine⟨aVp _,?_⟩;rw[show cs=[.slice none 0 0] from r];simp
  |some z=>simp [G2,ZD] at hq
 |_=>intro x cs o r q hq;simp [G2] at hq
omit hT hH in
theorem aK2 {g:Gh}{w:pU}: ∀{t:Ty}{x:t.den}{cs:pQ}{o:Nat},Rd g w t x cs->∀q∈HC t x o,o<=q/\cs[q-o]? =some (.pointer none):=by
 intro t
 induction t with
 |pair a b iha ihb=>
  intro x cs o r q hq;obtain⟨c1,c2,rfl,r1,r2⟩:=r;simp only[HC,QY] at hq;have hl:=sY r1;rcases hq with hq|hq
  .obtain⟨h1,h2⟩:=iha r1 q hq;exact⟨h1,by rw[aVt (aVq.1 h2).1];exact h2⟩
  .obtain⟨h1,h2⟩:=ihb r2 q hq;refine⟨pJ,?_⟩;rw[aVl pJ,hl,show q-o-a.cells=q- (o+a.cells) by omega];exact h2
 |mref=>
  intro x cs o r q hq;cases x with
  |none=>
   simp only[HC,ZE,aVm] at hq;subst hq;refine⟨aVp _,?_⟩;rw[show cs=[.pointer none] from r];simp
  |some z=>simp [HC,ZE] at hq
 |_=>intro x cs o r q hq;simp [HC] at hq
omit hT hH in
theorem aBg {g:Gh}{w:pU}{t u:Ty}{x z:t.den}{y:u.den}{cs:pQ}{o:Nat}{v:pV}(h:sW u y t x o=some z) (hy:Rd g w u y [v]) (hR:Rd g w t x cs) (hv:cs[o]? =some v):Rd g w t z cs:=by
 obtain⟨c1,c2,c3,rfl,rfl,h2,h3⟩:=V2 hy hR h;have hu:=sY hy;simp only[aVT] at hu;rw[<-hu] at h2;obtain⟨v',rfl⟩:=aWA.1 h2;have:(c1++[v']++c3)[c1.length]? =some v':=by simp
 rw[this] at hv;obtain rfl:=aVe hv;exact h3
omit hT hH in
theorem aBh {g:Gh}{w:pU}{t:Ty}{cs:pQ}: ∀{R:List (Nat×Nat×Ty)}{i:Nat}{x z:t.den},KY t i R (some x)=some z->Rd g w t x cs->(∀q∈R,cs[q.1]? =some (.slice none 0 0))->(∀j,j<R.length->g.cur (i+j) 0=some (.slice none 0 0))->Rd g w t z cs
 |[],i,x,z,h,hR,_,_=>by simp only[KY,aU9] at h;exact h▸hR
 |(o,e,u)::r,i,x,z,h,hR,hc,hg=>by
  simp only[KY] at h;cases hs:sW (.rl e u) (some (i,0)) t x o with
  |none=>rw[hs] at h;cases r<;>simp [KY] at h
  |some x'=>
   rw[hs] at h;refine aBh h (aBg (v:= .slice none 0 0) hs ⟨_,by simpa using hg 0 pL,rfl,.inl ⟨rfl,rfl⟩⟩ hR (hc _ aVw)) (fun q hq=>hc q (aVr _ hq)) (fun j hj=> ?_);have:=hg (j+1) (by simpa using hj);rwa [show i+(j+1)=i+1+j by omega] at this
omit hT hH in
theorem aBi {g:Gh}{w:pU}{t:Ty}{cs:pQ}{i:Nat}{p:Pl}(hp:g.J i=some p) (hp2:p.2=0): ∀{M:pT}{x z:t.den},IX t i M (some x)=some z->Rd g w t x cs->(∀q∈M,cs[q]? =some (.pointer none)/\a0m p.3 q)->Rd g w t z cs
 |[],x,z,h,hR,_=>by simp only[IX,aU9] at h;exact h▸hR
 |q::r,x,z,h,hR,hc=>by
  simp only[IX] at h;cases hs:sW .mref (some (i,q)) t x q with
  |none=>rw[hs] at h;cases r<;>simp [IX] at h
  |some x'=>
   rw[hs] at h;exact aBi hp hp2 h (aBg (v:= .pointer none) hs ⟨p,hp,by rw[hp2,aVF];exact(hc _ aVw).2,.inl rfl⟩ hR (hc _ aVw).1) (fun q hq=>hc q (aVr _ hq))
omit hT in
theorem aBj {t:Ty}{y:t.den}{ls:List (Nat×TypeId×Nat)}{base:Nat}{e:qT}{cs:pQ}{el:TypeId}(hr:U1 base el t y ls (G1 t ls)=some e) (hf:AV g base e) (hR:Rd g w t y cs) (hn:ls≠[]->y6 t cs):
  ∃g',sG g w H e g' (w.alloc (.cells cs.toArray el)) (.pointer (some ⟨w.heap.size,0,none⟩)):=by
 cases hl:G1 t ls with
 |false=>rw[hl] at hr;cases hr
 |true=>
  rw[hl] at hr;simp only[U1,a0L] at hr;have cR:=fun q hq=>aK1 (o:=0) hR q hq;have cM: ∀q∈U0 el t y,cs[q]? =some (.pointer none)/\a0m (some (el,cs.length)) q:=by
   intro q hq;unfold U0 at hq;split at hq
   .rename_i hb;have h0:=fun q hq=>aK2 (o:=0) hR q hq;have hl:=sY hR;generalize HC t y 0=M at hq h0;rw[<-hl] at hq;unfold aAo at hq;split at hq
    .rename_i h2;simp only[aVm] at hq;subst hq;exact⟨by simpa using(h0 0 pL).2,rfl,el,hb,by rw[h2]⟩
    .cases hq
   .cases hq
  generalize G2 t y 0=R at hr cR;generalize U0 el t y=M at hr cM;cases hz1:KY t (base+1+ls.length) R (some y) with
  |none=>
   rw[hz1] at hr;have:IX t base M none=none:=by cases M<;>rfl
   rw[this] at hr;cases hr
  |some z1=>
   rw[hz1] at hr;cases hz2:IX t base M (some z1) with
   |none=>rw[hz2] at hr;cases hr
   |some z=>
    rw[hz2] at hr;simp only[aAp,a0L] at hr;obtain rfl:=(aVe hr);have hfr: ∀j,base+1<=j->j<base+1+ls.length+R.length->g.J j=none/\∀n,g.cur j n=none:=fun j h1 h2=>hf j (by
     simp only[qO,aVs];right;rw[F5];by_cases h3:j<base+1+ls.length
     .exact .inr ((QX ls (base+1) j).2 ⟨h1,h3⟩)
     .exact .inl ((aBf R (base+1+ls.length) j).2 ⟨pJ,h2⟩)) pJ
    have hf0:=hf base (by simp [qO]) (aVp _);obtain⟨g1,k1,k2,k3,k4⟩:=a0I ls (base+1) g H hH (fun j h1 h2=>(hfr j h1 pJ).2);have hfr1: ∀j,base+1+ls.length<=j->j<base+1+ls.length+R.length->∀n,g1.cur j n=none:=by
     intro j h1 h2 n;have:=(k1.gho j (by simp only;rw[QX];omega)).2;rw[this];exact(hfr j pJ h2).2 n
    obtain⟨g2,m1,m2,m3,m4⟩:=aBe R (base+1+ls.length) g1 _ k1.heap hfr1;have hJ:(g2.var base w.heap.size (some (el,cs.length))).J base=some ⟨w.heap.size,0,some (el,cs.length)⟩:=by simp [Gh.var]
    have hle:Le g w (g2.var base w.heap.size (some (el,cs.length))) w:=by
     refine((k1.le.trans m1.le).trans ⟨fun _ _ h=>h,fun _ _ _=>rfl,fun i p h=> ?_,fun _ _ _ h=>h⟩);show (if i=base then _ else _)=_;rw[aVa (fun e1=>by rw[e1,m2,k2,hf0.1] at h;cases h)];exact h
    have hRz:Rd (g2.var base w.heap.size (some (el,cs.length))) w t z cs:=aBi hJ rfl hz2 (aBh hz1 (wT hle hR) (fun q hq=>by simpa using(cR q hq).2) (fun j hj=>m3 j hj)) cM;have htk:HH g2 t z cs (D5 ls (base+1)):=by
     intro o k hm;obtain⟨q,hq,rfl⟩:=a0J hm;obtain⟨u,h1,h2⟩:=aA1 (hn (fun e=>by rw[e] at hq;cases hq)) hRz (a0K hl q hq);exact⟨u,[],_,h1,h2,m1.le.cur _ _ _ (k3 _ _ hm)⟩
    have e3:=sG.newVarJ (side:=[]) (rds:=[]) (base:=base) (toks:=D5 ls (base+1)) (e:=el) m1.heap hRz htk (by rw[m2,k2];exact hf0.1) (by rw[m4 base pJ,k4 base pJ];exact funext hf0.2);have e4:=sG.trans (side:=[]) (rds:=[]) k1 m1;exact⟨_,sG.trans (side:=[]) (rds:=[]) e4 (e3.congrH (H':=rD (rD (KZ R (base+1+ls.length)) (EW ls (base+1))) H) (by simp only[NL]))⟩
theorem a0M {t:Ty}{y:t.den}{k:pS}{v:pV}(h:s3 g w (.val t y,k) v):tJ g w t y v/\E4 g t y v k:=by
 refine⟨h.1,?_⟩;cases k with
 |none=>trivial
 |some k=>exact h.2
theorem aK3 {t:TypeId}{x:Operand}(ho:o.op= .box t x) {sx:qI}(hx:s3 g w sx (a.eval x)) {base:Nat}{e:qT}(hr:ZG base t (s8 T t) sx=some e) (hf:AV g base e):rR P o a g w H e:=by
 generalize hst:s8 T t=ot at hr;have hrun:(execOp a.eval o).run P w= .ok (.value (.pointer (some ⟨w.heap.size,0,none⟩))) (w.alloc (.cells (a.eval x).cells.toList.toArray t)):=by
  unfold execOp;rw[ho];simp only[Instr.box,Go.newVar,newRow,aVn,run_newObj,aVk,aVC,aWI];rfl
 have one: ∀{u:Ty}{y:u.den},tJ g w u y (a.eval x)->u.isRow=false->(a.eval x).cells.toList=[a.eval x]:=fun hv hrow=>by
  have h1:=BP (CD hrow hv) _ (aVm.2 rfl);cases h:a.eval x<;>first|rfl|(rw[h] at h1;simp [Value.oneCell'] at h1)
 unfold ZG at hr;split at hr
 .rename_i ti u y k;split at hr
  .obtain⟨hv,hk⟩:=a0M hT hH hx;have hR:=G6 hv;unfold aAq at hr;split at hr
   .rename_i a' b' y' k' _;have hn:y6 (.pair a' b') (a.eval x).cells.toList:=hk;obtain⟨g',h⟩:=aBj (el:=t) hH hr hf hR (fun _=>hn);exact rR.value hrun h
   .rename_i u' y' k';cases hr;have hfr:=hf base (by simp [qO]) (aVp _);exact rR.value hrun (sG.newVar hH hR (aK0 hT hH hk (one hv rfl)) hfr.1 (funext hfr.2))
   .cases hr;have hfr:=hf base (by simp [qO]) (aVp _);exact rR.value hrun (sG.newVar hH hR (fun q k hm=>by cases hm) hfr.1 (funext hfr.2))
  .cases hr
 .cases hr
theorem aK4 {t:TypeId}(ho:o.op= .alloc t) {base:Nat}{e:qT}(hr:ZF base t (s8 T t)=some e) (hf:AV g base e):rR P o a g w H e:=by
 generalize hst:s8 T t=ot at hr;have run: ∀ti,s8 T t=some ti->(execOp a.eval o).run P w= .ok (.value (.pointer (some ⟨w.heap.size,0,none⟩))) (w.alloc (.cells (uB ti.ty).toArray t)):=by
  intro ti hti;obtain⟨i,hi,hsz,hz⟩:=G7 (tK hT hti);have hc:(xP ti.ty).cells=(uB ti.ty).toArray:=by
   have:=G6 (QQ g w ti.ty);unfold xP;cases h:ti.ty<;>simp [Ty.isRow,uB,Value.cells]
  unfold execOp;rw[ho];simp only[Instr.alloc,zeroValue,typeInfo,Go.newVar,newRow,aVn,aWg,hi,hz,hc,run_newObj,aVk,aVC];rfl
 unfold ZF at hr;split at hr
 .rename_i u el by' ar ls_;cases hr;have hf0:=hf base (by simp [qO]) (aVp _);have hf1:=hf (base+1) (by simp [qO]) pJ;have hty:=tK hT hst;have e1:=sG.nilTok (side:=[]) (d:= .val (.list u) []) (rds:=[]) (base:=base+1) (e:=el) (c:=u.cells) (u:=u) hH rfl hf1.2;have hH1:=e1.heap;have htk:HH (g.tok (base+1) 0 (.slice none 0 0)) (.list u) [] [.slice none 0 0] [(0,base+1)]:=by
   intro q kk hm;simp only[aVm,aVD] at hm;obtain⟨rfl,rfl⟩:=hm;exact⟨u,[],.slice none 0 0,by unfold rN;simp [uV],rfl,by simp [Gh.tok]⟩
  have e2:=sG.newVar (side:=[]) (rds:=[]) (base:=base) (toks:=[(0,base+1)]) (e:=t) hH1 (F3 (g.tok (base+1) 0 (.slice none 0 0)) w (.list u)) htk hf0.1 (by
   funext n;show (if base=base+1/\n=0 then _ else _)=_;rw[aVa pJ];exact hf0.2 n)
  exact rR.value (run _ hst) (sG.trans (side:=[]) (rds:=[]) e1 e2)
 .rename_i ti hno;obtain⟨g',h⟩:=aBj (el:=t) hH hr hf (F3 g w ti.ty) (fun _=>V7 _);exact rR.value (run _ hst) h
 .cases hr
omit hT hH in
theorem aK5 {t:Ty}{y:t.den}{k:pS}{v:pV}(h:E4 g t y v k):E4 g t y v (H8 t k):=by
 cases t with
 |list u=>exact h
 |_=>trivial
omit hT hH in
theorem aBk {off:Nat}: ∀{l:pO}{o k:Nat},(o,k)∈N4 off l->∃q,o=off+q/\(q,k)∈l
 |[],_,_,h=>by cases h
 |(q,k')::r,o,k,h=>by
  simp only[N4,aVs,aVD] at h;rcases h with⟨rfl,rfl⟩ |h
  .exact⟨q,rfl,aVw⟩
  .obtain⟨q',h1,h2⟩:=aBk h;exact⟨q',h1,aVr _ h2⟩
omit hT hH in
theorem aBl {v t:Ty}{y:t.den}: ∀{u:Ty}{x z:u.den}{o q:Nat}{l:(Ty.list v).den},sW t y u x o=some z->rN (.list v) t y q=some l->q<t.cells->rN (.list v) u z (o+q)=some l:=by
 intro u
 induction u with
 |pair a b iha ihb=>
  intro x z o q l h g hq;by_cases hu:o=0/\t= .pair a b
  .obtain⟨rfl,rfl⟩:=hu;unfold sW at h;rw[aXm rfl] at h;simp only[uV,aU9] at h;subst h;simpa using g
  .have keyh:(if o<a.cells then(sW t y a x.1 o).map (fun q=>(q,x.2)) else(sW t y b x.2 (o-a.cells)).map (fun q=>(x.1,q)))=some z:=by
    cases o with
    |zero=>
     unfold sW at h;rw[aWW (fun e=>hu ⟨rfl,e⟩)] at h;simpa using h
    |succ o=>simpa[sW] using h
   have keyg: ∀m,rN (.list v) (.pair a b) z m=(if m<a.cells then rN (.list v) a z.1 m else rN (.list v) b z.2 (m-a.cells)):=by
    intro m;cases m with
    |zero=>
     conv=>lhs;unfold rN
     rw[aWW (by intro e;cases e),Nat.zero_sub]
    |succ m=>simp [rN]
   rw[keyg];by_cases ho:o<a.cells
   .rw[aU8 ho] at keyh;obtain⟨z',hz',rfl⟩:=aVo.1 keyh;have hfit:o+t.cells<=a.cells:=by
     have: ∀{u:Ty}{x z:u.den}{o:Nat},sW t y u x o=some z->o+t.cells<=u.cells:=by
      intro u
      induction u with
      |pair a b iha ihb=>
       intro x z o h;have key: ∀o,(if o<a.cells then(sW t y a x.1 o).map (fun q=>(q,x.2)) else(sW t y b x.2 (o-a.cells)).map (fun q=>(x.1,q)))=some z->o+t.cells<=a.cells+b.cells:=by
        intro o h;by_cases ho:o<a.cells
        .rw[aU8 ho] at h;obtain⟨z',hz',_⟩:=aVo.1 h;have:=iha hz';omega
        .rw[aVa ho] at h;obtain⟨z',hz',_⟩:=aVo.1 h;have:=ihb hz';omega
       cases o with
       |zero=>
        unfold sW at h;split at h
        .rename_i e;subst e;simp
        .exact key 0 (by simpa using h)
       |succ o=>exact key (o+1) (by simpa[sW] using h)
      |_=>
       intro x z o h;cases o with
       |zero=>
        unfold sW at h;split at h
        .rename_i e;subst e;simp
        .simp at h
       |succ o=>simp [sW] at h
     exact this hz'
    rw[aU8 pJ];exact iha hz' g hq
   .rw[aVa ho] at keyh;obtain⟨z',hz',rfl⟩:=aVo.1 keyh;rw[aVa pJ,show o+q-a.cells=o-a.cells+q from by omega];exact ihb hz' g hq
 |_=>
  intro x z o q l h g hq;cases o with
  |zero=>
   unfold sW at h;split at h
   .rename_i e;subst e;simp only[uV,aU9] at h
    try subst h
    simpa using g
   .simp at h
  |succ o=>simp [sW] at h
omit hT hH in
theorem aBm {v:Ty}: ∀{t:Ty}{x:t.den}{q:Nat}{l:(Ty.list v).den},rN (.list v) t x q=some l->q<t.cells:=by
 intro t
 induction t with
 |pair s t ihs iht=>
  intro x q l g;have key: ∀q,(if q<s.cells then rN (.list v) s x.1 q else rN (.list v) t x.2 (q-s.cells))=some l->q<s.cells+t.cells:=by
   intro q g;by_cases h:q<s.cells
   .omega
   .rw[aVa h] at g;have:=iht g;omega
  cases q with
  |zero=>
   unfold rN at g;rw[aWW (by intro e;cases e)] at g;exact key 0 (by simpa using g)
  |succ q=>exact key (q+1) (by simpa[rN] using g)
 |unit=>
  intro x q l g;cases q with
  |zero=>unfold rN at g;rw[aWW (by intro e;cases e)] at g;cases g
  |succ q=>simp [rN] at g
 |_=>
  intro x q l g;cases q with
  |zero=>simp [Ty.cells]
  |succ q=>simp [rN] at g
omit hT in
theorem sG.retok {i:Nat}{u:Ty}{z:u.den}{toks nt:pO}{p:Pl}(hb:qM H i=some (.cells u z toks)) (hp:g.J i=some p)
  (hn: ∀cs,Rd g w u z cs->w.rangeAt p.1 p.2 cs->HH g u z cs nt):sG g w H ⟨[],(.any,none),[(i,.cells u z (rD nt toks))],[]⟩ g w undef:=by
 obtain⟨p',cs,hp',hR,hra,hth,hns,htk⟩:=hH.blk i _ hb;rw[hp] at hp';obtain rfl:=aVe hp';have get: ∀j blk,j∈qO [(i,qH.cells u z (rD nt toks))]->qM (rD [(i,qH.cells u z (rD nt toks))] H) j=some blk->j=i/\blk= .cells u z (rD nt toks):=by
  intro j blk hi hg;simp only[qO,aVm] at hi;subst hi;simp only[rD,qM,aWQ,aU9] at hg;exact⟨rfl,hg.symm⟩
 have perm: ∀j blk b o,j∈qO [(i,qH.cells u z (rD nt toks))]->qM (rD [(i,qH.cells u z (rD nt toks))] H) j=some blk->sE g j blk b o->w.heap.size<=b\/t8 g H (qO [(i,qH.cells u z (rD nt toks))]) b o:=by
  intro j blk b o hi hg ho;obtain⟨rfl,rfl⟩:=get j blk hi hg;exact .inr ⟨j,_,hi,hb,ho⟩
 have le:Le g w g w:=⟨fun _ _ h=>h,fun _ _ _=>rfl,fun _ _ h=>h,fun _ _ _ h=>h⟩;have fr:Fr (t8 g H (qO [(i,qH.cells u z (rD nt toks))])) w w g.S g.S:=⟨rfl,rfl,rfl,aVp _,fun _ _ _=>rfl,fun _ _ _ _=>⟨rfl,rfl⟩,fun _ _ h=> .inl h,fun _ _ h=> .inl h⟩;refine⟨le,⟨trivial,trivial⟩,hH.upd le fr perm (fun _ _=>⟨rfl,rfl⟩) (fun j blk hi hg=> ?_) (fun i j bi bj b o hi hj hij hgi hgj _ _=>hij ((get i bi hi hgi).1.trans (get j bj hj hgj).1.symm)) (fun b o h=>hH.sl b o h),fr,perm,fun _ _=>⟨rfl,rfl⟩,fun j u' y' us h=> ?_⟩
 .obtain⟨rfl,rfl⟩:=get j blk hi hg;refine⟨p,cs,hp,hR,hra,hth,hns,fun q kk hm=> ?_⟩;rcases(QY.1 hm) with hm|hm
  .exact hn cs hR hra q kk hm
  .exact htk q kk hm
 .simp only[rD,qM] at h;split at h
  .rename_i e1;subst e1;simp only[aU9,qH.cells.injEq] at h;obtain⟨rfl,_⟩:=h;exact .inl ⟨z,toks,hb⟩
  .exact .inl ⟨y',us,h⟩
omit hT hH in
theorem aK6 {g:Gh}{t a b:Ty}{y:t.den}{v:pV}{k:pS}(h:k.isSome=true) (ht:t= .pair a b) (hk:E4 g t y v k):y6 t v.cells.toList:=by
 subst ht;cases k with
 |none=>cases h
 |some k=>exact hk
omit hT hH in
theorem aK7 {base i off:Nat}{b:Option qH}{ls:List (Nat×TypeId×Nat)}{t:Ty}{y:t.den}{k:pS}{e:qT}(h:UA base i off b ls t y k=some e):
  (∃(s:Ty) (x:s.den) (toks:pO) (z:s.den),b=some (.cells s x toks)/\sW t y s x off=some z/\k.isSome=true/\(∃a c,t= .pair a c)/\G1 t ls=true/\
   e=⟨[],(.any,none),(i,.cells s z (rD (N4 off (D5 ls base)) (vT toks off t.cells)))::rD (EW ls base) [(i,.cells s z (vT toks off t.cells))],[i]⟩)\/U8 t y k i off b=some e:=by
 unfold UA at h;split at h
 .rename_i q r a c y' k';cases hok:G1 (.pair a c) (q::r) with
  |false=>rw[hok] at h;unfold U9 at h;split at h<;>first|cases h|(rename_i h2;cases h2)
  |true=>
   rw[hok] at h;unfold U9 at h;split at h
   .rename_i s x toks _;cases hset:sW (.pair a c) y' s x off with
    |none=>rw[hset] at h;cases h
    |some z=>
     rw[hset] at h;exact .inl ⟨s,x,toks,z,rfl,hset,rfl,⟨a,c,rfl⟩,rfl,(aVe h).symm⟩
   .cases h
 .exact .inr h
omit hT hH in
theorem aBn {i off k n el:Nat}{u v:Ty}{x:v.den}{y:Option qT}{e:qT}(h:orO i off k n el u v x y=some e):y=some e\/ZS i (yE el u (some (k,n)) v x off)=some e:=by
 cases y with
 |some r=>exact .inl h
 |none=>exact .inr h
theorem aK8 {t:TypeId}{x y:Operand}(ho:o.op= .store t x y) {sx sy:qI}(hx:s3 g w sx (a.eval x)) (hy:s3 g w sy (a.eval y)) {base:Nat}{e:qT}(hr:UC base H (s8 T t) sx sy=some e) (hside: ∀p∈e.side,p) (hf:AV g base e):rR P o a g w H e:=by
 generalize hst:s8 T t=ot at hr;unfold UC at hr;split at hr
 .rename_i ti i off k kk n k2;generalize hb:qM H i=ob at hr;unfold ZT at hr;split at hr
  .rename_i u el _ _ _ v x' toks;rcases aBn hr with hr|hr
   case inr=>
    generalize hset:yE el u (some (kk,n)) v x' off=oz at hr;cases oz with
    |none=>cases hr
    |some z'=>
     cases hr;have hty:=tK hT hst;obtain⟨p,hp,hv⟩:=A0 hx.1;obtain⟨h1,h2⟩:=hy.1;have hR:Rd g w (.rl el u) (some (kk,n)) [a.eval y]:=⟨_,h1,rfl,h2⟩;obtain⟨heff,hth⟩:=AU.openS (side:=[]) (rds:=[1000000000,i]) hH hb hp hset hR rfl rfl;have hce:(a.eval y).cells= #[a.eval y]:=by rcases h2 with⟨h2,_⟩ |⟨_,_,h2,_⟩<;>(rw[h2];rfl)
     refine rR.skipW (w':=w.setCells p.1 (p.2+off) [a.eval y]) ?_ heff;obtain⟨inf,hi,hsz,_⟩:=G7 hty;have hcells:=run_storeCells_cells (P:=P) p.1 (p.2+off) [a.eval y] 0 w (fun j hj=>by simpa using(hth j hj).1) (fun j hj=>by simpa using(hth j hj).2) (fun v hv=>BP hR v hv);simp only[aWs] at hcells;have hs2:(a.eval y).cells.size=inf.size:=by rw[hsz,hce];rfl
     have hcl:(a.eval y).cells.toList=[a.eval y]:=by rw[hce]
     simp only[execOp,ho,hv,Instr.storeAt,Instr.sureAddr,storeVar,aVn,aVC,aVk,sizeOf,typeInfo,aWg,hi,hs2,ne_eq,not_true_eq_false,aXn,hcl,hcells]
   generalize hset:sW (.rl el u) (some (kk,n)) v x' off=oz at hr;cases oz with
   |none=>cases hr
   |some z'=>
    cases hr;have hty:=tK hT hst;obtain⟨p,hp,hv⟩:=A0 hx.1;obtain⟨h1,h2⟩:=hy.1;have hR:Rd g w (.rl el u) (some (kk,n)) [a.eval y]:=⟨_,h1,rfl,h2⟩;obtain⟨heff,hth⟩:=sG.store (side:=[]) (rds:=[i]) (k:=none) (v:=a.eval y) hH hb hp hset hR trivial (fun _ _ _=>rfl) (fun _=>rfl);have hce:(a.eval y).cells= #[a.eval y]:=by rcases h2 with⟨h2,_⟩ |⟨_,_,h2,_⟩<;>(rw[h2];rfl)
    refine rR.skip (w':=w.setCells p.1 (p.2+off) [a.eval y]) ?_ heff;obtain⟨inf,hi,hsz,_⟩:=G7 hty;have hcells:=run_storeCells_cells (P:=P) p.1 (p.2+off) [a.eval y] 0 w (fun j hj=>by simpa using(hth j hj).1) (fun j hj=>by simpa using(hth j hj).2) (fun v hv=>BP hR v hv);simp only[aWs] at hcells;have hs2:(a.eval y).cells.size=inf.size:=by rw[hsz,hce];rfl
    have hcl:(a.eval y).cells.toList=[a.eval y]:=by rw[hce]
    simp only[execOp,ho,hv,Instr.storeAt,Instr.sureAddr,storeVar,aVn,aVC,aVk,sizeOf,typeInfo,aWg,hi,hs2,ne_eq,not_true_eq_false,aXn,hcl,hcells]
  .cases hr
 .rename_i ti k n c i o' _ u z kk;split at hr
  .rename_i hu;subst hu;generalize hk:qM H k=ob at hr;unfold UB at hr;split at hr
   .rename_i e' t' l m;split at hr
    .rename_i hc;generalize hset:sW ti.ty z t' (rC t' l i) o'=oz at hr;cases oz with
     |none=>cases hr
     |some z'=>
      cases hr;have hnm:=hside _ (aVm.2 rfl);obtain⟨b,cap,xs,c1,c2,c3,hv,hcur,hown,hF,hl,hi,h0,e1,e2,e3,e4⟩:=aA5 hT hH hx.1 hk hnm hc;subst hnm;have hty:=tK hT hst;obtain⟨hvy,hky⟩:=a0M hT hH hy;have hR:=G6 hvy;have hRl:=sY hR;obtain⟨d1,d2,d3,f1,f2,f3,f4⟩:=V2 hR e4 hset;obtain⟨_,_,_,_,hv0,hown0,_,hnone,hseal⟩: ∃(_:True) (_:True) (v0:pV) (xs0:pQ),g.cur k n=some v0/\w.ownsRow 0 e' t'.cells v0 n xs0/\tT (Rd g w t') t'.cells l xs0/\(∀m,n<m->g.cur k m=none)/\∀b,v0.ownBlock=some b->∀o,¬g.S b o:=by
       obtain⟨_,v0,xs0,q1,q2,q3,q4,q5⟩:=hH.blk k _ hk;exact⟨trivial,trivial,v0,xs0,q1,q2,q3,q4,q5⟩
      rw[hcur] at hv0;obtain rfl:=aVe hv0;rcases hown.2 with⟨h5,_⟩ |⟨q,cap',cur,h5,_,hg,hnc,hcm,hcs,htake⟩
      .cases h5
      simp only[aXi,aU9,Addr.mk.injEq,and_true,true_and] at h5;obtain⟨rfl,rfl⟩:=h5;have hxl:=hown.1;have hnew:=sY f4;simp only[aVc] at hnew;have hc2l:c2.length=t'.cells:=by rw[e3,hc]
      have hd:d1.length+d2.length+d3.length=t'.cells:=by rw[<-hc2l,f1];simp only[aVc]
      have hx1:c1.length+c2.length+c3.length=n*t'.cells:=by rw[<-hxl,e1];simp only[aVc]
      have hall:cur.toList=(c1++(d1++d2++d3)++c3)++cur.toList.drop (n*t'.cells):=by
       conv=>lhs;rw[<-aWn (n*t'.cells) cur.toList,htake,e1,f1]
      obtain⟨D,hD⟩: ∃D,D=cur.toList.drop (n*t'.cells):=⟨_,rfl⟩;rw[<-hD] at hall;have hall2:cur.toList=(c1++d1)++(d2++(d3++c3++D)):=by rw[hall];simp only[aVi]
      have hpos:i.toNat*c+o'=(c1++d1).length:=by rw[aVc,e2,f2]
      have hD2:(a.eval y).cells.toList.length=d2.length:=by rw[hRl,f3]
      have hfit:i.toNat*c+o'+0+(a.eval y).cells.toList.length<=cur.size:=by
       have:cur.size=cur.toList.length:=by simp
       rw[this,hall2,aWs,hpos,hD2];simp only[aVc];omega
      have hst2:=run_storeCells_at P b (i.toNat*c+o') e' (a.eval y).cells.toList 0 cur w hg hfit (fun v hv=>BP hR v hv);have hrow:cur.toList.take (i.toNat*c+o'+0)++(a.eval y).cells.toList++cur.toList.drop (i.toNat*c+o'+0+(a.eval y).cells.toList.length)=(c1++(d1++(a.eval y).cells.toList++d3)++c3)++D:=by
       rw[aWs,hpos,hD2,hall2,aWu,List.drop_append,List.drop_of_length_le pJ,List.nil_append,aVY,aWR];simp only[aVi]
      rw[hrow] at hst2;obtain⟨inf,hinf,hsz,_⟩:=G7 hty;have hs2:(a.eval y).cells.size=inf.size:=by rw[hsz,<-hRl,aVJ]
      have hnewlen:((c1++(d1++(a.eval y).cells.toList++d3)++c3)++D).length=cur.size:=by
       have:cur.size=cur.toList.length:=by simp
       rw[this,hall];simp only[aVc];omega
      have hxs':(c1++(d1++(a.eval y).cells.toList++d3)++c3).length=n*t'.cells:=by
       rw[<-hx1];simp only[aVc];rw[f1];simp only[aVc];omega
      have hown':(w.setRow b ((c1++(d1++(a.eval y).cells.toList++d3)++c3)++D).toArray).ownsRow 0 e' t'.cells (.slice (some ⟨b,0,none⟩) n cap) n (c1++(d1++(a.eval y).cells.toList++d3)++c3):=
       ⟨hxs',.inr ⟨b,cap,_,rfl,aVX _,aXb w b cur _ e' _ hg,hnc,hcm,by rw[aV3,hnewlen,hcs],by rw[<-hxs'];exact aWu⟩⟩
      have hF':tT (Rd g w t') t'.cells (l.set i.toNat z') (c1++(d1++(a.eval y).cells.toList++d3)++c3):=by
       obtain⟨q1,q2,q3,r1,r2,r3,r4⟩:=a0E hF f4 (sY f4) hi;have s1:q1=c1/\q2=c2/\q3=c3:=by
        have h6:q1++(q2++q3)=c1++(c2++c3):=by rw[<-aVi,<-r1,e1,aVi]
        obtain⟨h7,h8⟩:=aXg h6 (by rw[r2,e2,hc]);obtain⟨h9,h10⟩:=aXg h8 (by rw[r3,e3,hc]);exact⟨h7,h9,h10⟩
       obtain⟨rfl,rfl,rfl⟩:=s1;exact r4
      have hownk: ∀o,t8 g H [k] b o:=fun o=>⟨k,_,by simp,hk,_,hcur,rfl⟩;refine rR.skip (w':=w.setRow b ((c1++(d1++(a.eval y).cells.toList++d3)++c3)++D).toArray) ?_ (sG.row (v:= .slice (some ⟨b,0,none⟩) n cap) hH (by rw[List.length_set];exact hl) hown' hF' hnone (fun u hu=>by rw[hcur] at hu;exact(aVe hu).symm)
       (.inr ⟨some b,⟨rfl,rfl,rfl,by simp,fun q _ hq=>aWM w b q _ (fun e=>hq (by rw[e]))⟩,fun b' hb' o=>by cases hb';exact hownk o⟩) (fun b' o hS=> ?_) hseal (fun b' hb'=>by cases hb';exact .inr hownk) ⟨trivial,trivial⟩)
      .simp only[execOp,ho,hv,Instr.storeAt,Instr.sureAddr,storeVar,aVn,aVC,aVk,sizeOf,typeInfo,aWg,hinf,hs2,ne_eq,not_true_eq_false,aXn,hst2]
      .have hne:b'≠b:=fun e=>hseal b rfl o (e▸hS);exact aVB (a:=⟨b',o,none⟩) (aWM w b b' _ hne)
    .cases hr
   .cases hr
  .cases hr
 .rename_i ti i off k u z kk;split at hr
  .rename_i hu;subst hu;generalize hb:qM H i=ob at hr;have hty:=tK hT hst;obtain⟨p,hp,hv⟩:=A0 hx.1;obtain⟨hvy,hky⟩:=a0M hT hH hy;have hR:=G6 hvy;have hone:ti.ty.isRow=false->(a.eval y).cells.toList=[a.eval y]:=fun hrow=>by
    have h1:=BP (CD hrow hvy) _ (aVm.2 rfl);cases h:a.eval y<;>first|rfl|(rw[h] at h1;simp [Value.oneCell'] at h1)
   have hrun:w.there p.1 (p.2+off) (a.eval y).cells.toList.length->(execOp a.eval o).run P w= .ok .skip (w.setCells p.1 (p.2+off) (a.eval y).cells.toList):=by
    intro hth;obtain⟨inf,hi,hsz,_⟩:=G7 hty;have hlen:=sY hR;have hcells:=run_storeCells_cells (P:=P) p.1 (p.2+off) (a.eval y).cells.toList 0 w (fun j hj=>by simpa using(hth j hj).1) (fun j hj=>by simpa using(hth j hj).2) (fun v hv=>BP hR v hv);simp only[aWs] at hcells;have hs2:(a.eval y).cells.size=inf.size:=by rw[hsz,<-hlen,aVJ]
    simp only[execOp,ho,hv,Instr.storeAt,Instr.sureAddr,storeVar,aVn,aVC,aVk,sizeOf,typeInfo,aWg,hi,hs2,ne_eq,not_true_eq_false,aXn,hcells]
   rcases aK7 hr with⟨s,x',toks,z',hb',hset,hsome,⟨pa,pb,hpair⟩,hok,rfl⟩ |hr
   .rw[hb'] at hb;have hn:y6 ti.ty (a.eval y).cells.toList:=aK6 hsome hpair hky;obtain⟨heff,hth⟩:=sG.store (side:=[]) (rds:=[i]) (k:=none) (v:=undef) hH hb hp hset hR trivial (fun _ _ _=>rfl) (fun h=>by rw[hpair] at h;cases h);have hfr: ∀j,base<=j->j<base+ti.ls.length->∀n,g.cur j n=none:=fun j h1 h2=>(hf j (by
     simp only[qO,aVs];right;rw[F5];exact .inl ((QX _ base j).2 ⟨h1,h2⟩)) h1).2
    obtain⟨g1,k1,k2,k3,k4⟩:=a0I ti.ls base g _ heff.heap hfr;have e2:=sG.trans (side:=[]) (rds:=[]) heff k1;have hib:i<base:=by
     rcases aWm i base with h|h
     .exact h
     .have:=(hf i (by simp [qO]) h).1;rw[hp] at this;cases this
    have hiN:i∉qO (EW ti.ls base):=fun h=>by
     have:=(QX _ base i).1 h;omega
    have hb3:qM (rD (rD (EW ti.ls base) [(i,qH.cells s z' (vT toks off ti.ty.cells))]) H) i=some (.cells s z' (vT toks off ti.ty.cells)):=by
     rw[NL,D9 hiN];simp [rD,qM]
    have hyl:=sY hR;have e3:=sG.retok (p:=p) (nt:=N4 off (D5 ti.ls base)) e2.heap hb3 (by rw[k2];exact hp) (fun cs hRz hra o k hm=>by
     obtain⟨q,rfl,hq⟩:=aBk hm;obtain⟨en,he,rfl⟩:=a0J hq;obtain⟨u,h1,h2⟩:=aA1 hn hR (a0K hok en he);have hql:en.1<(a.eval y).cells.toList.length:=(aVq.1 h2).1;have h3:=aBl hset h1 pJ;refine⟨u,[],.slice none 0 0,h3,?_,k3 _ _ hq⟩;have hlen:=sY hRz;have hlt:=aBm h3;have hc:cs[off+en.1]? =some cs[off+en.1]:=aVj pJ;have hr1:=hra _ _ hc;have hr2:=aWJ p.1 (a.eval y).cells.toList (p.2+off) w (fun j hj=>(hth j hj).1) en.1 hql;rw[aVS] at hr2;rw[hr2] at hr1;rw[hc,<-hr1,<-h2,aVj hql])
    exact rR.skip (w':=w.setCells p.1 (p.2+off) (a.eval y).cells.toList) (hrun hth) (sG.trans (side:=[]) (rds:=[i]) e2 e3)
   .unfold U8 at hr;split at hr
    .rename_i s q toks _;generalize hset:sW ti.ty z s q off=oz at hr;cases oz with
     |none=>cases hr
     |some z'=>
      cases hr;obtain⟨heff,hth⟩:=sG.store (side:=[]) (rds:=[i]) hH hb hp hset hR (aK5 hky) (fun a b e=>by rw[e];rfl) hone;exact rR.skip (w':=w.setCells p.1 (p.2+off) (a.eval y).cells.toList) (hrun hth) heff
    .cases hr
  .cases hr
 .cases hr
theorem aBo {t:Ty}{n:Nat}{ev:Operand->pV}{ρ:Operand->qI}: ∀(ps:List (Nat×Operand)) (l z:List t.den) (cs:pQ),tT (Rd g w t) t.cells l cs->l.length=n->(∀q∈ps,s3 g w (ρ q.2) (ev q.2))->C7 t n (some l) (v6 ρ ps)=some z->
  ∃cs',Instr.fill (fun i=>some (i*t.cells,t.cells)) cs.toArray (ps.map fun q=>(q.1,ev q.2))=some cs'.toArray/\tT (Rd g w t) t.cells z cs'/\z.length=n
 |[],l,z,cs,r,hl,_,h=>by
  simp only[v6,C7,aU9] at h;subst h;exact⟨cs,rfl,r,hl⟩
 |(i,q)::ps,l,z,cs,r,hl,hq,h=>by
  have h0:=hq (i,q) pL;generalize hs:ρ q=s at h0;simp only[v6,hs] at h;obtain⟨d,k⟩:=s;cases d with
  |val u y=>
   simp only[C7,aAd] at h;by_cases hc:u=t/\i<n
   .rw[aXm hc] at h;obtain⟨rfl,hi⟩:=hc;simp only[uV] at h;have hR:=G6 h0.1;obtain⟨c1,c2,c3,rfl,h2,h3,h4⟩:=a0E (i:=i) r hR (sY hR) pJ;obtain⟨cs',k1,k2,k3⟩:=aBo ps (l.set i y) z _ h4 (by simpa using hl) (fun q hq'=>hq q (by simp [hq'])) h;refine⟨cs',?_,k2,k3⟩;simp only[aWq];rw[aA0 rfl (by have:=sY hR;simpa using this) (c1:=c1) (c2:=c2) (c3:=c3) pL h2 h3];exact k1
   .rw[aWW hc] at h;cases ps with
    |nil=>simp [v6,C7] at h
    |cons p ps=>simp [v6,C7] at h
  |_=>simp [C7] at h
theorem a0N {t:TypeId}{n:Nat}{ps:Array (Nat×Operand)}(ho:o.op= .buildSlice t n ps) {ρ:Operand->qI}(hρ: ∀q∈ps.toList,s3 g w (ρ q.2) (a.eval q.2)) {u:Ty}{el:TypeId}{by':Nat}{ar:Bool}{ls:List (Nat×TypeId×Nat)}(hst:s8 T t=some ⟨.list u,el,by',ar,ls⟩) {l:List u.den}
  (hb:C7 u n (some (DX u n)) (v6 ρ ps.toList)=some l) (hn:n<=16777216/\n*u.cells<=16777216):
  ∃cs':pQ,tT (Rd g w u) u.cells l cs'/\l.length=n/\(execOp a.eval o).run P w= .ok (.value (.slice (some ⟨w.heap.size,0,none⟩) n n)) (w.alloc (.cells cs'.toArray el)):=by
    obtain⟨h2,h3,_⟩:=(tK hT hst).2;obtain⟨ei,hei,hz⟩:=aVo.1 h3;simp only[aVD] at hz;obtain⟨cs',k1,k2,k3⟩:=aBo hT hH ps.toList (DX u n) l _ (aBa n) (aBb u n) hρ hb;refine⟨cs',k2,k3,?_⟩;have hzc:(xP u).cells=(uB u).toArray:=by
     unfold xP;cases h:u<;>simp [Ty.isRow,uB,Value.cells]
    have hmap:(ps.map fun(q:Nat×Operand)=>(q.1,a.eval q.2)).toList=ps.toList.map fun q=>(q.1,a.eval q.2):=by simp
    have hzl:(uB u).length=u.cells:=sY (F3 g w u);have hrow: ∀z:Array pV,(n*u.cells≠0->z=(uB u).toArray)->(Array.range (n*u.cells)).map (fun i=>z[i%z.size]!)=(List.flatten (List.replicate n (uB u))).toArray:=by
     intro z hz0;by_cases h0:n*u.cells=0
     .rw[h0];have:List.flatten (List.replicate n (uB u))=[]:=aVE (by simp [hzl,h0]);rw[this];simp
     .rw[hz0 h0];have hpos:0<u.cells:=Nat.pos_of_ne_zero (fun h=>h0 (by rw[h];simp));apply aWp.1;apply List.ext_getElem?;intro j;have key: ∀(m j:Nat),j<m*u.cells->(List.flatten (List.replicate m (uB u)))[j]? =(uB u)[j%u.cells]? :=by
       intro m
       induction m with
       |zero=>intro j h;simp at h
       |succ m ih=>
        intro j h;rw[List.replicate_succ,aWN];by_cases hj:j<u.cells
        .rw[aVt pJ,Nat.mod_eq_of_lt hj]
        .rw[aVl pJ,hzl,ih (j-u.cells) (by rw[aWi] at h;omega)];congr 1
         conv=>rhs;rw[<-Nat.sub_add_cancel (Nat.le_of_not_lt hj),Nat.add_mod_right]
      by_cases hj:j<n*u.cells
      .have hm:j%u.cells<(uB u).length:=by rw[hzl];exact Nat.mod_lt _ hpos
       simp only[Array.toList_map,Array.toList_range,List.getElem?_map,List.getElem?_range hj,Option.map_some,aV3,hzl];rw[key n j hj,aVj hm];simp [getElem!_pos,hm]
      .rw[aWo pM,aWo (by simp [hzl];omega)]
    have hlim: ¬(n*u.cells>2^24):=by have:=hn.2;omega
    by_cases h0:n*u.cells=0
    .simp only[execOp,ho,Instr.buildSlice,aVn,aVu h2,aVk,sizeOf,typeInfo,aWg,hei,hz.1,aVC,aVa hlim,aU8 h0];rw[hrow #[] (fun h=>absurd h0 h),hmap,k1];simp only[newRow,aVn,run_newObj,aVk,aVC];rfl
    .simp only[execOp,ho,Instr.buildSlice,aVn,aVu h2,aVk,sizeOf,typeInfo,aWg,hei,hz.1,aVC,aVa hlim,aVa h0,zeroValue,hz.2.2,hzc];rw[hrow (uB u).toArray (fun _=>rfl),hmap,k1];simp only[newRow,aVn,run_newObj,aVk,aVC];rfl
theorem aK9 {t:TypeId}{n:Nat}{ps:Array (Nat×Operand)}(ho:o.op= .buildSlice t n ps) {ρ:Operand->qI}(hρ: ∀q∈ps.toList,s3 g w (ρ q.2) (a.eval q.2)) {base:Nat}{e:qT}(hr:ZJ base n (v6 ρ ps.toList) (s8 T t)=some e) (hf:AV g base e):rR P o a g w H e:=by
 generalize hst:s8 T t=ot at hr;unfold ZJ at hr;split at hr
 .rename_i u el by' ls_;split at hr
  .rename_i hn0;generalize hb:C7 u n (some (DX u n)) (v6 ρ ps.toList)=ol at hr;cases ol with
   |none=>cases hr
   |some l=>
    simp only[aAr] at hr;split at hr
    .rename_i hn;cases hr;obtain⟨cs',k2,k3,hrun⟩:=a0N hT hH ho hρ hst hb hn.2;have hfr:=(hf base (by simp [qO]) (aVp _)).2;have hlen:=J5 k2;have hown:(w.alloc (.cells cs'.toArray el)).ownsRow 0 el u.cells (.slice (some ⟨w.heap.size,0,none⟩) n n) n cs':=⟨by rw[hlen,k3],.inr ⟨w.heap.size,n,cs'.toArray,rfl,aVX _,aXl w _,aVp _,by unfold maxLen;omega,by simp [hlen,k3],by simp [<-k3,<-hlen]⟩⟩;refine rR.value hrun (sG.row (v:= .slice (some ⟨w.heap.size,0,none⟩) n n) (xs:=cs') hH k3 hown k2 (fun m _=>hfr m) (fun u hu=>by rw[hfr] at hu;cases hu) (.inl (World.grownBy_alloc w _ _)) (fun b o h=>aVB (a:=⟨b,o,none⟩) (aVH _ _ _ (hH.sl b o h))) (fun b hb o hs=> ?_) (fun b hb=> ?_) ⟨⟨by simp [Gh.tok],.inr ⟨_,_,rfl,aVp _⟩⟩,trivial⟩)
     .cases hb;exact aW3 _ (hH.sl _ _ hs)
     .cases hb;exact .inl (aVp _)
    .cases hr
  .rename_i hn0;generalize hb:C7 u n (some (DX u n)) (v6 ρ ps.toList)=ol at hr;cases ol with
   |none=>cases hr
   |some l=>
    simp only[U2] at hr;split at hr
    .rename_i hn;cases hr;obtain⟨cs',k2,k3,hrun⟩:=a0N hT hH ho hρ hst hb hn;have hfr:=hf base (by simp [qO]) (aVp _);exact rR.value (v:= .slice (some ⟨w.heap.size,0,none⟩) n n) (w':=w.alloc (.cells cs'.toArray el)) hrun (sG.lit hH rfl k3 k2 (by unfold maxLen;omega) hfr.2)
    .cases hr
 .rename_i u el by' ls_;generalize hb:C7 u n (some (DX u n)) (v6 ρ ps.toList)=ol at hr;cases ol with
  |none=>cases hr
  |some l=>
   simp only[U2] at hr;split at hr
   .rename_i hn;cases hr;obtain⟨cs',k2,k3,hrun⟩:=a0N hT hH ho hρ hst hb hn;have hfr:=hf base (by simp [qO]) (aVp _);exact rR.value (v:= .slice (some ⟨w.heap.size,0,none⟩) n n) (w':=w.alloc (.cells cs'.toArray el)) hrun (sG.lit hH rfl k3 k2 (by unfold maxLen;omega) hfr.2)
   .cases hr
 .cases hr
theorem aLa {args:Array Operand}{tys:Array TypeId}(ho:o.op= .call ⟨.builtin .append,args,tys⟩) {ρ:Operand->qI}(hρ: ∀x∈args.toList,s3 g w (ρ x) (a.eval x)) {e:qT}
  {t:TypeId}(htt:tys= #[t,t]) (hr:UJ H (s8 T t) (vU ρ args.toList)=some e) (hs: ∀p∈e.side,p):rR P o a g w H e:=by
 subst htt;generalize hst:s8 T t=ot at hr;generalize hss:vU ρ args.toList=ss at hr;unfold UJ at hr;split at hr
 .rename_i u el by' ar ls_ k n _ b1 r _;split at hr
  .rename_i hbu;subst hbu;generalize hk:qM H k=ob at hr;unfold UI at hr;split at hr
   .rename_i e' t' l m;split at hr
    .rename_i hbt;subst hbt;split at hr
     .rename_i hec;obtain⟨rfl,hpos,hb1⟩:=hec;simp only[uV] at hr;cases hr;have hnm:=hs _ (by simp:(n=m)∈_);subst hnm;have hby:=hs _ (by simp:((n+List.length r)*by'<=140737488355328)∈_);obtain⟨v,vr,hv,hs1,hs2⟩:=VA hT hH hρ hss;obtain⟨h2,h3,_⟩:=(tK hT hst).2;obtain⟨ei,hei,hz⟩:=aVo.1 h3;simp only[aVD] at hz;obtain⟨cs,hx⟩:=HJ (a:=a) hT hH ho;obtain⟨hl,v0,xs,hv0,hown,hF0,hnone,hseal⟩:=hH.blk k _ hk;obtain⟨hcur,hshape⟩:=hs1.1;rw[hv0] at hcur;obtain rfl:=aVe hcur;obtain⟨adr,capr,hvr,hler,hlr⟩:=F4 hs2.1;have hlen2:(l++r).length=n+List.length r:=by rw[aVc,hl]
      rw[hlen2];have hownk: ∀q,v0.ownBlock=some q->∀o,t8 g H [k] q o:=fun q hq o=>⟨k,_,by simp,hk,v0,hv0,hq⟩;by_cases hm:List.length r=0
      .obtain rfl:r=[]:=aVE hm;refine rR.value (v:=v0) (w':=w) ?_ (sG.row (v:=v0) (xs:=xs) hH hlen2 hown (by rw[List.append_nil];exact hF0) hnone (fun u hu=>by
        have h5:g.cur k n=some u:=hu;rw[hv0] at h5;exact(aVe h5).symm) (.inl ⟨rfl,rfl,rfl,aVp _,fun _ _ _=>rfl⟩) (fun _ _ _=>rfl) hseal (fun q hq=> .inr (hownk q hq)) ⟨⟨by simp [Gh.tok],hshape⟩,trivial⟩)
       obtain⟨adl,capl,hvl,hlel⟩: ∃adl capl,v0= .slice adl n capl/\n<=capl:=by
        rcases hshape with⟨h,rfl⟩ |⟨b,cap,h,h'⟩
        .exact⟨_,_,h,aVp _⟩
        .exact⟨_,_,h,h'⟩
       rw[hx,hv,hvr,hvl];have ha0:(#[Value.slice adl n capl,Value.slice adr (List.length ([]:List b1.den)) capr]:Array pV)[0]? =some (.slice adl n capl):=rfl;have ha1:(#[Value.slice adl n capl,Value.slice adr (List.length ([]:List b1.den)) capr]:Array pV)[1]? =some (.slice adr 0 capr):=rfl;have ht0:(#[t,t]:Array TypeId)[0]? =some t:=rfl;have ht1:(#[t,t]:Array TypeId)[1]? =some t:=rfl;simp only[builtin,Builtin.append_,ht0,ht1,ha0,ha1,aVn,aVu h2,aVk,aVC,sizeOf,typeInfo,aWg,hei];cases adr<;>cases adl<;>simp [Builtin.lenOf,Builtin.firstCells,loadCells,loadCellsFrom,storeCells,hlel]
      .obtain⟨b,off,rfl,hL⟩: ∃b o,adr=some ⟨b,o,none⟩/\yU (Rd g w b1) w g.S b1.cells b o r:=by
        rcases hlr with rfl|h
        .exact absurd rfl hm
        .exact h
       obtain⟨news,hF,hra,_⟩:=NK hL;obtain⟨q,cap,w',hrun,hown',hq,hg,hcap,hcell⟩:=a0F (P:=P) w t o.type e' ei (xP b1) b1.cells by' h2 hei hz.2.2 hz.1 hz.2.1 (by
        have:=sY (G6 (QQ g w b1));simpa using this) v0 n xs hown ⟨b,off,none⟩ (List.length r) capr news (J5 hF) (fun j u hu=>by rw[aWt];exact hra j u hu) (QV (fun _ _ h=>BP h) hF) pJ
        (by
         have:=Nat.mul_le_mul_left (n+List.length r) hb1;unfold maxLen;omega) hby
       refine rR.value (v:= .slice (some ⟨q,0,none⟩) (n+List.length r) cap) (w':=w') ?_ (sG.row (v:= .slice (some ⟨q,0,none⟩) (n+List.length r) cap) (xs:=xs++news) hH hlen2 hown' (QN hF0 hF) (fun m hm'=>hnone m pJ) (fun u hu=>by
        rw[hnone _ pJ] at hu;cases hu) (.inr ⟨v0.ownBlock,hg,fun b hb o=>hownk b hb o⟩) (fun b o hS=>hcell b o (hH.sl b o hS) (fun hb=>absurd hS (hseal b hb o))) (fun b hb o hS=> ?_) (fun b hb=> ?_) ⟨⟨by simp [Gh.tok],.inr ⟨q,cap,rfl,hcap⟩⟩,trivial⟩)
       .rw[hx,hv,hvr];simp only[builtin,aVn,hrun,aVk,aVC]
       .cases hb;rcases hq with h|h
        .rw[h] at hS;exact aW3 _ (hH.sl _ _ hS)
        .exact hseal _ h o hS
       .cases hb;rcases hq with h|h
        .exact .inl (aWO h.symm)
        .exact .inr (hownk _ h)
     .cases hr
    .cases hr
   .cases hr
  .cases hr
 .rename_i u el by' ar ls_ a1 l k b1 r k2;split at hr
  .rename_i hab;obtain⟨rfl,rfl⟩:=hab;simp only[uV] at hr;generalize hk:qM H k=ob at hr;unfold UH at hr;split at hr
   .rename_i e' c n;split at hr
    .rename_i hec;obtain⟨rfl,hcc,hpos,hb1⟩:=hec;cases hr;rw[aVc];have hln:=hs _ (by simp:(List.length l=n)∈_);have hby:=hs _ (by simp:((List.length l+List.length r)*by'<=140737488355328)∈_);obtain⟨v,vr,hv,hs1,hs2⟩:=VA hT hH hρ hss;obtain⟨h2,h3,_⟩:=(tK hT hst).2;obtain⟨ei,hei,hz⟩:=aVo.1 h3;simp only[aVD] at hz;obtain⟨cs,hx⟩:=HJ (a:=a) hT hH ho;obtain⟨v0,xs,hv0,hown,hnone,hseal⟩:=hH.blk k _ hk;have hcur:g.cur k (List.length l)=some v:=hs1.2;rw[hln,hv0] at hcur;obtain rfl:=aVe hcur;obtain⟨adr,capr,hvr,hler,hlr⟩:=F4 hs2.1;obtain⟨adl,capl,hvl,hlel,hll⟩:=F4 hs1.1;by_cases hm:List.length r=0
     ·
      obtain rfl:r=[]:=aVE hm;have hlr:List.length l+List.length ([]:List b1.den)=n:=by rw[hln];rfl
      have hget: ∀i,qM (rD [(k,qH.grow e' c (List.length l+List.length ([]:List b1.den)))] H) i=qM H i:=by
       intro i;simp only[rD,qM];by_cases hi:k=i
       .subst hi;rw[aU8 rfl,hlr];exact hk.symm
       .rw[aVa hi]
      have hkeep:sG g w H ⟨[List.length l=n,(List.length l+List.length ([]:List b1.den))*by'<=140737488355328],(.val (.list b1) (l++[]),some k),[(k,.grow e' c (List.length l+List.length ([]:List b1.den)))],[k]⟩ g w v0:=by
       refine⟨.refl _ _,?_,⟨fun i b h=>hH.blk i b ((hget i).symm.trans h),fun i j bi bj b o' hij h1 h2=>hH.dis i j bi bj b o' hij ((hget i).symm.trans h1) ((hget j).symm.trans h2),hH.sl,hH.tab.1,fun i blk b o' h ho'=>hH.tab.2 i blk b o' ((hget i).symm.trans h) ho'⟩,.refl _ _ _,fun i blk b o' hi hg ho'=> .inr ⟨i,blk,hi,(hget i).symm.trans hg,ho'⟩,fun _ _=>⟨rfl,rfl⟩,fun i u' y us h=> .inl ⟨y,us,(hget i).symm.trans h⟩⟩;rw[List.append_nil];exact hs1
      refine rR.value (v:=v0) (w':=w) ?_ hkeep;rw[hx,hv,hvr,hvl];have ha0:(#[Value.slice adl (List.length l) capl,Value.slice adr (List.length ([]:List b1.den)) capr]:Array pV)[0]? =some (.slice adl (List.length l) capl):=rfl;have ha1:(#[Value.slice adl (List.length l) capl,Value.slice adr (List.length ([]:List b1.den)) capr]:Array pV)[1]? =some (.slice adr 0 capr):=rfl;have ht0:(#[t,t]:Array TypeId)[0]? =some t:=rfl;have ht1:(#[t,t]:Array TypeId)[1]? =some t:=rfl;simp only[builtin,Builtin.append_,ht0,ht1,ha0,ha1,aVn,aVu h2,aVk,aVC,sizeOf,typeInfo,aWg,hei];cases adr<;>cases adl<;>simp [Builtin.lenOf,Builtin.firstCells,loadCells,loadCellsFrom,storeCells,hlel]
     .obtain⟨b,off,rfl,hL⟩: ∃b o,adr=some ⟨b,o,none⟩/\yU (Rd g w b1) w g.S b1.cells b o r:=by
       rcases hlr with rfl|h
       .exact absurd rfl hm
       .exact h
      obtain⟨news,hF,hra,_⟩:=NK hL;have hxs:tT (Rd g w b1) b1.cells l xs:=by
       by_cases h0:List.length l=0
       .obtain rfl:l=[]:=aVE h0;have:xs=[]:=aVE (by rw[hown.1,<-hln];simp);exact this
       .rcases hll with rfl|⟨b0,off0,rfl,hL0⟩
        .exact absurd rfl h0
        .obtain⟨ls,hF0,hra0,_⟩:=NK hL0;rcases hown.2 with⟨e1,e2⟩ |⟨q,cap,cur,e1,e2⟩
         .exact absurd (hln.trans e2) h0
         .rw[hvl] at e1;simp only[aXi,aU9,Addr.mk.injEq] at e1;obtain⟨⟨rfl,rfl,_⟩,_,rfl⟩:=e1;have hvn:v0= .slice (some ⟨b0,0,none⟩) n capl:=by rw[hvl,hln]
          have hrx:=a0G (hvn▸hown);have:ls=xs:=by
           have hl1:=J5 hF0;have hl2:=hown.1;apply List.ext_getElem?;intro j;by_cases hj:j<ls.length
           .have h1:=hra0 j ls[j] (aVj hj);have hj':j<xs.length:=by rw[hl2,hcc,<-hln,<-hl1];exact hj
            have h2:=hrx j xs[j] (aVj hj');rw[h1] at h2;rw[aVj hj,aVj hj',aVe h2]
           .rw[aWo pJ,aWo (by rw[hl2,hcc,<-hln,<-hl1];omega)]
          rw[<-this];exact hF0
      obtain⟨q,cap,w',hrun,hown',hq,hg,hcap,hcell⟩:=a0F (P:=P) w t o.type e' ei (xP b1) c by' h2 hei hz.2.2 (by rw[hz.1,hcc]) hz.2.1 (by
       have:=sY (G6 (QQ g w b1));rw[hcc];simpa using this) v0 n xs hown ⟨b,off,none⟩ (List.length r) capr news (by rw[J5 hF,hcc]) (fun j u hu=>by rw[aWt];exact hra j u hu) (QV (fun _ _ h=>BP h) hF) pJ
       (by
        have:=Nat.mul_le_mul_left (List.length l+List.length r) hb1;unfold maxLen;omega) (by rw[<-hln];exact hby)
      refine rR.value (v:= .slice (some ⟨q,0,none⟩) (n+List.length r) cap) (w':=w') ?_ (by
       have:=sG.append (side:=[List.length l=n,(List.length l+List.length r)*by'<=140737488355328]) (rds:=[k]) hH hk hcc hln hv0 hown hnone hseal (hcc▸hxs) (hcc▸hF) pJ hown' hq hg hcap hcell;rw[hln];rw[hln] at this;exact this)
      rw[hx,hv,hvr];simp only[builtin,aVn,hrun,aVk,aVC]
    .cases hr
   .cases hr
  .cases hr
 .cases hr
end
def AW:Ty->TypeDesc
 | .int k=> .int k
 | .str=> .string
 |_=> .bool
theorem aBp {P:Program}{t:TypeId}{ti:TI}(h:tU P t ti) (hk:G3 ti.ty=true):P.underlying t=some (AW ti.ty):=by
 have h2:=h.2;unfold yW at h2;obtain⟨ty,el,by',ar,ls⟩:=ti;cases ty<;>simp only[G3,aWx] at hk<;>exact h2
theorem aLb {g:Gh}{w:pU}{k:Ty}(hk:G3 k=true) {a x:k.den}{v u:pV}(ha:tJ g w k a v) (hx:tJ g w k x u):Instr.sameNow (AW k) v u=some (HE k a x)/\(HE k a x=true->u=v):=by
 cases k with
 |int k=>
  rw[wC ha,wC hx];simp only[AW,Instr.sameNow,aWQ,HE];refine⟨?_,fun h=> ?_⟩
  .congr 1
  .rw[aVU h]
 |str=>
  rw[zK ha,zK hx];simp only[AW,Instr.sameNow,HE];refine⟨?_,fun h=> ?_⟩
  .congr 1;rw[aWk,MapKept.bytes_beq,aVf];constructor
   .intro h;have:=aVL (fun z:ByteArray=>z.data.toList) h;simpa using this
   .intro h;rw[h]
  .rw[aVU h]
 |bool=>
  rw[xR ha,xR hx];simp only[AW,Instr.sameNow,HE];refine⟨trivial,fun h=> ?_⟩;rw[aXo.1 h]
 |_=>simp [G3] at hk
theorem a0O {g:Gh}{w:pU}{k v:Ty}(hk:G3 k=true) {a:k.den}{key:pV}(ha:tJ g w k a key): ∀{l:List (k.den×v.den)}{es:List MapEntry}(i:Nat),EZ g w k v l es->
  (yF k v l a=false->Instr.findNow (AW k) key es i=some none/\sR k v l a=v.zero/\∀b val born,tJ g w v b val->EZ g w k v (tY k v a b l) (es++[⟨key,val,born⟩]))/\
  (yF k v l a=true->∃j e,es[j]? =some e/\Instr.findNow (AW k) key es i=some (some (i+j,e.val))/\tJ g w v (sR k v l a) e.val/\e.key=key/\∀b val,tJ g w v b val->EZ g w k v (tY k v a b l) (es.modify j fun e=>{e with key:=key,val:=val}))
 |[],es,i,h=>by
  rw[show es=[] from h];exact⟨fun _=>⟨rfl,rfl,fun b val born hb=>⟨_,[],rfl,ha,hb,rfl⟩⟩,fun h=>by simp [yF] at h⟩
 |(x,y)::l,_,i,⟨e,es',rfl,h1,h2,h3⟩=>by
  obtain⟨s1,s2⟩:=aLb hk ha h1;cases hq:HE k a x with
  |true=>
   rw[hq] at s1;refine⟨fun h=>by simp [yF,hq] at h,fun _=>⟨0,e,rfl,?_,?_,s2 hq,fun b val hb=> ?_⟩⟩
   .simp only[Instr.findNow,s1,aWs]
   .simp only[sR,hq,aWQ];exact h2
   .simp only[tY,hq,aWQ];exact⟨_,es',rfl,ha,hb,h3⟩
  |false=>
   rw[hq] at s1;obtain⟨f1,f2⟩:=a0O (v:=v) hk ha (i+1) h3;refine⟨fun h=> ?_,fun h=> ?_⟩
   .simp only[yF,hq] at h;obtain⟨g1,g2,g3⟩:=f1 (by simpa using h);refine⟨by simp only[Instr.findNow,s1];exact g1,by simp only[sR,hq];simpa using g2,fun b val born hb=> ?_⟩;simp only[tY,hq];exact⟨e,_,rfl,h1,h2,g3 b val born hb⟩
   .simp only[yF,hq] at h;obtain⟨j,e',g1,g2,g3,g4,g5⟩:=f2 (by simpa using h);refine⟨j+1,e',by simpa using g1,by simp only[Instr.findNow,s1];rw[g2];congr 3;omega,by simp only[sR,hq];simpa using g3,g4,fun b val hb=> ?_⟩;simp only[tY,hq];exact⟨e,_,rfl,h1,h2,g5 b val hb⟩
def VC (ok:Bool) (z:pV):Option (Nat×pV)->pV
 |some (_,v)=>if ok then .tuple #[v,.bool true] else v
 |none=>if ok then .tuple #[z,.bool false] else z
section
variable {P:Program}{o:Oper}{a:Act}{g:Gh}{w:pU}{H:sD}{T:sX}(hT:xQ P T) (hH:sK g w H)
include hT hH
theorem sG.newMap {side:List Prop}{rds:pT}{base:Nat}{k v:Ty}(hf:g.J base=none) (hc:g.cur base=fun _=>none):
  sG g w H ⟨side,(.val .mp (some base),none),[(base,.map k v [])],rds⟩ (g.var base w.heap.size none) (w.alloc (.map #[] 0)) (.map (some w.heap.size)):=by
 have hJ:(g.var base w.heap.size none).J base=some ⟨w.heap.size,0,none⟩:=by simp [Gh.var]
 have le:Le g w (g.var base w.heap.size none) (w.alloc (.map #[] 0)):=⟨fun _ _ h=>h,fun b o h=>aVB (a:=⟨b,o,none⟩) (aVH _ _ _ (hH.sl b o h)),fun i p h=>by
  show (if i=base then _ else _)=_;rw[aVa (fun e1=>by rw[e1,hf] at h;cases h)];exact h,fun _ _ _ h=>h⟩
 have fr:Fr (t8 g H (qO [(base,qH.map k v [])])) w (w.alloc (.map #[] 0)) g.S (g.var base w.heap.size none).S:=
  ⟨rfl,rfl,rfl,by simp,fun b hb _=>aVH _ _ _ hb,fun b o hb _=>⟨aVB (a:=⟨b,o,none⟩) (aVH _ _ _ hb),aWb (a:=⟨b,o,none⟩) (aVH _ _ _ hb)⟩,fun b o h=> .inl h,fun b s h=> .inl ((F2 (aVH _ _ _ (F1 h))).trans h)⟩
 have gho: ∀i,i∉qO [(base,qH.map k v [])]->(g.var base w.heap.size none).J i=g.J i/\(g.var base w.heap.size none).cur i=g.cur i:=fun i hi=>⟨by
  show (if i=base then _ else _)=_;rw[aVa (fun e1=>hi (by simp [qO,e1]))],rfl⟩
 have get: ∀i blk,i∈qO [(base,qH.map k v [])]->qM (rD [(base,qH.map k v [])] H) i=some blk->i=base/\blk= .map k v []:=by
  intro i blk hi hg;simp only[qO,aVm] at hi;subst hi;simp only[rD,qM,aWQ,aU9] at hg;exact⟨rfl,hg.symm⟩
 have perm: ∀i blk b o,i∈qO [(base,qH.map k v [])]->qM (rD [(base,qH.map k v [])] H) i=some blk->sE (g.var base w.heap.size none) i blk b o->w.heap.size<=b\/t8 g H (qO [(base,qH.map k v [])]) b o:=by
  intro i blk b o hi hg ho;obtain⟨rfl,rfl⟩:=get i blk hi hg;obtain⟨p,hp,h1⟩:=ho;rw[hJ] at hp;obtain rfl:=aVe hp;exact .inl (aWO h1.symm)
 refine⟨le,⟨.inr ⟨rfl,_,hJ,rfl⟩,trivial⟩,hH.upd le fr perm gho (fun i blk hi hg=> ?_) (fun i j bi bj b o hi hj hij hgi hgj _ _=>hij ((get i bi hi hgi).1.trans (get j bj hj hgj).1.symm)) (fun b o h=>aVP (hH.sl b o h) pL),fr,perm,gho,fun i u' y us h=>by
  simp only[rD,qM] at h;split at h
  .cases h
  .exact .inl ⟨y,us,h⟩⟩
 obtain⟨rfl,rfl⟩:=get i blk hi hg;refine⟨⟨w.heap.size,0,none⟩,#[],0,hJ,rfl,?_,rfl,fun o hs=>aW3 _ (hH.sl _ _ hs)⟩;show (w.heap.push (.map #[] 0))[w.heap.size]? =_;rw[aXf]
theorem aLc {t:TypeId}{r:Option Operand}(ho:o.op= .makeMap t r) {base:Nat}{e:qT}(hr:a0e T base (s8 T t) r=some e) (hf:AV g base e):rR P o a g w H e:=by
 generalize hst:s8 T t=ot at hr;unfold a0e at hr;split at hr
 .rename_i el fl ar ls_;unfold aAB at hr;split at hr
  .split at hr
   .cases hr;have hfr:=hf base (by simp [qO]) (aVp _);refine rR.value (v:= .map (some w.heap.size)) (w':=w.alloc (.map #[] 0)) ?_ (sG.newMap hT hH hfr.1 (funext hfr.2));unfold execOp;rw[ho];simp only[Instr.makeMap,aVn,run_newObj,aVk,aVC,Option.map_none];rfl
   .cases hr
  .cases hr
 .cases hr
theorem aLd {xt el fl:TypeId}{ok:Bool}{r:Nat}{es:Array MapEntry}{cl:Nat}{key z res:pV}{kd:TypeDesc}(hm:P.underlying xt=some (.map el fl)) (hb:w.heap[r]? =some (.map es cl)) (hkd:P.underlying el=some kd) (hsim: ∀ty,kd≠.interface ty) (hna: ∀n t,kd≠.array n t) (hns: ∀f,kd≠.struct f)
  {q:Option (Nat×pV)}(hq:Instr.findNow kd key es.toList 0=some q) (hz:(zeroValue fl).run P w= .ok z w)
  (hres:res=VC ok z q):(Instr.lookup xt (.map (some r)) key ok).run P w= .ok res w:=by
 have hck: ∀em,(Instr.checkKey em 10000 el key).run P w= .ok () w:=by
  intro em;unfold Instr.checkKey;simp only[aVn,aVu hkd,aVk];cases kd<;>first|rfl|(exact absurd rfl (hsim _)) |(exact absurd rfl (hna _ _)) |(exact absurd rfl (hns _))
 have hfk:(Instr.findKey el key es.toList).run P w= .ok q w:=by
  unfold Instr.findKey;simp only[aVn,aVu hkd,aVk,hq,aVC]
 subst hres;unfold Instr.lookup;simp only[aVn,aVu hm,aVk,MapKept.run_getObj_map hb,aVC,hck,hfk];cases q with
 |none=>cases ok<;>simp [hz,aVn,aVk,VC]
 |some q=>cases ok<;>simp [aVn,aVk,VC]
theorem sG.updMap {side:List Prop}{rds:pT}{i:Nat}{k v:Ty}{l l':List (k.den×v.den)}{p:Pl}{es es':Array MapEntry}{cl cl':Nat}(hi:qM H i=some (.map k v l)) (hp:g.J i=some p) (hp0:p.2=0) (hb:w.heap[p.1]? =some (.map es cl)) (hS: ∀o,¬g.S p.1 o) (hM:EZ g w k v l' es'.toList):
  sG g w H ⟨side,(.any,none),[(i,.map k v l')],rds⟩ g {w with heap:=w.heap.setIfInBounds p.1 (.map es' cl')} undef:=by
 have hlt:p.1<w.heap.size:=(aVz.1 hb).1;have hoth: ∀b,b≠p.1->(w.heap.setIfInBounds p.1 (.map es' cl'))[b]? =w.heap[b]? :=fun b hne=>by rw[aWD (Ne.symm hne)]
 have hown: ∀o,t8 g H (qO [(i,qH.map k v l')]) p.1 o:=fun o=>⟨i,_,by simp [qO],hi,p,hp,rfl⟩;have le:Le g w g {w with heap:=w.heap.setIfInBounds p.1 (.map es' cl')}:=⟨fun _ _ h=>h,fun b o h=>aVB (a:=⟨b,o,none⟩) (hoth b (fun e=>hS o (e▸h))),fun _ _ h=>h,fun _ _ _ h=>h⟩
 have fr:Fr (t8 g H (qO [(i,qH.map k v l')])) w {w with heap:=w.heap.setIfInBounds p.1 (.map es' cl')} g.S g.S:=
  ⟨rfl,rfl,rfl,by simp,fun b _ hn=>hoth b (fun e=>hn 0 (e▸hown 0)),fun b o _ hn=>⟨aVB (a:=⟨b,o,none⟩) (hoth b (fun e=>hn (e▸hown o))),aWb (a:=⟨b,o,none⟩) (hoth b (fun e=>hn (e▸hown o)))⟩,fun b o h=> .inl h,fun b s h=>(by
   by_cases e:b=p.1
   .exact .inr fun o=>e▸hown o
   .exact .inl ((F2 (hoth b e)).trans h))⟩
 have get: ∀j blk,j∈qO [(i,qH.map k v l')]->qM (rD [(i,qH.map k v l')] H) j=some blk->j=i/\blk= .map k v l':=by
  intro j blk hj hg;simp only[qO,aVm] at hj;subst hj;simp only[rD,qM,aWQ,aU9] at hg;exact⟨rfl,hg.symm⟩
 have perm: ∀j blk b o,j∈qO [(i,qH.map k v l')]->qM (rD [(i,qH.map k v l')] H) j=some blk->sE g j blk b o->w.heap.size<=b\/t8 g H (qO [(i,qH.map k v l')]) b o:=by
  intro j blk b o hj hg ho;obtain⟨rfl,rfl⟩:=get j blk hj hg;obtain⟨q,hq,rfl⟩:=ho;rw[hp] at hq;obtain rfl:=aVe hq;exact .inr (hown o)
 refine⟨le,⟨trivial,trivial⟩,hH.upd le fr perm (fun _ _=>⟨rfl,rfl⟩) (fun j blk hj hg=> ?_) (fun j j' bi bj b o hj hj' hij hgi hgj _ _=>hij ((get j bi hj hgi).1.trans (get j' bj hj' hgj).1.symm)) (fun b o h=>by simpa using hH.sl b o h),fr,perm,fun _ _=>⟨rfl,rfl⟩,fun j u' y us h=>by
  simp only[rD,qM] at h;split at h
  .cases h
  .exact .inl ⟨y,us,h⟩⟩
 obtain⟨rfl,rfl⟩:=get j blk hj hg;exact⟨p,es',cl',hp,hp0,by simp [aW0,hlt],a0p le hM,hS⟩
theorem aBq {i:Nat}{k:pS}{v:pV}(h:s3 g w (.val .mp (some i),k) v): ∃p,g.J i=some p/\v= .map (some p.1):=by
 obtain⟨p,h1,e⟩:=CD rfl h.1;simp only[aV8,and_true] at e;exact⟨p,h1,e⟩
theorem aBr {k:Ty}:(∀ty,AW k≠.interface ty)/\(∀n t,AW k≠.array n t)/\(∀f,AW k≠.struct f):=by
 cases k<;>exact⟨fun _ h=>by simp [AW] at h,fun _ _ h=>by simp [AW] at h,fun _ h=>by simp [AW] at h⟩
theorem aLe {t:TypeId}{x y:Operand}{ok:Bool}(ho:o.op= .lookup t x y ok) {sx sy:qI}(hx:s3 g w sx (a.eval x)) (hy:s3 g w sy (a.eval y)) {e:qT}(hr:UQ T H ok (s8 T t) sx sy=some e):rR P o a g w H e:=by
 generalize hst:s8 T t=ot at hr;unfold UQ at hr;split at hr
 .rename_i el fl ar ls_ i kk;generalize hk:s8 T el=ok1 at hr;generalize hv:s8 T fl=ok2 at hr;unfold a0f at hr;split at hr
  .rename_i kt vt k a' _;split at hr
   .rename_i hkt;unfold UP at hr;split at hr
    .rename_i k' v' l hb;split at hr
     .rename_i hkv;obtain⟨rfl,rfl⟩:=hkv;split at hr
      .rename_i hkey;obtain⟨p,es,cl,hp,hp0,hh,hM,hS⟩:=hH.blk i _ hb;obtain⟨p',hp',hxv⟩:=aBq hT hH hx;rw[hp] at hp';obtain rfl:=aVe hp';have hm:=(tK hT hst).2;simp only[yW] at hm;have hkd:=aBp (tK hT hk) (hkt▸hkey);obtain⟨iv,hi1,hi2,hi3⟩:=G7 (tK hT hv);have hz:(zeroValue fl).run P w= .ok (xP vt.ty) w:=by
        simp only[zeroValue,typeInfo,aVn,aWg,hi1,hi3,aVk,aVC]
       obtain⟨f1,f2⟩:=a0O (v:=vt.ty) hkey hy.1 0 hM;rw[<-hkt] at hkd;obtain⟨p1,p2,p3⟩:=aBr hT hH (k:=k);have go: ∀{q res},Instr.findNow (AW k) (a.eval y) es.toList 0=some q->res=VC ok (xP vt.ty) q->(execOp a.eval o).run P w= .ok (.value res) w:=by
        intro q res h1 h2;unfold execOp;rw[ho];simp only[hxv,aVn,aLd hT hH hm hh hkd p1 p2 p3 h1 hz h2,aVk,aVC]
       cases hmh:yF k vt.ty l a' with
       |false=>
        obtain⟨g1,g2,_⟩:=f1 hmh;cases ok with
        |true=>
         cases hr;refine rR.pure hH (v:= .tuple #[xP vt.ty,.bool false]) (go g1 rfl) ?_;simp only[MW,hmh,g2];exact⟨[_,_],rfl,_,[_],rfl,QQ g w _,trivial,_,[],rfl,wV g w false,trivial,rfl⟩
        |false=>
         cases hr;refine rR.pure hH (v:=xP vt.ty) (go g1 rfl) ?_;simp only[MW,g2];exact QQ g w _
       |true=>
        obtain⟨j,e',g1,g2,g3,g4,g5⟩:=f2 hmh;cases ok with
        |true=>
         cases hr;refine rR.pure hH (v:= .tuple #[e'.val,.bool true]) (go g2 rfl) ?_;simp only[MW,hmh];exact⟨[_,_],rfl,_,[_],rfl,g3,trivial,_,[],rfl,wV g w true,trivial,rfl⟩
        |false=>
         cases hr;refine rR.pure hH (v:=e'.val) (go g2 rfl) ?_;simp only[MW];exact g3
      .cases hr
     .cases hr
    .cases hr
   .cases hr
  .cases hr
 .cases hr
theorem aLf {g:Gh}{w:pU}{k:Ty}(hk:G3 k=true) {x:k.den}{v:pV}(h:tJ g w k x v) (n:Nat):Instr.sameBits n v v=true:=by
 cases k with
 |int k=>rw[wC h];cases n<;>simp [Instr.sameBits]
 |str=>rw[zK h];cases n<;>simp [Instr.sameBits,MapKept.bytes_beq]
 |bool=>rw[xR h];cases n<;>simp [Instr.sameBits]
 |_=>simp [G3] at hk
omit hT hH in
theorem aBs {T:sX}{ti:Option TI}{s:qI}{v:pV}(h:s3 g w s v):s3 g w (US T ti s) v:=by
 unfold US;split
 .unfold aAC;split
  .rename_i f x _;refine⟨.inr ⟨rfl,?_⟩,trivial⟩;rcases h.1 with⟨h1,_⟩ |⟨h1,vs,h2,h3⟩
   .cases h1
   .rw[show vs=[] from h2] at h3;exact h3
  .exact h
 .exact h
theorem aBt {t:TypeId}{m x y:Operand}(ho:o.op= .mapUpdate t m x y\/o.op= .insert t m x y) {sm sx sy:qI}(hm:s3 g w sm (a.eval m)) (hx:s3 g w sx (a.eval x)) (hy:s3 g w sy (a.eval y)) {e:qT}(hr:N7 T H (s8 T t) sm sx sy=some e):rR P o a g w H e:=by
 generalize hst:s8 T t=ot at hr;unfold N7 at hr;split at hr
 .rename_i el fl ar ls_ i kk;generalize hk:s8 T el=ok1 at hr;unfold UR at hr;split at hr
  .rename_i kt k a' _ u b _;split at hr
   .rename_i hkt;unfold N6 at hr;split at hr
    .rename_i k' v' l hb;split at hr
     .rename_i hkv;obtain⟨rfl,rfl⟩:=hkv;split at hr
      .rename_i hkey;cases hr;obtain⟨p,es,cl,hp,hp0,hh,hM,hS⟩:=hH.blk i _ hb;obtain⟨p',hp',hxv⟩:=aBq hT hH hm;rw[hp] at hp';obtain rfl:=aVe hp';have hmt:=(tK hT hst).2;simp only[yW] at hmt;have hkd:=aBp (tK hT hk) (hkt▸hkey);rw[<-hkt] at hkd;obtain⟨p1,p2,p3⟩:=aBr hT hH (k:=k);have hck:(Instr.checkKey false 10000 el (a.eval x)).run P w= .ok () w:=by
        unfold Instr.checkKey;simp only[aVn,aVu hkd,aVk];generalize AW k=kd at p1 p2 p3;cases kd<;>first|rfl|(exact absurd rfl (p1 _)) |(exact absurd rfl (p2 _ _)) |(exact absurd rfl (p3 _))
       have hfk: ∀{q},Instr.findNow (AW k) (a.eval x) es.toList 0=some q->(Instr.findKey el (a.eval x) es.toList).run P w= .ok q w:=by
        intro q hq;unfold Instr.findKey;simp only[aVn,aVu hkd,aVk,hq,aVC]
       obtain⟨f1,f2⟩:=a0O (v:=u) hkey hx.1 0 hM;cases hmh:yF k u l a' with
       |false=>
        obtain⟨g1,_,g3⟩:=f1 hmh;refine rR.skip (w':={w with heap:=w.heap.setIfInBounds p.1 (.map (es.push ⟨a.eval x,a.eval y,cl⟩) (cl+1))}) ?_ (sG.updMap hT hH hb hp hp0 hh hS ?_)
        .unfold execOp;rcases ho with ho|ho<;>rw[ho]<;>
          simp only[Instr.mapUpdate,hxv,aVn,aVu hmt,aVk,MapKept.run_getObj_map hh,hck,hfk g1,MapKept.run_setObj_map _ hh,aVC]
        .simp only[MW,Array.toList_push];exact g3 b _ _ hy.1
       |true=>
        obtain⟨j,e',g1,g2,g3,g4,g5⟩:=f2 hmh;rw[aVF] at g2;refine rR.skip (w':={w with heap:=w.heap.setIfInBounds p.1 (.map (es.modify j fun e=>{e with key:=a.eval x,val:=a.eval y}) cl)}) ?_ (sG.updMap hT hH hb hp hp0 hh hS ?_)
        .have hj:es[j]? =some e':=by rw[<-aWj];exact g1
         unfold execOp;rcases ho with ho|ho<;>rw[ho]<;>
          simp only[Instr.mapUpdate,hxv,aVn,aVu hmt,aVk,MapKept.run_getObj_map hh,hck,hfk g2,hj,Option.map_some,aWz,g4,Instr.keyThatStays,aLf hT hH hkey hx.1,aWQ,MapKept.run_setObj_map _ hh,aVC]
        .simp only[MW,Array.toList_modify];exact g5 b _ hy.1
      .cases hr
     .cases hr
    .cases hr
   .cases hr
  .cases hr
 .cases hr
end
end Go.Proofs.YtbbpilohihldiaaGreatDoor.Vc
