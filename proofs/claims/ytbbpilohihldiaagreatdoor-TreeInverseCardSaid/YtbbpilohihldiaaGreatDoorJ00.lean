/- Packed by a program of mine (wip/tools/pack.py): the same texts with short names and few blanks. -/
import Derived.Below
import Derived.Calls
import Derived.Deep.MidRow
import Derived.Deep.Upon
import Derived.Laws.AppendOwn
import Derived.Laws.BitsLemmas
import Derived.Laws.OwnMore
import Derived.MapKept
import Derived.Shelf.Unicode.DecodeSlow
import Derived.Still
import Derived.WalkKit
set_option linter.unusedVariables false
set_option linter.unusedSimpArgs false
set_option linter.unusedSectionVars false
set_option maxRecDepth 100000
set_option maxHeartbeats 4000000
set_option linter.defProp false
namespace Go.Proofs
def aTC:=@_root_.Option.bind_some
def aTD:=@_root_.if_pos
def aTE:=@_root_.Option.some.injEq
def aTF:=@_root_.Option.isSome_iff_exists
def aTG:=@_root_.if_neg
def aTH:=@_root_.List.length_append
def aTI:=@_root_.Option.some.inj
def aTJ:=@_root_.List.length_cons
def aTK:=@_root_.decide_eq_true_eq
def aTL:=@_root_.Bool.and_eq_true
def aTM:=@_root_.List.getElem?_eq_getElem
def aTN:=@_root_.List.append_assoc
def aTO:=@_root_.Go.Result.andThen_ok
def aTP:=@_root_.List.getElem?_append_right
def aTQ:=@_root_.List.mem_singleton
def aTR:=@_root_.List.length_drop
def aTS:=@_root_.List.mem_cons_of_mem
def aTT:=@_root_.Option.map_eq_some_iff
def aTU:=@_root_.List.getElem?_eq_some_iff
def aTV:=@_root_.Go.Sem.run_bind
def aTW:=@_root_.List.mem_cons
def aTX:=@_root_.Go.run_underlying
def aTY:=@_root_.List.getElem?_append_left
def aTZ:=@_root_.Nat.le_refl
def aT0:=@_root_.List.length_nil
def aT1:=@_root_.List.mem_cons_self
def aT2:=@_root_.List.drop_eq_getElem_cons
def aT3:=@_root_.Array.getElem?_eq_some_iff
def aT4:=@_root_.Go.World.cell?_of_block
def aT5:=@_root_.List.length_take
def aT6:=@_root_.List.getD_eq_getElem?_getD
def aT7:=@_root_.Go.Sem.run_pure
def aT8:=@_root_.Bool.not_eq_true'
def aT9:=@_root_.Go.RowKit.Below.heap_alloc
def aUa:=@_root_.Prod.mk.injEq
def aUb:=@_root_.List.getElem?_cons_zero
def aUc:=@_root_.List.eq_nil_of_length_eq_zero
def aUd:=@_root_.Array.length_toList
def aUe:=@_root_.Array.getD_eq_getD_getElem?
def aUf:=@_root_.List.findIdx?_eq_some_iff_getElem
def aUg:=@_root_.Nat.zero_add
def aUh:=@_root_.decide_eq_false_iff_not
def aUi:=@_root_.congrArg
def aUj:=@_root_.Nat.lt_of_lt_of_le
def aUk:=@_root_.List.drop_length
def aUl:=@_root_.List.length_singleton
def aUm:=@_root_.of_decide_eq_true
def aUn:=@_root_.Nat.add_assoc
def aUo:=@_root_.List.getElem?_cons_succ
def aUp:=@_root_.List.any_eq_false
def aUq:=@_root_.Int.le_refl
def aUr:=@_root_.List.reverse_cons
def aUs:=@_root_.List.drop_drop
def aUt:=@_root_.Bool.or_eq_true
def aUu:=@_root_.List.size_toArray
def aUv:=@_root_.Int.toNat_natCast
def aUw:=@_root_.Nat.add_sub_cancel_left
def aUx:=@_root_.List.singleton_append
def aUy:=@_root_.List.all_eq_true
def aUz:=@_root_.List.mem_append
def aUA:=@_root_.List.cons.injEq
def aUB:=@_root_.List.getElem_mem
def aUC:=@_root_.Nat.zero_le
def aUD:=@_root_.Go.World.frozen?_of_block
def aUE:=@_root_.Nat.le_trans
def aUF:=@_root_.Go.IntKind.wrap_i64
def aUG:=@_root_.Bool.not_eq_true
def aUH:=@_root_.Bool.eq_iff_iff
def aUI:=@_root_.List.findIdx?_cons
def aUJ:=@_root_.Nat.succ_mul
def aUK:=@_root_.Array.getElem?_toList
def aUL:=@_root_.Go.run_program
def aUM:=@_root_.decide_eq_true
def aUN:=@_root_.List.findIdx?_eq_none_iff
def aUO:=@_root_.List.drop_zero
def aUP:=@_root_.Array.toList_inj
def aUQ:=@_root_.Go.Addr.add_mid
def aUR:=@_root_.List.take_left
def aUS:=@_root_.List.map_cons
def aUT:=@_root_.Go.IntKind.wrap_u8
def aUU:=@_root_.Bool.false_eq_true
def aUV:=@_root_.List.pairwise_append
def aUW:=@_root_.Bool.or_eq_false_iff
def aUX:=@_root_.Nat.lt_or_ge
def aUY:=@_root_.List.length_eq_one_iff
def aUZ:=@_root_.List.flatMap_cons
def aU0:=@_root_.Array.getElem?_setIfInBounds_ne
def aU1:=@_root_.List.pairwise_iff_getElem
def aU2:=@_root_.Go.World.cell?_alloc_new
def aU3:=@_root_.List.take_append_drop
def aU4:=@_root_.List.getElem?_eq_none
def aU5:=@_root_.Bool.and_eq_false_iff
def aU6:=@_root_.Array.getElem?_modify
def aU7:=@_root_.Bool.not_eq_false'
def aU8:=@_root_.Option.getD_some
def aU9:=@_root_.List.take_append_of_le_length
def aVa:=@_root_.Array.toArray_toList
def aVb:=@_root_.List.length_eq_zero_iff
def aVc:=@_root_.Go.setRow_other
def aVd:=@_root_.Nat.add_zero
def aVe:=@_root_.List.getElem_of_mem
def aVf:=@_root_.Classical.choose_spec
def aVg:=@_root_.if_true
def aVh:=@_root_.Nat.le_of_eq
def aVi:=@_root_.List.pairwise_singleton
def aVj:=@_root_.Go.wpIn_mono
def aVk:=@_root_.decide_eq_decide
def aVl:=@_root_.List.range'_succ
def aVm:=@_root_.List.mem_range
def aVn:=@_root_.List.drop_left
def aVo:=@_root_.dif_neg
def aVp:=@_root_.List.pairwise_cons
def aVq:=@_root_.List.getElem?_take
def aVr:=@_root_.Array.getElem?_setIfInBounds
def aVs:=@_root_.Nat.le_of_ble_eq_true
def aVt:=@_root_.Go.Addr.add_lit
def aVu:=@_root_.Int.tmod_eq_emod_of_nonneg
def aVv:=@_root_.Nat.mul_le_mul_right
def aVw:=@_root_.List.mem_take_iff_getElem
def aVx:=@_root_.Bool.false_and
def aVy:=@_root_.Array.getElem?_eq_getElem
def aVz:=@_root_.List.not_mem_nil
def aVA:=@_root_.List.mem_toArray
def aVB:=@_root_.Go.setRow_heap
def aVC:=@_root_.List.length_pos_iff
def aVD:=@_root_.List.drop_succ_cons
def aVE:=@_root_.Nat.sub_self
def aVF:=@_root_.List.getElem?_take_of_lt
def aVG:=@_root_.Array.getElem?_push_size
def aVH:=@_root_.Go.World.cell?_setCells_in
def aVI:=@_root_.Nat.lt_irrefl
def aVJ:=@_root_.List.length_map
def aVK:=@_root_.List.append_inj
def aVL:=@_root_.Bool.false_ne_true
def aVM:=@_root_.Array.foldl_toList
def aVN:=@_root_.Go.Value.slice.injEq
def aVO:=@_root_.Nat.mul_one
def aVP:=@_root_.List.flatten_cons
def aVQ:=@_root_.Array.size_append
def aVR:=@_root_.Go.heap_alloc_new
def aVS:=@_root_.dif_pos
def aVT:=@_root_.beq_iff_eq
def aVU:=@_root_.if_false
end Go.Proofs
namespace Go.Proofs.YtbbpilohihldiaaGreatDoor.Vc
def NG:Nat:=6
def a85:Nat:=106
def a86:List (Nat×Nat×Value):=[(5,15,.int .u8 4)]
def aIS (w:World):Prop:= ∀x∈a86,x.1<NG/\w.cell? ⟨x.1,x.2.1,none⟩=some x.2.2
def J3 (w:World):Prop:=NG<=w.heap.size/\Lib.Utf8Tabs 1 2 w/\(∃m,w.cell? ⟨0,0,none⟩=some (.int .i64 m))/\aIS w
theorem NX {w w':World}(h:J3 w) (hs:w.heap.size<=w'.heap.size) (hb: ∀b,b<NG->w'.heap[b]? =w.heap[b]?):J3 w':=by
 obtain⟨h0,⟨h1,h2⟩,⟨m,h3⟩,h4⟩:=h;have hc: ∀b o,b<NG->w'.cell? ⟨b,o,none⟩=w.cell? ⟨b,o,none⟩:=fun b o h=>aT4 (a:=⟨b,o,none⟩) (hb b h);refine⟨aUE h0 hs,⟨fun c hc'=> ?_,fun i hi=>⟨?_,?_⟩⟩,⟨m,?_⟩,fun x hx=>⟨(h4 x hx).1,(hc _ _ (h4 x hx).1).trans (h4 x hx).2⟩⟩
 ·rw[hc _ _ (by decide)];exact h1 c hc'
 ·rw[hc _ _ (by decide)];exact(h2 i hi).1
 ·rw[hc _ _ (by decide)];exact(h2 i hi).2
 ·rw[hc _ _ (by decide)];exact h3
attribute [go_sem] a85
inductive Ty where
 |bool|int (k:IntKind) |str|list (t:Ty) |unit|pair (a b:Ty) |ref|clo|mp|rl (e:Nat) (t:Ty) |mref|fn
 deriving DecidableEq
abbrev Ty.den:Ty->Type
 | .bool=>Bool
 | .int _=>Int
 | .str=>List UInt8
 | .list t=>List t.den
 | .unit=>Unit
 | .pair a b=>a.den×b.den
 | .ref=>Option (Nat×Nat)
 | .clo=>Option (Nat×List (Nat×Nat))
 | .mp=>Option Nat
 | .rl _ _=>Option (Nat×Nat)
 | .fn=>Option Nat
 | .mref=>Option (Nat×Nat)
@[go_sem] def Ty.cells:Ty->Nat
 | .unit=>0
 | .pair a b=>a.cells+b.cells
 | .bool| .int _| .str| .list _| .ref| .clo| .mp| .rl _ _| .mref| .fn=>1
@[go_sem] def Ty.zero:(t:Ty)->t.den
 | .bool=>false
 | .int _=>(0:Int)
 | .str=>[]
 | .list _=>[]
 | .unit=>()
 | .pair a b=>(a.zero,b.zero)
 | .ref=>none
 | .clo=>none
 | .mp=>none
 | .rl _ _=>none
 | .fn=>none
 | .mref=>none
@[go_sem] def Ty.isRow:Ty->Bool
 | .unit| .pair _ _=>true
 | .bool| .int _| .str| .list _| .ref| .clo| .mp| .rl _ _| .mref| .fn=>false
@[go_sem] def Ty.pure:Ty->Bool
 | .ref| .clo| .mp| .rl _ _| .mref=>false
 | .list t=>t.pure
 | .pair a b=>a.pure&&b.pure
 | .bool| .int _| .str| .unit| .fn=>true
def pU (t:Ty) (l:List t.den) (i:Int):t.den:=l.getD i.toNat t.zero
def pR (l:List UInt8) (i:Int):Int:=((l.getD i.toNat 0).toNat:Int)
def tI {t u:Ty}(h:t=u) (x:t.den):u.den:=h▸x
@[go_sem] theorem L4 {t:Ty}(x:t.den):tI (rfl:t=t) x=x:=rfl
@[go_sem] def qK (u:Ty):(t:Ty)->t.den->Nat->Option u.den
 |t,x,0=>if h:t=u then some (tI h x) else match t,x with
  | .pair a b,x=>if 0<a.cells then qK u a x.1 0 else qK u b x.2 0
  |_,_=>none
 | .pair a b,x,o+1=>if o+1<a.cells then qK u a x.1 (o+1) else qK u b x.2 (o+1-a.cells)
 |_,_,_=>none
@[go_sem] def rX (u:Ty) (y:u.den):(t:Ty)->t.den->Nat->Option t.den
 |t,x,0=>if h:u=t then some (tI h y) else match t,x with
  | .pair a b,x=>if 0<a.cells then(rX u y a x.1 0).map (fun z=>(z,x.2)) else(rX u y b x.2 0).map (fun z=>(x.1,z))
  |_,_=>none
 | .pair a b,x,o+1=>if o+1<a.cells then(rX u y a x.1 (o+1)).map (fun z=>(z,x.2)) else(rX u y b x.2 (o+1-a.cells)).map (fun z=>(x.1,z))
 |_,_,_=>none
@[go_sem] def Ty.proj:(t:Ty)->t.den->Nat->Option (Σ u:Ty,u.den)
 | .pair a _,x,0=>some ⟨a,x.1⟩
 | .pair _ b,x,i+1=>b.proj x.2 i
 |_,_,_=>none
@[go_sem] def Ty.offs:Ty->Nat->Option Nat
 | .pair _ _,0=>some 0
 | .pair a b,i+1=>(b.offs i).map fun o=>a.cells+o
 |_,_=>none
@[go_sem] def Ty.fld:Ty->Nat->Option Ty
 | .pair a _,0=>some a
 | .pair _ b,i+1=>b.fld i
 |_,_=>none
@[go_sem] def Ty.setPart (u:Ty) (y:u.den):(t:Ty)->t.den->Nat->Option t.den
 | .pair a b,x,0=>if h:u=a then some (tI h y,x.2) else none
 | .pair a b,x,i+1=>(Ty.setPart u y b x.2 i).map fun z=>(x.1,z)
 |_,_,_=>none
inductive DV where
 |any
 |nilS
 |val (t:Ty) (x:t.den)
 |at (t:Ty) (x:t.den)
 |tup (l:List ((Σ t:Ty,t.den)×Option Nat))
 |cond (p:Bool) (d:DV)
 |flag (p q:Prop)
 |own (k n:Nat)
 |elt (k n c:Nat) (i:Int) (o:Nat)
 |nxt (b:Bool) (p c:Int)
abbrev pD:=DV×Option Nat
inductive pC where
 |cells (t:Ty) (x:t.den) (toks:List (Nat×Nat))
 |grow (e:TypeId) (c:Nat) (n:Nat)
 |row (e:TypeId) (t:Ty) (l:List t.den) (n:Nat)
 |map (k v:Ty) (l:List (k.den×v.den))
 |iter (s:List UInt8) (p:Nat)
 |dead
structure St where
 env:List (Nat×pD)
 H:List (Nat×pC)
 nb:Nat
 N:Nat
 np:Nat:=0
@[go_sem] def lk:List (Nat×pD)->Nat->pD
 |[],_=>(.any,none)
 |(k,s)::r,t=>if k=t then s else lk r t
@[go_sem] def pG:List (Nat×pC)->Nat->Option pC
 |[],_=>none
 |(k,s)::r,t=>if k=t then some s else pG r t
structure TI where
 ty:Ty
 elem:TypeId:=0
 bytes:Nat:=0
 arr:Bool:=false
 ls:List (Nat×TypeId×Nat):=[]
abbrev rZ:=List (Nat×TI)
@[go_sem] def r7:rZ->TypeId->Option TI
 |[],_=>none
 |(k,s)::r,t=>if k=t then some s else r7 r t
inductive PK where
 |v|own|p (t:Ty) (os:List Nat) |m|r|f (ks:List (Ty×List Nat))
structure pJ where
 side:List Prop
 ret:List pD
 H:List pC
structure qC where
 ps:List PK
 C:List pD->List pC->Option pJ
 gs:List (Nat×Nat×PK):=[]
 same:List Nat:=[]
 row:Option ((t:Ty)->List t.den->Option (List t.den)):=none
abbrev tX:=Nat->Option qC
structure pQ where
 side:List Prop
 slot:pD
 upd:List (Nat×pC)
 rds:List Nat
@[go_sem] def orE:Option pQ->Option pQ->Option pQ
 |some r,_=>some r
 |none,r=>r
@[go_sem] def AZ:Option (List Prop×DV)->Option pQ
 |some (p,d)=>some ⟨p,(d,none),[],[]⟩
 |none=>none
@[go_sem] def XA:Value->DV
 | .bool b=> .val .bool b
 | .int k n=> .val (.int k) n
 | .string s=> .val .str s.data.toList
 | .slice none 0 0=> .nilS
 | .pointer none=> .val .ref none
 | .nilFunc=> .val .clo none
 | .map none=> .val .mp none
 |_=> .any
@[go_sem] def sY (env:List (Nat×pD)):Operand->pD
 | .tmp t=>lk env t
 | .const v=>(XA v,none)
 | .func f=>(.val .clo (some (f,[])),none)
 | .global _=>(.any,none)
@[go_sem] def NY:Option TI->pD->pD
 |some ⟨.list t,_,_,_,_⟩,(.nilS,_)=>(.val (.list t) [],none)
 |_,s=>s
@[go_sem] def J4:IntKind->Int->List Prop×DV
 | .i64,n=>([-9223372036854775808<=n/\n<=9223372036854775807],.val (.int .i64) n)
 |k,n=>([],.val (.int k) (k.wrap n))
@[go_sem] def pX {α:Type}:List α->List α->List α
 |[],m=>m
 |x::l,m=>x::pX l m
@[go_sem] def BR:(t:Ty)->t.den->t.den->Option Bool
 | .bool,a,b=>some (a==b)
 | .int _,a,b=>some (decide ((a:Int)=b))
 | .str,a,b=>some (decide ((a:List UInt8)=b))
 | .unit,_,_=>some true
 | .pair s t,a,b=>eqAnd (BR s a.1 b.1) (BR t a.2 b.2)
 |_,_,_=>none
where
 eqAnd:Option Bool->Option Bool->Option Bool
  |some x,some y=>some (x&&y)
  |_,_=>none
attribute [go_sem] BR.eqAnd
@[go_sem] def XB (k:IntKind) (a b:Int):BinOp->Option (List Prop×DV)
 | .add=>some (J4 k (a+b))
 | .sub=>some (J4 k (a-b))
 | .mul=>some (J4 k (a*b))
 | .eql=>some ([],.val .bool (decide (a=b)))
 | .neq=>some ([],.val .bool (!decide (a=b)))
 | .lss=>some ([],.val .bool (decide (a<b)))
 | .leq=>some ([],.val .bool (decide (a<=b)))
 | .gtr=>some ([],.val .bool (decide (b<a)))
 | .geq=>some ([],.val .bool (decide (b<=a)))
 | .quo=>some ([b≠0],.val (.int k) (k.wrap (Int.tdiv a b)))
 | .rem=>some ([b≠0],.val (.int k) (Int.tmod a b))
 | .and=>some ([],.val (.int k) (bits .and k a b))
 | .or=>some ([],.val (.int k) (bits .or k a b))
 | .xor=>some ([],.val (.int k) (bits .xor k a b))
 | .andNot=>some ([],.val (.int k) (bits .andNot k a b))
 |_=>none
def XC (k:IntKind) (a b:Int):Int:=k.wrap (a*2^min b.toNat k.bits)
def wZ (k:IntKind) (a b:Int):Int:=a.fdiv (2^min b.toNat k.bits)
@[go_sem] def a88 (k:IntKind) (a:Int) (k':IntKind) (b:Int):BinOp->Option (List Prop×DV)
 | .shl=>some ([0<=b],.val (.int k) (XC k a b))
 | .shr=>some ([0<=b],.val (.int k) (wZ k a b))
 |op=>if k=k' then XB k a b op else none
@[go_sem] def XD (a b:List UInt8):BinOp->Option (List Prop×DV)
 | .add=>some ([((a++b).length:Int)<=9223372036854775807],.val .str (a++b))
 | .eql=>some ([],.val .bool (decide (a=b)))
 | .neq=>some ([],.val .bool (!decide (a=b)))
 | .lss=>some ([],.val .bool (Op.bytesLess a b))
 | .leq=>some ([],.val .bool (Op.bytesLess a b||decide (a=b)))
 | .gtr=>some ([],.val .bool (!(Op.bytesLess a b||decide (a=b))))
 | .geq=>some ([],.val .bool (!Op.bytesLess a b))
 |_=>none
@[go_sem] def a89:BinOp->Option Bool->Option (List Prop×DV)
 | .eql,some r=>some ([],.val .bool r)
 | .neq,some r=>some ([],.val .bool (!r))
 |_,_=>none
@[go_sem] def RX (op:BinOp):pD->pD->Option (List Prop×DV)
 |(.val (.int k) a,_),(.val (.int k') b,_)=>a88 k a k' b op
 |(.val .str a,_),(.val .str b,_)=>XD a b op
 |_,_=>none
@[go_sem] def a9a (u:Ty) (b:Nat) (op:BinOp) (t t':Ty) (x:t.den) (y:t'.den):Option (List Prop×DV):=
 if h:t'=t then(if t=u/\(t= .bool\/(t.isRow=true/\b=1)) then a89 op (BR t x (tI h y)) else none) else none
@[go_sem] def RY {α:Type}(l:List α):BinOp->Option (List Prop×DV)
 | .eql=>some ([],.flag (l=[]) True)
 | .neq=>some ([],.flag True (l=[]))
 |_=>none
@[go_sem] def XE:Option TI->BinOp->pD->pD->Option (List Prop×DV)
 |some ⟨.list _,_,_,_,_⟩,op,(.val (.list _) l,_),(.nilS,_)=>RY l op
 |some ⟨.list _,_,_,_,_⟩,op,(.nilS,_),(.val (.list _) l,_)=>RY l op
 |some ⟨u,_,b,_,_⟩,op,(.val t x,_),(.val t' y,_)=>a9a u b op t t' x y
 |_,_,_,_=>none
@[go_sem] def a9b:Option (List Prop×DV)->Option (List Prop×DV)->Option (List Prop×DV)
 |some r,_=>some r
 |none,r=>r
@[go_sem] def XF:UnOp->pD->Option (List Prop×DV)
 | .not,(.val .bool b,_)=>some ([],.val .bool (!b))
 | .neg,(.val (.int k) n,_)=>some (J4 k (-(n:Int)))
 |_,_=>none
def s5 (l:List Int):List UInt8:=l.map fun n=>UInt8.ofNat n.toNat
def sJ (s:List UInt8):List Int:=s.map fun b=>(b.toNat:Int)
@[go_sem] def RZ:Option TI->Option TI->pD->Option (List Prop×DV)
 |some _,some ⟨.int k,_,_,_,_⟩,(.val (.int _) n,_)=>some ([],.val (.int k) (k.wrap n))
 |some _,some ⟨.str,_,_,_,_⟩,(.val .str s,_)=>some ([],.val .str s)
 |_,_,_=>none
@[go_sem] def a9c (l:List Int):Option TI->Option (List Prop×DV)
 |some ⟨.int .u8,_,_,_,_⟩=>some ([],.val .str (s5 l))
 |_=>none
@[go_sem] def XG (T:rZ):Option TI->Option TI->pD->Option (List Prop×DV)
 |some ⟨.list (.int .u8),e,_,_,_⟩,some ⟨.str,_,_,_,_⟩,(.val (.list (.int .u8)) l,_)=>a9c l (r7 T e)
 |_,_,_=>none
def pT {α:Type}(l:List α) (lo hi:Int):List α:=(l.drop lo.toNat).take (hi.toNat-lo.toNat)
@[go_sem] def D7:Option pD->Int->Option Int
 |none,d=>some d
 |some (.val (.int _) n,_),_=>some n
 |_,_=>none
@[go_sem] def S0 (t:Ty) (n:Nat) (f:Int->Int->t.den):Option Int->Option Int->Option (List Prop×DV)
 |some a,some b=>some ([0<=a/\a<=b/\b<=(n:Int)],.val t (f a b))
 |_,_=>none
@[go_sem] def XH:Option TI->pD->Option pD->Option pD->Option (List Prop×DV)
 |some ⟨.str,_,_,_,_⟩,(.val .str l,_),lo,hi=>S0 .str (List.length l) (pT l) (D7 lo 0) (D7 hi (List.length l))
 |some ⟨.list u,_,_,_,_⟩,(.val (.list t) l,_),lo,hi=>if t=u then S0 (.list t) (List.length l) (pT l) (D7 lo 0) (D7 hi (List.length l)) else none
 |_,_,_,_=>none
@[go_sem] def S1 (t:Ty) (x:t.den) (i:Nat):Option Ty->Option t.den
 |some (.list u)=>Ty.setPart (.list u) [] t x i
 |_=>none
@[go_sem] def AF (t:Ty):Option t.den->List (Nat×pD)->Option t.den
 |some x,[]=>some x
 |some x,(i,(.val u y,_))::r=>AF t (Ty.setPart u y t x i) r
 |some x,(i,(.nilS,_))::r=>AF t (S1 t x i (t.fld i)) r
 |_,_=>none
@[go_sem] def CK (t:Ty):Nat->List t.den
 |0=>[]
 |n+1=>t.zero::CK t n
@[go_sem] def a9d (t:Ty) (n:Nat) (l:List t.den) (i:Nat) (u:Ty) (y:u.den):Option (List t.den):=if h:u=t/\i<n then some (l.set i (tI h.1 y)) else none
@[go_sem] def B0 (t:Ty) (n:Nat):Option (List t.den)->List (Nat×pD)->Option (List t.den)
 |some l,[]=>some l
 |some l,(i,(.val u y,_))::r=>B0 t n (a9d t n l i u y) r
 |_,_=>none
attribute [go_sem] List.set_cons_zero List.set_cons_succ
@[go_sem] def J5:List pD->Option (List (Nat×Nat))
 |[]=>some []
 |(.val .ref (some p),_)::r=>(J5 r).map (p:: ·)
 |_=>none
@[go_sem] def wC:List (Nat×Nat)->Nat->Option Nat
 |[],_=>none
 |(o,k)::r,a=>if o=a then some k else wC r a
@[go_sem] def wL:Option Nat->Nat->List (Nat×Nat)
 |some k,o=>[(o,k)]
 |none,_=>[]
@[go_sem] def uN:List (Nat×Nat)->Nat->Nat->List (Nat×Nat)
 |[],_,_=>[]
 |(q,k)::r,o,n=>if o<=q/\q<o+n then uN r o n else(q,k)::uN r o n
@[go_sem] def FN:Ty->Option Nat->Option Nat
 | .list _,k=>k
 |_,_=>none
@[go_sem] def yR {α:Type}:List α->List α->List α
 |[],acc=>acc
 |x::l,acc=>yR l (x::acc)
inductive qT where
 |box (id:Nat) (u:Ty) (x:u.den) (toks:List (Nat×Nat)) (o:Nat)
 |tok (id:Nat)
@[go_sem] def qT.id:qT->Nat
 | .box i _ _ _ _=>i
 | .tok k=>k
@[go_sem] def CL:Nat->List Nat->Bool
 |_,[]=>false
 |i,j::r=>if i=j then true else CL i r
@[go_sem] def rK:List qT->List Nat
 |[]=>[]
 |w::r=>w.id::rK r
structure s8 where
 args:List pD
 H:List pC
 ws:List qT
 n:Nat
@[go_sem] def J6:List Nat->Nat->List (Nat×Nat)
 |[],_=>[]
 |q::qs,n=>(q,n)::J6 qs (n+1)
@[go_sem] def BS (k:Nat):Option pC->Option s8->Option s8
 |some (.grow e c m),some a=>if CL k (rK a.ws)=true then none else some ⟨a.args,.grow e c m::a.H,.tok k::a.ws,a.n+1⟩
 |_,_=>none
@[go_sem] def yS (H:List (Nat×pC)):Option Nat->Option s8->Option s8
 |some k,a=>BS k (pG H k) a
 |none,_=>none
@[go_sem] def xQ (H:List (Nat×pC)) (toks:List (Nat×Nat)) (o:Nat):List Nat->Option s8->Option s8
 |[],a=>a
 |q::qs,a=>xQ H toks o qs (yS H (wC toks (o+q)) a)
@[go_sem] def L5 (n:Nat):List Nat->Bool
 |[]=>true
 |q::qs=>decide (q<n)&&L5 n qs
@[go_sem] def EK (H:List (Nat×pC)) (t:Ty) (os:List Nat) (i o:Nat) (u:Ty) (x:u.den) (toks:List (Nat×Nat)) (a:s8):Option t.den->Option s8
 |some y=>if (L5 t.cells os&& !CL i (rK a.ws))=true then xQ H toks o os (some ⟨(.val .ref (some (a.n,0)),none)::a.args,.cells t y (J6 os (a.n+1))::a.H,.box i u x toks o::a.ws,a.n+1⟩) else none
 |none=>none
@[go_sem] def uU (H:List (Nat×pC)) (t:Ty) (os:List Nat) (i o:Nat) (a:s8):Option pC->Option s8
 |some (.cells u x toks)=>EK H t os i o u x toks a (qK t u x o)
 |_=>none
@[go_sem] def BT (t:Ty) (x:t.den) (k:Nat) (a:s8):Option pC->Option s8
 |some (.grow e c m)=>if (t.pure&& !CL k (rK a.ws))=true then some ⟨(.val t x,some a.n)::a.args,.grow e c m::a.H,.tok k::a.ws,a.n+1⟩ else none
 |_=>none
@[go_sem] def S2 (t:Ty) (x:t.den) (a:s8):Option s8:=
 if t.pure=true then some ⟨(.val t x,none)::a.args,a.H,a.ws,a.n⟩ else none
@[go_sem] def S3 (f:FuncId) (a:s8):Option s8:=some ⟨(.val .clo (some (f,[])),none)::a.args,a.H,a.ws,a.n⟩
@[go_sem] def BU (i:Nat) (a:s8):Option pC->Option s8
 |some (.map k v l)=>if (k.pure&&v.pure&& !CL i (rK a.ws))=true then some ⟨(.val .mp (some a.n),none)::a.args,.map k v l::a.H,.tok i::a.ws,a.n+1⟩ else none
 |_=>none
@[go_sem] def BV (k n:Nat) (a:s8):Option pC->Option s8
 |some (.row e t l m)=>if (t.pure&& !CL k (rK a.ws))=true then some ⟨(.own a.n n,none)::a.args,.row e t l m::a.H,.tok k::a.ws,a.n+1⟩ else none
 |_=>none
@[go_sem] def wM (H:List (Nat×pC)) (f:FuncId) (args:List pD):List (Ty×List Nat)->List (Nat×Nat)->List (Nat×Nat)->Option s8->Option s8
 |[],[],ids,some a=>some ⟨(.val .clo (some (f,yR ids [])),none)::args,a.H,a.ws,a.n⟩
 |(t,os)::ks,(i,o)::cs,ids,some a=>wM H f args ks cs ((a.n,0)::ids) (uU H t os i o a (pG H i))
 |_,_,_,_=>none
@[go_sem] def x9 (H:List (Nat×pC)) (a:s8):PK->pD->Option s8
 | .v,(.val .clo (some (f,[])),_)=>S3 f a
 | .v,(.val t x,_)=>S2 t x a
 | .own,(.val t x,some k)=>BT t x k a (pG H k)
 | .p t os,(.val .ref (some (i,o)),_)=>uU H t os i o a (pG H i)
 | .m,(.val .mp (some i),_)=>BU i a (pG H i)
 | .r,(.own k n,_)=>BV k n a (pG H k)
 | .f ks,(.val .clo (some (f,cs)),_)=>wM H f a.args ks cs [] (some a)
 |_,_=>none
@[go_sem] def wN (H:List (Nat×pC)):List PK->List pD->Option s8->Option s8
 |_,_,none=>none
 |[],[],some a=>some a
 |p::ps,s::ss,some a=>wN H ps ss (x9 H a p s)
 |_,_,some _=>none
@[go_sem] def aIT:Option (Option (Nat×Nat))->pD
 |some (some p)=>(.val .ref (some p),none)
 |_=>(.any,none)
@[go_sem] def aIU:Option (Option Nat)->pD
 |some (some i)=>(.val .mp (some i),none)
 |_=>(.any,none)
@[go_sem] def aIV:Option (Option (Nat×Nat))->pD
 |some (some (k,n))=>(.own k n,none)
 |_=>(.any,none)
@[go_sem] def FO:(t:Ty)->t.den->Nat->Option (Option (Nat×Nat))
 | .rl _ _,x,0=>some x
 | .pair a b,x,o=>if o<a.cells then FO a x.1 o else FO b x.2 (o-a.cells)
 |_,_,_=>none
@[go_sem] def J7 (q:Nat):PK->Option pC->pD
 | .r,some (.cells t y _)=>aIV (FO t y q)
 | .p _ _,some (.cells t y _)=>aIT (qK .ref t y q)
 | .m,some (.cells t y _)=>aIU (qK .mp t y q)
 |_,_=>(.any,none)
@[go_sem] def H9:List pC->Nat->Option pC
 |[],_=>none
 |b::_,0=>some b
 |_::r,n+1=>H9 r n
@[go_sem] def L6 (l:List pD):Option s8->Option s8
 |some a=>some ⟨l,a.H,a.ws,a.n⟩
 |none=>none
@[go_sem] def B1 (H:List (Nat×pC)):List (Nat×Nat×PK)->Option s8->Option s8
 |_,none=>none
 |[],some a=>some a
 |(c,q,pk)::r,some a=>B1 H r (L6 a.args (x9 H a pk (J7 q pk (H9 a.H (a.n-1-c)))))
@[go_sem] def FP (i o:Nat):List qT->Nat->Option (Nat×Nat)
 |[],_=>none
 | .box j _ _ _ oc::r,c=>if j=i/\oc<=o then some (c,o-oc) else FP i o r (c+1)
 | .tok _::r,c=>FP i o r (c+1)
@[go_sem] def vE (i:Nat):List qT->Nat->Option Nat
 |[],_=>none
 | .tok j::r,c=>if j=i then some c else vE i r (c+1)
 | .box _ _ _ _ _::r,c=>vE i r (c+1)
@[go_sem] def J8 {α β:Type}:Option α->Option β->Option (α×β)
 |some a,some b=>some (a,b)
 |_,_=>none
@[go_sem] def S4 (W:List qT):Option (Nat×Nat)->Option (Option (Nat×Nat))
 |none=>some none
 |some (i,o)=>(FP i o W 0).map some
@[go_sem] def a9e (W:List qT):Option Nat->Option (Option Nat)
 |none=>some none
 |some i=>(vE i W 0).map some
@[go_sem] def a9f (W:List qT):Option (Nat×Nat)->Option (Option (Nat×Nat))
 |none=>some none
 |some (k,n)=>(vE k W 0).map fun c=>some (c,n)
@[go_sem] def NZ:Option (Nat×List (Nat×Nat))->Option (Option (Nat×List (Nat×Nat)))
 |none=>some none
 |some (f,[])=>some (some (f,[]))
 |_=>none
@[go_sem] def CM (W:List qT):(t:Ty)->t.den->Option t.den
 | .ref,x=>S4 W x
 | .clo,x=>NZ x
 | .mp,x=>a9e W x
 | .pair a b,x=>J8 (if a.pure=true then some x.1 else CM W a x.1) (if b.pure=true then some x.2 else CM W b x.2)
 | .list t,x=>if t.pure=true then some x else none
 | .bool,x=>some x
 | .int _,x=>some x
 | .str,x=>some x
 | .unit,x=>some x
 | .rl _ _,x=>a9f W x
 | .fn,x=>some x
 | .mref,x=>S4 W x
@[go_sem] def XI:Option pC->Option (List pC)->Option (List pC)
 |some b,some l=>some (b::l)
 |_,_=>none
@[go_sem] def aIW (t:Ty) (ts:List (Nat×Nat)):Option t.den->Option pC
 |some y=>some (.cells t y ts)
 |none=>none
@[go_sem] def S5 (W:List qT):pC->Option pC
 | .cells t y ts=>if t.pure=true then some (.cells t y ts) else aIW t ts (CM W t y)
 |b=>some b
@[go_sem] def HA (W:List qT):List pC->Option (List pC)
 |[]=>some []
 |b::r=>XI (S5 W b) (HA W r)
@[go_sem] def AG:List qT->Nat->Option qT
 |[],_=>none
 |w::_,0=>some w
 |_::r,n+1=>AG r n
@[go_sem] def L7 (n:Nat) (c:Nat):Option qT->Bool
 |some _=>false
 |none=>decide (c<n)
@[go_sem] def AH (base n c:Nat):Option qT->Option Nat
 |some (.box _ _ _ _ _)=>none
 |some (.tok k)=>some k
 |none=>if c<n then some (base+c) else none
@[go_sem] def a9g (base n c o:Nat):Option qT->pD
 |some (.box i _ _ _ o')=>(.val .ref (some (i,o'+o)),none)
 |wh=>if L7 n c wh=true then(.val .ref (some (base+c,o)),none) else(.any,none)
@[go_sem] def J9 (base n:Nat) (W:List qT):Option Nat->Option Nat
 |some c=>AH base n c (AG W c)
 |none=>none
@[go_sem] def aIX (m:Nat):Option Nat->pD
 |some k=>(.own k m,none)
 |none=>(.any,none)
@[go_sem] def aIY:Option Nat->pD
 |some k=>(.val .mp (some k),none)
 |none=>(.any,none)
@[go_sem] def XJ (base n c o:Nat):Option qT->Option (Nat×Nat)
 |some (.box i _ _ _ o')=>some (i,o'+o)
 |wh=>if L7 n c wh=true then some (base+c,o) else none
@[go_sem] def aIZ:Option (Nat×Nat)->Option (List (Nat×Nat))->Option (List (Nat×Nat))
 |some p,some l=>some (p::l)
 |_,_=>none
@[go_sem] def L8 (base n:Nat) (W:List qT):List (Nat×Nat)->Option (List (Nat×Nat))
 |[]=>some []
 |(c,o)::r=>aIZ (XJ base n c o (AG W c)) (L8 base n W r)
@[go_sem] def aI0 (f:Nat):Option (List (Nat×Nat))->pD
 |some l=>(.val .clo (some (f,l)),none)
 |none=>(.any,none)
@[go_sem] def S6 (base n:Nat) (W:List qT):pD->pD
 |(.own c m,_)=>aIX m (J9 base n W (some c))
 |(.val .ref (some (c,o)),_)=>a9g base n c o (AG W c)
 |(.val .ref none,_)=>(.val .ref none,none)
 |(.val .mp (some c),_)=>aIY (J9 base n W (some c))
 |(.val .clo (some (f,cs)),_)=>aI0 f (L8 base n W cs)
 |(.val t x,k)=>if t.pure=true then(.val t x,J9 base n W (FN t k)) else(.any,none)
 |_=>(.any,none)
@[go_sem] def aI1 (q:Nat):Option Nat->List (Nat×Nat)->List (Nat×Nat)
 |some k,r=>(q,k)::r
 |none,r=>r
@[go_sem] def D8 (base n:Nat) (W:List qT) (o:Nat):List (Nat×Nat)->List (Nat×Nat)
 |[]=>[]
 |(q,c)::r=>aI1 (o+q) (AH base n c (AG W c)) (D8 base n W o r)
@[go_sem] def JA (base n:Nat) (W:List qT):Option (Nat×Nat)->Option (Option (Nat×Nat))
 |none=>some none
 |some (c,o)=>back2 c o (AG W c)
where
 back2 (c o:Nat):Option qT->Option (Option (Nat×Nat))
  |some (.box i _ _ _ o')=>some (some (i,o'+o))
  |wh=>if L7 n c wh=true then some (some (base+c,o)) else none
attribute [go_sem] JA.back2
@[go_sem] def a9h (base n:Nat) (W:List qT):Option Nat->Option (Option Nat)
 |none=>some none
 |some c=>(AH base n c (AG W c)).map some
@[go_sem] def a9i (base n:Nat) (W:List qT):Option (Nat×Nat)->Option (Option (Nat×Nat))
 |none=>some none
 |some (c,q)=>(AH base n c (AG W c)).map fun k=>some (k,q)
@[go_sem] def BW (base n:Nat) (W:List qT):(t:Ty)->t.den->Option t.den
 | .ref,x=>JA base n W x
 | .clo,x=>NZ x
 | .mp,x=>a9h base n W x
 | .pair a b,x=>J8 (if a.pure=true then some x.1 else BW base n W a x.1) (if b.pure=true then some x.2 else BW base n W b x.2)
 | .list t,x=>if t.pure=true then some x else none
 | .bool,x=>some x
 | .int _,x=>some x
 | .str,x=>some x
 | .unit,x=>some x
 | .rl _ _,x=>a9i base n W x
 | .fn,x=>some x
 | .mref,x=>JA base n W x
@[go_sem] def S7 (i o:Nat) (u t:Ty) (toks ts:List (Nat×Nat)):Option u.den->Option (Nat×pC)
 |some z=>some (i,.cells u z (pX ts (uN toks o t.cells)))
 |none=>none
@[go_sem] def a9j (i:Nat) (t:Ty) (ts:List (Nat×Nat)):Option t.den->Option (Nat×pC)
 |some y=>some (i,.cells t y ts)
 |none=>none
@[go_sem] def D9 (base n c:Nat) (W:List qT):pC->Option (Nat×pC)
 | .cells t y ts=>if t.pure=true then some (base+c,.cells t y (D8 base n W 0 ts)) else a9j (base+c) t (D8 base n W 0 ts) (BW base n W t y)
 | .grow e m k=>some (base+c,.grow e m k)
 | .row e t l n=>if t.pure=true then some (base+c,.row e t l n) else none
 | .map k v l=>if (k.pure&&v.pure)=true then some (base+c,.map k v l) else none
 | .iter _ _=>none
 | .dead=>some (base+c,.dead)
@[go_sem] def zH (k:Nat):pC->Option (Nat×pC)
 | .cells _ _ _=>none
 | .grow e m n=>some (k,.grow e m n)
 | .row e t l n=>if t.pure=true then some (k,.row e t l n) else none
 | .map s v l=>if (s.pure&&v.pure)=true then some (k,.map s v l) else none
 | .iter _ _=>none
 | .dead=>some (k,.dead)
@[go_sem] def a9k (i o:Nat) (u t:Ty) (toks ts:List (Nat×Nat)) (x:u.den):Option t.den->Option (Nat×pC)
 |some y=>S7 i o u t toks ts (rX t y u x o)
 |none=>none
@[go_sem] def wO (base n i o:Nat) (W:List qT) (u:Ty) (x:u.den) (toks:List (Nat×Nat)):pC->Option (Nat×pC)
 | .cells t y ts=>if t.pure=true then S7 i o u t toks (D8 base n W o ts) (rX t y u x o) else a9k i o u t toks (D8 base n W o ts) x (BW base n W t y)
 | .dead=>some (i,.dead)
 | .grow _ _ _=>none
 | .row _ _ _ _=>none
 | .map _ _ _=>none
 | .iter _ _=>none
@[go_sem] def O0:Option (Nat×pC)->Option (List (Nat×pC))->Option (List (Nat×pC))
 |some q,some r=>some (q::r)
 |_,_=>none
@[go_sem] def B2 (base n:Nat) (W:List qT):Nat->List qT->List pC->Option (List (Nat×pC))
 |_,[],[]=>some []
 |c,[],b::L=>O0 (D9 base n c W b) (B2 base n W (c+1) [] L)
 |c,.box i u x toks o::ws,b::L=>O0 (wO base n i o W u x toks b) (B2 base n W (c+1) ws L)
 |c,.tok k::ws,b::L=>O0 (zH k b) (B2 base n W (c+1) ws L)
 |_,_::_,[]=>none
@[go_sem] def JB:List pD->Option (List ((Σ t:Ty,t.den)×Option Nat))
 |[]=>some []
 |(.val t x,k)::r=>(JB r).map ((⟨t,x⟩,k):: ·)
 |_=>none
@[go_sem] def aI2:Option (List ((Σ t:Ty,t.den)×Option Nat))->pD
 |some q=>(.tup q,none)
 |none=>(.any,none)
@[go_sem] def L9:List pD->Option pD
 |[]=>some (.tup [],none)
 |[s]=>some s
 |s::s'::l=>some (aI2 (JB (s::s'::l)))
@[go_sem] def XK (W:List qT):List Nat->List Nat
 |[]=>[]
 |c::r=>sameId (AG W c) (XK W r)
where
 sameId:Option qT->List Nat->List Nat
  |some w,r=>w.id::r
  |none,r=>r
attribute [go_sem] XK.sameId
@[go_sem] def O1 (side:List Prop) (rds:List Nat):Option (List (Nat×pC))->Option pD->Option pQ
 |some H,some s=>some ⟨side,s,H,rds⟩
 |_,_=>none
@[go_sem] def O2 (base n:Nat) (W:List qT):List pD->List pD
 |[]=>[]
 |s::r=>S6 base n W s::O2 base n W r
@[go_sem] def pW:List pC->Nat
 |[]=>0
 |_::r=>pW r+1
@[go_sem] def S8 (base:Nat) (W:List qT) (sm:List Nat):Option pJ->Option pQ
 |some r=>O1 r.side (pX (rK W) (XK W sm)) (B2 base (pW r.H) W 0 W r.H) (L9 (O2 base (pW r.H) W r.ret))
 |none=>none
@[go_sem] def SA (C:List pD->List pC->Option pJ) (sm:List Nat) (base:Nat) (W:List qT) (args:List pD):Option (List pC)->Option pQ
 |some L=>S8 base W sm (C args L)
 |none=>none
@[go_sem] def O3 (C:List pD->List pC->Option pJ) (sm:List Nat) (base:Nat):Option s8->Option pQ
 |some a=>SA C sm base (yR a.ws []) (yR a.args []) (HA (yR a.ws []) (yR a.H []))
 |none=>none
@[go_sem] def FQ (H:List (Nat×pC)) (base:Nat) (args:List pD):Option qC->Option pQ
 |some g=>O3 g.C g.same base (B1 H g.gs (wN H g.ps args (some ⟨[],[],[],0⟩)))
 |none=>none
@[go_sem] def O4:List PK->List pD->Option Nat
 | .r::ps,_::ss=>O4 ps ss
 |_::_,(.own k _,_)::_=>some k
 |_::ps,_::ss=>O4 ps ss
 |_,_=>none
@[go_sem] def a9l (k:Nat) (t:Ty) (l:List t.den):pD->pD
 |(.own j m,x)=>if j=k then(.val (.list t) l,none) else(.own j m,x)
 |s=>s
@[go_sem] def O5 (k:Nat) (t:Ty) (l:List t.den):List pD->List pD
 |[]=>[]
 |s::r=>a9l k t l s::O5 k t l r
@[go_sem] def JC (k n:Nat):List pD->List Prop
 |[]=>[]
 |(.own j m,_)::r=>(j=k->m=n)::JC k n r
 |_::r=>JC k n r
@[go_sem] def HB:Ty->Bool
 | .list _=>false
 | .pair a b=>HB a&&HB b
 | .bool| .int _| .str| .unit| .fn=>true
 | .ref| .clo| .mp| .rl _ _| .mref=>false
@[go_sem] def pH:List (Nat×pC)->List Nat
 |[]=>[]
 |(i,_)::r=>i::pH r
@[go_sem] def LA:List (Nat×pC)->Bool
 |[]=>true
 |(_,.cells t _ [])::r=>HB t&&LA r
 |_=>false
@[go_sem] def XL (sd:List Prop) (k:Nat):Option pQ->Option pQ
 |some ⟨side,(.val t x,_),U,rds⟩=>if (HB t&&LA U&& !CL k (pH U))=true then some ⟨pX sd side,(.val t x,none),U,k::rds⟩ else none
 |_=>none
@[go_sem] def O6 (H:List (Nat×pC)) (base:Nat) (args:List pD) (g:qC) (k:Nat):Option pC->Option pQ
 |some (.row _ t l m)=>XL (JC k m args) k (FQ ((k,.dead)::H) base (O5 k t l args) (some g))
 |_=>none
@[go_sem] def a9m (H:List (Nat×pC)) (base:Nat) (args:List pD) (g:qC):Option Nat->Option pQ
 |some k=>O6 H base args g k (pG H k)
 |none=>FQ H base args (some g)
@[go_sem] def a9n (k n m e:Nat) (t:Ty):Option (List t.den)->Option pQ
 |some l=>some ⟨[n=m,m<4611686018427387904],(.tup [],none),[(k,.row e t l m)],[k]⟩
 |none=>none
@[go_sem] def XM (F:(t:Ty)->List t.den->Option (List t.den)) (k n:Nat):Option pC->Option pQ
 |some (.row e t l m)=>a9n k n m e t (F t l)
 |_=>none
@[go_sem] def SB (H:List (Nat×pC)) (F:(t:Ty)->List t.den->Option (List t.den)):List pD->Option pQ
 |[(.own k n,_)]=>XM F k n (pG H k)
 |_=>none
@[go_sem] def XN (base:Nat):Option TI->pD->Option pQ
 |some ⟨.list u,e,_,true,_⟩,(.nilS,_)=>some ⟨[],(.own base 0,none),[(base,.row e u [] 0)],[]⟩
 |some ⟨.list u,e,_,false,_⟩,(.nilS,_)=>some ⟨[],(.val (.list u) [],some base),[(base,.grow e u.cells 0)],[]⟩
 |_,(.nilS,_)=>none
 |_,s=>some ⟨[],s,[],[]⟩
@[go_sem] def EL:Ty->Nat->Bool
 | .list _,0=>true
 | .pair a b,o=>if o<a.cells then EL a o else EL b (o-a.cells)
 |_,_=>false
@[go_sem] def EM (t:Ty):List (Nat×TypeId×Nat)->Bool
 |[]=>true
 |(o,_,_)::r=>EL t o&&EM t r
@[go_sem] def BX:List (Nat×TypeId×Nat)->Nat->List (Nat×Nat)
 |[],_=>[]
 |(o,_,_)::r,i=>(o,i)::BX r (i+1)
@[go_sem] def DA:List (Nat×TypeId×Nat)->Nat->List (Nat×pC)
 |[],_=>[]
 |(_,e,c)::r,i=>pX (DA r (i+1)) [(i,.grow e c 0)]
@[go_sem] def XO (e:Nat):Bool:=if e=84 then true else if e=a85 then true else false
@[go_sem] def XP (e:Nat) (u:Ty) (o:Nat):Option (Nat×Nat)->List (Nat×Nat×Ty)
 |none=>[(o,e,u)]
 |some _=>[]
@[go_sem] def EN:(t:Ty)->t.den->Nat->List (Nat×Nat×Ty)
 | .rl e u,x,o=>XP e u o x
 | .pair a b,x,o=>pX (EN a x.1 o) (EN b x.2 (o+a.cells))
 |_,_,_=>[]
@[go_sem] def XQ (o:Nat):Option (Nat×Nat)->List Nat
 |none=>[o]
 |some _=>[]
@[go_sem] def FR:(t:Ty)->t.den->Nat->List Nat
 | .mref,x,o=>XQ o x
 | .pair a b,x,o=>pX (FR a x.1 o) (FR b x.2 (o+a.cells))
 |_,_,_=>[]
@[go_sem] def a9o:Nat->List Nat->List Nat
 |2,[0]=>[0]
 |_,_=>[]
@[go_sem] def SC (el:Nat) (t:Ty) (y:t.den):List Nat:=if XO el=true then a9o t.cells (FR t y 0) else[]
@[go_sem] def JD (t:Ty):Nat->List (Nat×Nat×Ty)->Option t.den->Option t.den
 |_,[],x=>x
 |i,(o,e,u)::r,some x=>JD t (i+1) r (rX (.rl e u) (some (i,0)) t x o)
 |_,_::_,none=>none
@[go_sem] def HC (t:Ty) (i:Nat):List Nat->Option t.den->Option t.den
 |[],x=>x
 |q::r,some x=>HC t i r (rX .mref (some (i,q)) t x q)
 |_::_,none=>none
@[go_sem] def JE:List (Nat×Nat×Ty)->Nat->List (Nat×pC)
 |[],_=>[]
 |(_,e,u)::r,i=>pX (JE r (i+1)) [(i,.row e u [] 0)]
@[go_sem] def O7 {α:Type}:List α->Nat
 |[]=>0
 |_::r=>O7 r+1
@[go_sem] def a9p (base:Nat) (t:Ty) (ls:List (Nat×TypeId×Nat)) (R:List (Nat×Nat×Ty)):Option t.den->Option pQ
 |some z=>some ⟨[],(.val .ref (some (base,0)),none),(base,.cells t z (BX ls (base+1)))::pX (JE R (base+1+O7 ls)) (DA ls (base+1)),[]⟩
 |none=>none
@[go_sem] def SD (base el:Nat) (t:Ty) (y:t.den) (ls:List (Nat×TypeId×Nat)):Bool->Option pQ
 |true=>a9p base t ls (EN t y 0) (HC t base (SC el t y) (JD t (base+1+O7 ls) (EN t y 0) (some y)))
 |false=>none
@[go_sem] def a9q (base el:Nat) (ls:List (Nat×TypeId×Nat)):(t:Ty)->t.den->Option Nat->Option pQ
 | .pair a b,y,some _=>SD base el (.pair a b) y ls (EM (.pair a b) ls)
 | .list u,y,k=>some ⟨[],(.val .ref (some (base,0)),none),[(base,.cells (.list u) y (wL k 0))],[]⟩
 |t,y,_=>some ⟨[],(.val .ref (some (base,0)),none),[(base,.cells t y [])],[]⟩
@[go_sem] def XR (base el:Nat):Option TI->Option pQ
 |some ⟨.list u,e,_,_,_⟩=>some ⟨[],(.val .ref (some (base,0)),none),[(base,.cells (.list u) [] [(0,base+1)]),(base+1,.grow e u.cells 0)],[]⟩
 |some ti=>SD base el ti.ty ti.ty.zero ti.ls (EM ti.ty ti.ls)
 |none=>none
@[go_sem] def XS (base el:Nat):Option TI->pD->Option pQ
 |some ti,(.val t y,k)=>if t=ti.ty then a9q base el ti.ls t y k else none
 |_,_=>none
@[go_sem] def LB:Ty->Bool
 | .list _=>true
 | .pair a b=>LB a||LB b
 | .bool| .int _| .str| .unit| .ref| .clo| .mp| .rl _ _| .mref| .fn=>false
@[go_sem] def B3:List (Nat×pD)->Bool
 |[]=>true
 |(_,(.nilS,_))::r=>B3 r
 |(_,(.val u _,_))::r=> !LB u&&B3 r
 |_=>false
@[go_sem] def XT:Ty->Bool->Option Nat
 | .pair _ _,true=>some 0
 |_,_=>none
@[go_sem] def aI3 (t:Ty) (k:Option Nat):Option t.den->Option pQ
 |some x=>some ⟨[],(.val t x,k),[],[]⟩
 |none=>none
@[go_sem] def XU (sl:List (Nat×pD)):Option TI->Option pQ
 |some ti=>if ti.ty.isRow=true then aI3 ti.ty (XT ti.ty (B3 sl)) (AF ti.ty (some ti.ty.zero) sl) else none
 |none=>none
@[go_sem] def SE (base e c n:Nat) (t:Ty):Option (List t.den)->Option pQ
 |some l=>if n<=16777216/\n*c<=16777216 then some ⟨[],(.val (.list t) l,some base),[(base,.grow e c n)],[]⟩ else none
 |none=>none
@[go_sem] def a9r (base e n:Nat) (t:Ty):Option (List t.den)->Option pQ
 |some l=>if t.pure=true/\n<=16777216/\n*t.cells<=16777216 then some ⟨[],(.own base n,none),[(base,.row e t l n)],[]⟩ else none
 |none=>none
@[go_sem] def XV (base n:Nat) (sl:List (Nat×pD)):Option TI->Option pQ
 |some ⟨.list u,e,_,true,_⟩=>if n=0 then a9r base e n u (B0 u n (some (CK u n)) sl) else SE base e u.cells n u (B0 u n (some (CK u n)) sl)
 |some ⟨.list u,e,_,false,_⟩=>SE base e u.cells n u (B0 u n (some (CK u n)) sl)
 |_=>none
@[go_sem] def a9s (t:Ty) (k:Option Nat) (i:Nat):Option t.den->Option pQ
 |some y=>some ⟨[],(.val t y,k),[],[i]⟩
 |none=>none
@[go_sem] def O8 (t:Ty) (i off:Nat):Option pC->Option pQ
 |some (.cells u x toks)=>a9s t (FN t (wC toks off)) i (qK t u x off)
 |_=>none
@[go_sem] def a9t (u:Ty) (k n m:Nat):Option u.den->Option pQ
 |some y=>some ⟨[n=m],(.val u y,none),[],[k]⟩
 |none=>none
@[go_sem] def O9 (u:Ty) (k n c:Nat) (i:Int) (o:Nat):Option pC->Option pQ
 |some (.row _ t l m)=>if c=t.cells then a9t u k n m (qK u t (pU t l i) o) else none
 |_=>none
@[go_sem] def XW (i:Nat):Option (Option (Nat×Nat))->Option pQ
 |some (some (k,n))=>some ⟨[],(.own k n,none),[],[i]⟩
 |_=>none
@[go_sem] def SF (i off:Nat):TI->Option pC->Option pQ
 |⟨.list u,e,_,_,_⟩,some (.cells v x _)=>XW i (qK (.rl e u) v x off)
 |_,_=>none
@[go_sem] def SG (H:List (Nat×pC)):Option TI->pD->Option pQ
 |some ti,(.elt k n c i o,_)=>O9 ti.ty k n c i o (pG H k)
 |some ti,(.at u x,_)=>if u=ti.ty then some ⟨[],(.val u x,none),[],[]⟩ else none
 |some ti,(.val .ref (some (i,off)),_)=>orE (O8 ti.ty i off (pG H i)) (SF i off ti (pG H i))
 |_,_=>none
@[go_sem] def SH (u:Ty) (i:Nat) (toks:List (Nat×Nat)):Option u.den->Option pQ
 |some z=>some ⟨[],(.any,none),[(i,.cells u z toks)],[i]⟩
 |none=>none
@[go_sem] def SI (t:Ty) (y:t.den) (k:Option Nat) (i off:Nat):Option pC->Option pQ
 |some (.cells u x toks)=>SH u i (pX (wL (FN t k) off) (uN toks off t.cells)) (rX t y u x off)
 |_=>none
@[go_sem] def LC (off:Nat):List (Nat×Nat)->List (Nat×Nat)
 |[]=>[]
 |(o,k)::r=>(off+o,k)::LC off r
@[go_sem] def a9u (u:Ty) (i:Nat) (nt toks:List (Nat×Nat)) (bs:List (Nat×pC)):Option u.den->Option pQ
 |some z=>some ⟨[],(.any,none),(i,.cells u z (pX nt toks))::pX bs [(i,.cells u z toks)],[i]⟩
 |none=>none
@[go_sem] def SJ (t:Ty) (y:t.den) (ls:List (Nat×TypeId×Nat)) (base i off:Nat):Option pC->Bool->Option pQ
 |some (.cells u x toks),true=>a9u u i (LC off (BX ls base)) (uN toks off t.cells) (DA ls base) (rX t y u x off)
 |_,_=>none
@[go_sem] def SK (base i off:Nat) (b:Option pC):List (Nat×TypeId×Nat)->(t:Ty)->t.den->Option Nat->Option pQ
 |q::r,.pair a c,y,some _=>SJ (.pair a c) y (q::r) base i off b (EM (.pair a c) (q::r))
 |_,t,y,k=>SI t y k i off b
@[go_sem] def a9v (k n m:Nat) (e:TypeId) (t:Ty) (l:List t.den) (i:Int):Option t.den->Option pQ
 |some z=>some ⟨[n=m],(.any,none),[(k,.row e t (l.set i.toNat z) m)],[k]⟩
 |none=>none
@[go_sem] def SL (u:Ty) (y:u.den) (k n c:Nat) (i:Int) (o:Nat):Option pC->Option pQ
 |some (.row e t l m)=>if c=t.cells then a9v k n m e t l i (rX u y t (pU t l i) o) else none
 |_=>none
@[go_sem] def XX (i off k n:Nat):TI->Option pC->Option pQ
 |⟨.list u,e,_,_,_⟩,some (.cells v x toks)=>SH v i (uN toks off 1) (rX (.rl e u) (some (k,n)) v x off)
 |_,_=>none
@[go_sem] def SM (base:Nat) (H:List (Nat×pC)):Option TI->pD->pD->Option pQ
 |some ti,(.val .ref (some (i,off)),_),(.own k n,_)=>XX i off k n ti (pG H i)
 |some ti,(.elt k n c i o,_),(.val t y,_)=>if t=ti.ty then SL t y k n c i o (pG H k) else none
 |some ti,(.val .ref (some (i,off)),_),(.val t y,k)=>if t=ti.ty then SK base i off (pG H i) ti.ls t y k else none
 |_,_,_=>none
@[go_sem] def XY:pD->Option pQ
 |(.val .ref (some p),_)=>some ⟨[],(.val .ref (some p),none),[],[]⟩
 |(.at t x,_)=>some ⟨[],(.at t x,none),[],[]⟩
 |(.elt k n c i o,_)=>some ⟨[],(.elt k n c i o,none),[],[]⟩
 |_=>none
@[go_sem] def a9w (f:FuncId):Option (List (Nat×Nat))->Option pQ
 |some l=>some ⟨[],(.val .clo (some (f,l)),none),[],[]⟩
 |none=>none
@[go_sem] def aI4 (f:FuncId) (l:Option (List (Nat×Nat))):List Operand->Option pQ
 |[]=>a9w f l
 |_=>none
@[go_sem] def SN (side:List Prop):Option (Σ t:Ty,t.den)->Option pQ
 |some ⟨t,x⟩=>if 0<t.cells then some ⟨side,(.at t x,none),[],[]⟩ else none
 |none=>none
@[go_sem] def SO (side:List Prop) (i off:Nat):Option Nat->Option Ty->Option pQ
 |some o,some u=>if 0<u.cells then some ⟨side,(.val .ref (some (i,off+o)),none),[],[]⟩ else none
 |_,_=>none
@[go_sem] def a9x (k n c:Nat) (i:Int) (o:Nat):Option Nat->Option Ty->Option pQ
 |some q,some u=>if 0<u.cells then some ⟨[],(.elt k n c i (o+q),none),[],[]⟩ else none
 |_,_=>none
@[go_sem] def XZ (f:Nat):Option TI->pD->Option pQ
 |some ⟨t,_,_,false,_⟩,(.elt k n c i o,_)=>a9x k n c i o (t.offs f) (t.fld f)
 |some ⟨t,_,_,false,_⟩,(.at u y,_)=>if u=t then SN [] (u.proj y f) else none
 |some ⟨t,_,_,false,_⟩,(.val .ref (some (i,off)),_)=>SO [] i off (t.offs f) (t.fld f)
 |_,_=>none
@[go_sem] def aI5:Option (Σ t:Ty,t.den)->Option pQ
 |some ⟨t,x⟩=>some ⟨[],(.val t x,none),[],[]⟩
 |none=>none
@[go_sem] def Y0 (f:Nat):Option TI->pD->Option pQ
 |some ⟨t,_,_,false,_⟩,(.val u y,_)=>if u=t then aI5 (u.proj y f) else none
 |_,_=>none
@[go_sem] def Y1:Option TI->pD->pD->Option pQ
 |some ⟨.list t',_,_,_,_⟩,(.own k n,_),(.val (.int _) i,_)=>if 0<t'.cells then some ⟨[0<=i/\i<(n:Int)],(.elt k n t'.cells i 0,none),[],[]⟩ else none
 |some ⟨.list t',_,_,_,_⟩,(.val (.list t) l,_),(.val (.int _) i,_)=>if t=t' then some ⟨[0<=i/\i<(List.length l:Int)],(.at t (pU t l i),none),[],[]⟩ else none
 |some ⟨.pair a b,_,_,true,_⟩,(.val .ref (some (i,off)),_),(.val (.int _) n,_)=>SO [(0:Int)<=n] i off ((Ty.pair a b).offs (Int.toNat n)) ((Ty.pair a b).fld (Int.toNat n))
 |some ⟨.pair a b,_,_,true,_⟩,(.at u x,_),(.val (.int _) n,_)=>if u= .pair a b then SN [(0:Int)<=n] (u.proj x (Int.toNat n)) else none
 |_,_,_=>none
@[go_sem] def Y2:Option TI->pD->pD->Option pQ
 |some ⟨.str,_,_,_,_⟩,(.val .str l,_),(.val (.int _) i,_)=>some ⟨[0<=i/\i<(List.length l:Int)],(.val (.int .u8) (pR l i),none),[],[]⟩
 |_,_,_=>none
@[go_sem] def SP:List ((Σ t:Ty,t.den)×Option Nat)->Nat->Option pQ
 |[],_=>none
 |(⟨t,x⟩,k)::_,0=>some ⟨[],(.val t x,k),[],[]⟩
 |_::r,n+1=>SP r n
@[go_sem] def a9y (b:Bool) (p c:Int):Nat->Option pQ
 |0=>some ⟨[],(.val .bool b,none),[],[]⟩
 |1=>some ⟨[b=true],(.val (.int .i64) p,none),[],[]⟩
 |2=>some ⟨[b=true],(.val (.int .i32) c,none),[],[]⟩
 |_=>none
@[go_sem] def Y3 (i:Nat):pD->Option pQ
 |(.tup l,_)=>SP l i
 |(.nxt b p c,_)=>a9y b p c i
 |_=>none
@[go_sem] def SQ (i:Nat):Option pC->Option pQ
 |some (.map _ _ l)=>some ⟨[],(.val (.int .i64) (List.length l:Int),none),[],[i]⟩
 |_=>none
@[go_sem] def Y4 (H:List (Nat×pC)):Option TI->List pD->Option pQ
 |some ⟨.mp,_,_,_,_⟩,[(.val .mp (some i),_)]=>SQ i (pG H i)
 |some ⟨.str,_,_,_,_⟩,[(.val .str l,_)]=>some ⟨[],(.val (.int .i64) (List.length l:Int),none),[],[]⟩
 |some ⟨.list _,_,_,_,_⟩,[(.val (.list _) l,_)]=>some ⟨[],(.val (.int .i64) (List.length l:Int),none),[],[]⟩
 |some ⟨.list _,_,_,_,_⟩,[(.own _ n,_)]=>some ⟨[],(.val (.int .i64) (n:Int),none),[],[]⟩
 |_,_=>none
@[go_sem] def SR (a:Ty) (l r:List a.den) (k e' by':Nat):Option pC->Option pQ
 |some (.grow e c n)=>if e=e'/\c=a.cells/\0<c/\0<by' then some ⟨[List.length l=n,(List.length l+List.length r)*by'<=140737488355328],(.val (.list a) (l++r),some k),[(k,.grow e c (List.length (l++r)))],[k]⟩ else none
 |_=>none
@[go_sem] def SS (b:Ty) (r:List b.den) (k n e' by':Nat):Option pC->Option pQ
 |some (.row e t l m)=>if h:b=t then(if e=e'/\0<t.cells/\0<by' then some ⟨[n=m,(n+List.length r)*by'<=140737488355328],(.own k (List.length (l++tI (t:= .list b) (u:= .list t) (by rw[h]) r)),none),[(k,.row e t (l++tI (t:= .list b) (u:= .list t) (by rw[h]) r) (List.length (l++tI (t:= .list b) (u:= .list t) (by rw[h]) r)))],[k]⟩ else none) else none
 |_=>none
@[go_sem] def ST (H:List (Nat×pC)):Option TI->List pD->Option pQ
 |some ⟨.list u,e,by',_,_⟩,[(.own k n,_),(.val (.list b) r,_)]=>if b=u then SS b r k n e by' (pG H k) else none
 |some ⟨.list u,e,by',_,_⟩,[(.val (.list a) l,some k),(.val (.list b) r,_)]=>if h:b=a/\a=u then SR a l (tI (t:= .list b) (u:= .list a) (by rw[h.1]) r) k e by' (pG H k) else none
 |_,_=>none
@[go_sem] def SU (mx:Bool):List pD->Option (List Prop×DV)
 |[(.val (.int k) a,_),(.val (.int k') b,_)]=>if k=k' then some ([],.val (.int k) (if mx then max (a:Int) b else min (a:Int) b)) else none
 |_=>none
@[go_sem] def Y5:List (Nat×Nat)->List pD
 |[]=>[]
 |c::r=>(.val .ref (some c),none)::Y5 r
@[go_sem] def SV (H:List (Nat×pC)) (base:Nat) (args:List pD) (g:qC):Option ((t:Ty)->List t.den->Option (List t.den))->Option pQ
 |some F=>SB H F args
 |none=>a9m H base args g (O4 g.ps args)
@[go_sem] def JF (H:List (Nat×pC)) (base:Nat) (args:List pD):Option qC->Option pQ
 |some g=>SV H base args g g.row
 |none=>none
@[go_sem] def LD (Γ:tX) (H:List (Nat×pC)) (base:Nat) (args:List pD):pD->Option pQ
 |(.val .clo (some (f,caps)),_)=>JF H base (args++Y5 caps) (Γ f)
 |(.val .fn (some f),_)=>JF H base args (Γ f)
 |_=>none
@[go_sem] def FS (T:rZ) (ρ:Operand->pD):List Operand->List TypeId->List pD
 |x::xs,t::ts=>NY (r7 T t) (ρ x)::FS T ρ xs ts
 |_,_=>[]
@[go_sem] def uO (ρ:Operand->pD):List Operand->List pD
 |[]=>[]
 |x::xs=>ρ x::uO ρ xs
@[go_sem] def tP (ρ:Operand->pD):List (Nat×Operand)->List (Nat×pD)
 |[]=>[]
 |(i,x)::xs=>(i,ρ x)::tP ρ xs
@[go_sem] def yT (ρ:Operand->pD):Option Operand->Option pD
 |some x=>some (ρ x)
 |none=>none
@[go_sem] def SW (T:rZ) (H:List (Nat×pC)) (ss:List pD):List TypeId->Option pQ
 |t::_=>Y4 H (r7 T t) ss
 |[]=>none
@[go_sem] def SX (l:List Int) (s:List UInt8) (k e':Nat):Option pC->Option pQ
 |some (.grow e c n)=>if e=e'/\c=1 then some ⟨[List.length l=n,List.length l+List.length s<=140737488355328],(.val (.list (.int .u8)) (l++sJ s),some k),[(k,.grow e c (List.length (l++sJ s)))],[k]⟩ else none
 |_=>none
@[go_sem] def Y6 (H:List (Nat×pC)):Option TI->Option TI->List pD->Option pQ
 |some ⟨.list (.int .u8),e,1,_,_⟩,some ⟨.str,_,_,_,_⟩,[(.val (.list (.int .u8)) l,some k),(.val .str s,_)]=>SX l s k e (pG H k)
 |_,_,_=>none
@[go_sem] def SY (T:rZ) (H:List (Nat×pC)) (ss:List pD):List TypeId->Option pQ
 |[t,u]=>if t=u then ST H (r7 T t) ss else Y6 H (r7 T t) (r7 T u) ss
 |_=>none
@[go_sem] def JG:List Operand->List TypeId->Bool
 |[],[]=>true
 |_::xs,_::ts=>JG xs ts
 |_,_=>false
@[go_sem] def Y7 (T:rZ) (Γ:tX) (ρ:Operand->pD) (base:Nat) (H:List (Nat×pC)) (args:List Operand) (tys:List TypeId) (f:pD):Bool->Option pQ
 |true=>LD Γ H base (FS T ρ args tys) f
 |false=>none
@[go_sem] def JH (T:rZ) (Γ:tX) (ρ:Operand->pD) (base:Nat) (H:List (Nat×pC)) (args:Array Operand) (tys:Array TypeId):Callee->Option pQ
 | .builtin .len=>SW T H (uO ρ args.toList) tys.toList
 | .builtin .append=>SY T H (uO ρ args.toList) tys.toList
 | .builtin .max=>AZ (SU true (uO ρ args.toList))
 | .builtin .min=>AZ (SU false (uO ρ args.toList))
 | .value f=>Y7 T Γ ρ base H args.toList tys.toList (ρ f) (JG args.toList tys.toList)
 |_=>none
@[go_sem] def EO:Ty->Bool
 | .int _| .str| .bool=>true
 |_=>false
def FT:(k:Ty)->k.den->k.den->Bool
 | .int _,a,b=>decide ((a:Int)=b)
 | .str,a,b=>decide ((a:List UInt8)=b)
 | .bool,a,b=>a==b
 |_,_,_=>false
def rV (k v:Ty):List (k.den×v.den)->k.den->v.den
 |[],_=>v.zero
 |(x,y)::r,a=>if FT k a x=true then y else rV k v r a
def xA (k v:Ty):List (k.den×v.den)->k.den->Bool
 |[],_=>false
 |(x,_)::r,a=>if FT k a x=true then true else xA k v r a
def sL (k v:Ty) (a:k.den) (b:v.den):List (k.den×v.den)->List (k.den×v.den)
 |[]=>[(a,b)]
 |(x,y)::r=>if FT k a x=true then(a,b)::r else(x,y)::sL k v a b r
@[go_sem] def a9z (base:Nat):Option TI->Option TI->Option pQ
 |some k,some v=>if EO k.ty=true then some ⟨[],(.val .mp (some base),none),[(base,.map k.ty v.ty [])],[]⟩ else none
 |_,_=>none
@[go_sem] def Y8 (T:rZ) (base:Nat):Option TI->Option Operand->Option pQ
 |some ⟨.mp,e,f,_,_⟩,none=>a9z base (r7 T e) (r7 T f)
 |_,_=>none
@[go_sem] def SZ (k:Ty) (a:k.den) (u:Ty) (i:Nat) (ok:Bool):Option pC->Option pQ
 |some (.map k' v l)=>if h:k=k'/\v=u then(if EO k=true then(match ok with
   |true=>some ⟨[],(.tup [(⟨v,rV k' v l (tI h.1 a)⟩,none),(⟨.bool,xA k' v l (tI h.1 a)⟩,none)],none),[],[i]⟩
   |false=>some ⟨[],(.val v (rV k' v l (tI h.1 a)),none),[],[i]⟩) else none) else none
 |_=>none
@[go_sem] def Y9 (H:List (Nat×pC)) (ok:Bool) (i:Nat):Option TI->Option TI->pD->Option pQ
 |some kt,some vt,(.val k a,_)=>if k=kt.ty then SZ k a vt.ty i ok (pG H i) else none
 |_,_,_=>none
@[go_sem] def T0 (T:rZ) (H:List (Nat×pC)) (ok:Bool):Option TI->pD->pD->Option pQ
 |some ⟨.mp,e,f,_,_⟩,(.val .mp (some i),_),s=>Y9 H ok i (r7 T e) (r7 T f) s
 |_,_,_=>none
@[go_sem] def LE (k:Ty) (a:k.den) (u:Ty) (b:u.den) (i:Nat):Option pC->Option pQ
 |some (.map k' v l)=>if h:k=k'/\u=v then(if EO k=true then some ⟨[],(.any,none),[(i,.map k' v (sL k' v (tI h.1 a) (tI h.2 b) l))],[i]⟩ else none) else none
 |_=>none
@[go_sem] def T1 (H:List (Nat×pC)) (i:Nat):Option TI->pD->pD->Option pQ
 |some kt,(.val k a,_),(.val u b,_)=>if k=kt.ty then LE k a u b i (pG H i) else none
 |_,_,_=>none
@[go_sem] def a9A:Option TI->pD->pD
 |some ⟨.fn,_,_,_,_⟩,(.val .clo (some (f,[])),_)=>(.val .fn (some f),none)
 |_,s=>s
@[go_sem] def T2 (T:rZ):Option TI->pD->pD
 |some ⟨.mp,_,f,_,_⟩,s=>a9A (r7 T f) s
 |_,s=>s
@[go_sem] def LF (T:rZ) (H:List (Nat×pC)):Option TI->pD->pD->pD->Option pQ
 |some ⟨.mp,e,_,_,_⟩,(.val .mp (some i),_),s,x=>T1 H i (r7 T e) s x
 |_,_,_,_=>none
def u6 (s:List UInt8) (p:Nat):Int:=((Utf8.decode ⟨s.toArray⟩ p).1:Int)
def YA (s:List UInt8) (p:Nat):Nat:=(Utf8.decode ⟨s.toArray⟩ p).2
def zI (s:List UInt8) (p:Nat):Nat:=if p<s.length then p+YA s p else p
@[go_sem] def YB (base:Nat):Option TI->pD->Option pQ
 |some ⟨.str,_,_,_,_⟩,(.val .str s,_)=>some ⟨[],(.val .ref (some (base,0)),none),[(base,.iter s 0)],[]⟩
 |_,_=>none
@[go_sem] def YC (i:Nat):Option pC->Option pQ
 |some (.iter s p)=>some ⟨[],(.nxt (decide (p<List.length s)) ((p:Nat):Int) (u6 s p),none),[(i,.iter s (zI s p))],[i]⟩
 |_=>none
@[go_sem] def T3 (H:List (Nat×pC)):Bool->pD->Option pQ
 |true,(.val .ref (some (i,0)),_)=>YC i (pG H i)
 |_,_=>none
@[go_sem] def tJ (T:rZ) (Γ:tX) (ty:TypeId) (ρ:Operand->pD) (base:Nat) (H:List (Nat×pC)):Op->Option pQ
 | .move x| .assign x=>XN base (r7 T ty) (ρ x)
 | .alloc e=>XR base e (r7 T e)
 | .box e x=>XS base e (r7 T e) (NY (r7 T e) (ρ x))
 | .build t ps=>XU (tP ρ ps.toList) (r7 T t)
 | .buildSlice t n ps=>XV base n (tP ρ ps.toList) (r7 T t)
 | .load t a=>SG H (r7 T t) (ρ a)
 | .store t a x=>SM base H (r7 T t) (ρ a) (NY (r7 T t) (ρ x))
 | .nilCheck x=>XY (ρ x)
 | .binOp op t x y _=>AZ (a9b (RX op (ρ x) (ρ y)) (XE (r7 T t) op (ρ x) (ρ y)))
 | .unOp op _ x=>AZ (XF op (ρ x))
 | .convert src dst x=>AZ (a9b (RZ (r7 T src) (r7 T dst) (ρ x)) (XG T (r7 T src) (r7 T dst) (ρ x)))
 | .makeFunc (.func f) first caps=>aI4 f (J5 (uO ρ caps.toList)) first.toList
 | .slice t x lo hi none=>AZ (XH (r7 T t) (ρ x) (yT ρ lo) (yT ρ hi))
 | .fieldAddr t x f=>XZ f (r7 T t) (ρ x)
 | .field t x f=>Y0 f (r7 T t) (ρ x)
 | .indexAddr t x ix=>Y1 (r7 T t) (ρ x) (ρ ix)
 | .index t x ix=>Y2 (r7 T t) (ρ x) (ρ ix)
 | .extract x i=>Y3 i (ρ x)
 | .makeMap t r=>Y8 T base (r7 T t) r
 | .range t x=>YB base (r7 T t) (ρ x)
 | .next x b=>T3 H b (ρ x)
 | .lookup t x i ok=>T0 T H ok (r7 T t) (ρ x) (ρ i)
 | .mapUpdate t m k x=>LF T H (r7 T t) (ρ m) (ρ k) (T2 T (r7 T t) (ρ x))
 | .insert t m k x=>LF T H (r7 T t) (ρ m) (ρ k) (T2 T (r7 T t) (ρ x))
 | .call c=>JH T Γ ρ base H c.args c.argTypes c.callee
 |_=>none
@[go_sem] def wP:pD->pD
 |(.cond _ d,_)=>(d,none)
 |s=>s
@[go_sem] def yA (G:Bool):List pD->List Prop
 |[]=>[]
 |(.cond p _,_)::r=>(G=true->p=true)::yA G r
 |_::r=>yA G r
@[go_sem] def a9B (b:Bool):pD->Option Bool
 |(.val .bool c,_)=>some (c==b)
 |(.cond p (.val .bool c),_)=>some (p&&(c==b))
 |_=>none
@[go_sem] def DB:List Oper->Nat->Option Tmp
 |[],_=>none
 |o::_,0=>o.dst
 |_::r,n+1=>DB r n
@[go_sem] def FU (env:List (Nat×pD)) (b:Bool):Option Tmp->Option Bool
 |some t=>a9B b (lk env t)
 |none=>none
@[go_sem] theorem aRB (x y:Bool):cond x y false=(x&&y):=by cases x<;>rfl
@[go_sem] theorem aRC (x y:Bool):cond x true y=(x||y):=by cases x<;>rfl
@[go_sem] def a9C (x:Bool):pD->pD->Option pQ
 |(.val .bool y,_),(.val .bool z,_)=>some ⟨[],(.val .bool (cond x y z),none),[],[]⟩
 |(.cond p (.val .bool y),_),(.val .bool z,_)=>some ⟨[x=true->p=true],(.val .bool (cond x y z),none),[],[]⟩
 |(.val .bool y,_),(.cond p (.val .bool z),_)=>some ⟨[x=false->p=true],(.val .bool (cond x y z),none),[],[]⟩
 |(.cond q (.val .bool y),_),(.cond p (.val .bool z),_)=>some ⟨[x=true->q=true,x=false->p=true],(.val .bool (cond x y z),none),[],[]⟩
 |_,_=>none
@[go_sem] def OA:pD->pD->pD->Option pQ
 |(.val .bool x,_),a,b=>a9C x a b
 |_,_,_=>none
@[go_sem] def rU:Op->List Operand
 | .move x| .assign x| .box _ x| .load _ x| .nilCheck x| .unOp _ _ x| .convert _ _ x| .fieldAddr _ x _| .field _ x _| .extract x _=>[x]
 | .build _ ps| .buildSlice _ _ ps=>parts ps.toList
 | .store _ a v| .binOp _ _ a v _| .indexAddr _ a v| .index _ a v=>[a,v]
 | .lookup _ a v _=>[a,v]
 | .range _ x| .next x _=>[x]
 | .mapUpdate _ m k x=>[m,k,x]
 | .insert _ m k x=>[m,k,x]
 | .makeFunc _ _ caps=>caps.toList
 | .slice _ x l h _=>x::pX (opt l) (opt h)
 | .call ⟨.value f,args,_⟩=>f::args.toList
 | .call ⟨_,args,_⟩=>args.toList
 |_=>[]
where
 parts:List (Nat×Operand)->List Operand
  |[]=>[]
  |(_,x)::r=>x::parts r
 opt:Option Operand->List Operand
  |some x=>[x]
  |none=>[]
attribute [go_sem] rU.parts rU.opt
@[go_sem] def LG (l:List Prop):Option pQ->Option pQ
 |some e=>some ⟨pX l e.side,e.slot,e.upd,e.rds⟩
 |none=>none
@[go_sem] def OB (G:Bool):List Prop->List Prop
 |[]=>[]
 |p::r=>(G=true->p)::OB G r
@[go_sem] def HD (G:Bool) (l:List Prop):Option pQ->Option pQ
 |some ⟨side,(d,_),[],rds⟩=>some ⟨pX l (OB G side),(.cond G d,none),[],rds⟩
 |some ⟨side,s,u::us,rds⟩=>some ⟨(G=true)::pX l (OB G side),s,u::us,rds⟩
 |none=>none
@[go_sem] def BY (env:List (Nat×pD)):List Operand->List pD
 |[]=>[]
 |x::r=>sY env x::BY env r
@[go_sem] def LH (T:rZ) (Γ:tX) (o:Oper) (s:St):Option Bool->Op->Option pQ
 |some G,.pick c a b=>HD G (yA G [sY s.env c]) (OA (wP (sY s.env c)) (sY s.env a) (sY s.env b))
 |some G,op=>HD G (yA G (BY s.env (rU op))) (tJ T Γ o.type (fun x=>wP (sY s.env x)) s.nb s.H op)
 |none,_=>none
@[go_sem] def LI (T:rZ) (Γ:tX) (o:Oper) (s:St):Op->Option pQ
 | .pick c a b=>OA (sY s.env c) (sY s.env a) (sY s.env b)
 |op=>LG (yA true (BY s.env (rU op))) (tJ T Γ o.type (fun x=>wP (sY s.env x)) s.nb s.H op)
@[go_sem] def CN (T:rZ) (Γ:tX) (ops:List Oper) (o:Oper) (s:St):Option pQ:=
 match o.guard with
 |none=>LI T Γ o s o.op
 |some (j,b)=>LH T Γ o s (FU s.env b (DB ops j)) o.op
@[go_sem] def sU:Option Tmp->pD->List (Nat×pD)->List (Nat×pD)
 |some d,s,env=>(d,s)::env
 |none,_,env=>env
structure vF where
 s:St
 side:List Prop
 es:List pQ
@[go_sem] def HE (N:Nat):Option Tmp->Bool
 |some d=>decide (d<N)
 |none=>true
@[go_sem] def HF (n:Nat):List (Nat×pC)->Bool
 |[]=>true
 |(i,_)::r=>decide (i<n)&&HF n r
@[go_sem] def DC (i:Nat):List Nat->Bool
 |[]=>false
 |j::r=>if j=i then CL i r else DC i r
@[go_sem] def JI (H U:List (Nat×pC)) (rds:List Nat):List (Nat×pC)->List Prop
 |[]=>[]
 |(i,_)::r=>if DC i rds=true then(pG U i=pG H i)::JI H U rds r else JI H U rds r
@[go_sem] def LJ (rds:List Nat):List (Nat×pC)->List (Nat×pC)
 |[]=>[]
 |(i,b)::r=>if DC i rds=true then LJ rds r else(i,b)::LJ rds r
@[go_sem] def CO (e:pQ):List (Nat×pC):=LJ e.rds e.upd
@[go_sem] def YD (o:Oper) (a:vF):Option pQ->Option vF
 |some e=>if (HE a.s.N o.dst&&HF (a.s.nb+32) e.upd)=true then some ⟨⟨sU o.dst e.slot a.s.env,pX e.upd a.s.H,a.s.nb+32,a.s.N,a.s.np⟩,pX a.side (pX (JI a.s.H e.upd e.rds e.upd) e.side),e::a.es⟩ else none
 |none=>none
@[go_sem] def vG (T:rZ) (Γ:tX) (ops:List Oper):List Oper->Option vF->Option vF
 |[],a=>a
 |o::r,some a=>vG T Γ ops r (YD o a (CN T Γ ops o a.s))
 |_::_,none=>none
@[go_sem] def OC:List (Nat×pC)->List Nat->Bool
 |[],_=>false
 |(i,_)::r,l=>l.contains i||OC r l
@[go_sem] def FV (a b:pQ):Bool:= !OC (CO a) (pX b.rds (pH b.upd))&& !OC (CO b) a.rds
def JJ (lo:Nat):List (Nat×pC)->Bool
 |[]=>true
 |(i,_)::r=>(decide (i<lo)||decide (lo+32<=i))&&JJ lo r
def T4 (ops:Array Oper) (bs:List Nat) (nb i:Nat) (o:Oper) (e:pQ):List Oper->List pQ->Nat->Bool
 |p::ps,f::fs,j=>((bs.getD j 0).testBit i||(o.apart ops p&&FV e f&&JJ (nb+32*i) f.upd))&&T4 ops bs nb i o e ps fs (j+1)
 |_,_,_=>true
def T5 (ops:Array Oper) (bs:List Nat) (nb:Nat):List Oper->List pQ->Nat->Bool
 |o::os,e::es,i=>T4 ops bs nb i o e os es (i+1)&&T5 ops bs nb os es (i+1)
 |_,_,_=>true
def T6:List Oper->Nat->Bool
 |[],_=>true
 |o::r,i=>o.after.toList.all (fun e=> !Region.binds .any e||decide (e.on<i))&&T6 r (i+1)
def EP (ops:Array Oper) (nb:Nat) (es:List pQ):Bool:=T6 ops.toList 0&&T5 ops (Region.before ops).toList nb ops.toList es 0
@[go_sem] def a9D (ops:Array Oper) (nb:Nat):Option vF->Option vF
 |some a=>if EP ops nb a.es.reverse then some a else none
 |none=>none
@[go_sem] def OD (T:rZ) (Γ:tX) (ops:Array Oper) (s:St):Bool->Option vF
 |true=>a9D ops s.nb (vG T Γ ops.toList ops.toList (some ⟨s,[],[]⟩))
 |false=>vG T Γ ops.toList ops.toList (some ⟨s,[],[]⟩)
inductive Ex where
 |normal|exit (id:Nat) |ret
structure vH where
 slots:List Nat
 ids:List (Nat×Nat):=[]
@[go_sem] def vW:List (Nat×Nat)->Nat->Option Nat
 |[],_=>none
 |(n,o)::r,k=>if o=k then some n else vW r k
@[go_sem] def a9E (m:List (Nat×Nat)):Option (Nat×Nat)->Option (Nat×Nat)
 |some (i,o)=>(vW m i).map fun j=>(j,o)
 |none=>none
@[go_sem] def BZ (m:List (Nat×Nat)):List (Nat×Nat)->Option (List (Nat×Nat))
 |[]=>some []
 |(i,o)::r=>renCons (vW m i) o (BZ m r)
where
 renCons:Option Nat->Nat->Option (List (Nat×Nat))->Option (List (Nat×Nat))
  |some j,o,some r=>some ((j,o)::r)
  |_,_,_=>none
attribute [go_sem] BZ.renCons
@[go_sem] def a9F (m:List (Nat×Nat)):Option Nat->Option Nat
 |some k=>vW m k
 |none=>none
@[go_sem] def aI6 (n:Nat):Option Nat->pD
 |some k=>(.own k n,none)
 |none=>(.any,none)
@[go_sem] def a9G (m:List (Nat×Nat)):Option (Nat×List (Nat×Nat))->Option (Option (Nat×List (Nat×Nat)))
 |none=>some none
 |some (f,l)=>(BZ m l).map fun l'=>some (f,l')
@[go_sem] def T7 (m:List (Nat×Nat)):Option (Nat×Nat)->Option (Option (Nat×Nat))
 |none=>some none
 |some (i,o)=>(vW m i).map fun j=>some (j,o)
@[go_sem] def a9H (m:List (Nat×Nat)):Option Nat->Option (Option Nat)
 |none=>some none
 |some i=>(vW m i).map some
@[go_sem] def a9I (m:List (Nat×Nat)):Option (Nat×Nat)->Option (Option (Nat×Nat))
 |none=>some none
 |some (k,n)=>(vW m k).map fun j=>some (j,n)
@[go_sem] def yU (m:List (Nat×Nat)):(t:Ty)->t.den->Option t.den
 | .ref,x=>T7 m x
 | .clo,x=>a9G m x
 | .mp,x=>a9H m x
 | .pair a b,x=>J8 (if a.pure=true then some x.1 else yU m a x.1) (if b.pure=true then some x.2 else yU m b x.2)
 | .list t,x=>if t.pure=true then some x else none
 | .bool,x=>some x
 | .int _,x=>some x
 | .str,x=>some x
 | .unit,x=>some x
 | .rl _ _,x=>a9I m x
 | .fn,x=>some x
 | .mref,x=>T7 m x
@[go_sem] def zJ (m:List (Nat×Nat)):pD->pD
 |(.own k n,_)=>aI6 n (vW m k)
 |(.val .ref none,_)=>(.val .ref none,none)
 |(.val .ref (some p),_)=>refSlot (a9E m (some p))
 |(.val .clo (some (f,l)),_)=>cloSlot f (BZ m l)
 |(.val .mp (some i),_)=>mpSlot (vW m i)
 |(.val t x,k)=>if t.pure then(.val t x,a9F m (FN t k)) else valSlot t (yU m t x)
 |(.at t x,_)=>if t.pure then(.at t x,none) else(.any,none)
 |_=>(.any,none)
where
 refSlot:Option (Nat×Nat)->pD
  |some p=>(.val .ref (some p),none)
  |none=>(.any,none)
 cloSlot (f:Nat):Option (List (Nat×Nat))->pD
  |some l=>(.val .clo (some (f,l)),none)
  |none=>(.any,none)
 valSlot (t:Ty):Option t.den->pD
  |some y=>(.val t y,none)
  |none=>(.any,none)
 mpSlot:Option Nat->pD
  |some j=>(.val .mp (some j),none)
  |none=>(.any,none)
attribute [go_sem] zJ.refSlot zJ.cloSlot zJ.mpSlot zJ.valSlot
@[go_sem] def T8 (q j:Nat):List (Nat×Nat)->List (Nat×Nat)
 |[]=>[(q,j)]
 |(a,b)::r=>if q<=a then(q,j)::(a,b)::r else(a,b)::T8 q j r
@[go_sem] def JK (m:List (Nat×Nat)):List (Nat×Nat)->List (Nat×Nat)
 |[]=>[]
 |(q,k)::r=>renTok1 q (vW m k) (JK m r)
where
 renTok1 (q:Nat):Option Nat->List (Nat×Nat)->List (Nat×Nat)
  |some j,r=>T8 q j r
  |none,r=>r
attribute [go_sem] JK.renTok1
@[go_sem] def YE (t:Ty) (toks:List (Nat×Nat)):Option t.den->pC
 |some y=> .cells t y toks
 |none=> .dead
@[go_sem] def HG (m:List (Nat×Nat)):Option pC->pC
 |some (.cells t x toks)=>if t.pure then .cells t x (JK m toks) else YE t (JK m toks) (yU m t x)
 |some (.grow e c n)=> .grow e c n
 |some (.row e t l n)=>if t.pure then .row e t l n else .dead
 |some (.map k v l)=>if k.pure&&v.pure then .map k v l else .dead
 |some (.iter s p)=> .iter s p
 |_=> .dead
@[go_sem] def OE (m:List (Nat×Nat)) (env:List (Nat×pD)):List Nat->List (Nat×pD)
 |[]=>[]
 |t::r=>(t,zJ m (lk env t))::OE m env r
@[go_sem] def T9 (m:List (Nat×Nat)) (H:List (Nat×pC)):List (Nat×Nat)->List (Nat×pC)
 |[]=>[]
 |(n,o)::r=>(n,HG m (pG H o))::T9 m H r
@[go_sem] def TA:List (Nat×Nat)->Nat
 |[]=>0
 |(n,_)::r=>max (n+1) (TA r)
@[go_sem] def LK (n o:Nat):List (Nat×Nat)->Bool
 |[]=>false
 |(n',o')::r=>decide (n'=n)||decide (o'=o)||LK n o r
@[go_sem] def wQ (np:Nat):List (Nat×Nat)->Bool
 |[]=>true
 |(n,o)::r=>(decide (np<=n)||decide (n=o))&& !LK n o r&&wQ np r
@[go_sem] def OF (s:St) (k:vH):Bool->St
 |true=>⟨OE k.ids s.env k.slots,T9 k.ids s.H k.ids,max s.np (TA k.ids),s.N,s.np⟩
 |false=>⟨[],[],s.nb,s.N,s.np⟩
@[go_sem] def St.keep (s:St) (k:vH):St:=OF s k (wQ s.np k.ids)
@[go_sem] def qH:List Prop->Prop
 |[]=>True
 |[p]=>p
 |p::q::r=>p/\qH (q::r)
@[go_sem] def a9J (Q:Ex->St->Prop):Option vF->Prop
 |some a=>qH a.side/\Q .normal a.s
 |none=>False
@[go_sem] def a9K (A B:Prop):pD->Prop
 |(.val .bool x,_)=>(x=true->A)/\(x=false->B)
 |(.flag p q,_)=>(p->A)/\(q->B)
 |_=>False
@[go_sem] def OG (f:St->Prop) (Q:Ex->St->Prop):Ex->St->Prop
 | .normal,s=>f s
 | .exit j,s=>Q (.exit j) s
 | .ret,s=>Q .ret s
@[go_sem] def HH (id:Nat) (Q:Ex->St->Prop):Ex->St->Prop
 | .normal,s=>Q .normal s
 | .exit j,s=>if j=id then Q .normal s else Q (.exit j) s
 | .ret,s=>Q .ret s
@[go_sem] def aI7 (I:St->Prop) (μ:St->Nat) (m:Nat) (Q:Ex->St->Prop):Ex->St->Prop
 | .normal,s=> ∃k:vH,I (s.keep k)/\μ (s.keep k)<m
 | .exit j,s=>Q (.exit j) s
 | .ret,s=>Q .ret s
def vI (T:rZ) (Γ:tX):Code->St->(Ex->St->Prop)->Prop
 | .skip,s,Q=>Q .normal s
 | .label _,s,Q=>Q .normal s
 | .region _ ops draw,s,Q=>a9J Q (OD T Γ ops s draw)
 | .seq a b,s,Q=>vI T Γ a s (OG (fun s'=>vI T Γ b s' Q) Q)
 | .cond c a b,s,Q=>a9K (vI T Γ a s Q) (vI T Γ b s Q) (sY s.env c)
 | .block id c,s,Q=>vI T Γ c s (HH id Q)
 | .loop c,s,Q=> ∃(k:vH) (I:St->Prop) (μ:St->Nat),I (s.keep k)/\∀s,I s->vI T Γ c s (aI7 I μ (μ s) Q)
 | .exit id,s,Q=>Q (.exit id) s
 | .ret,s,Q=>Q .ret s
 |_,_,_=>False
attribute [go_sem] Ty.list.injEq Ty.pair.injEq Ty.int.injEq
section
variable {T:rZ}{Γ:tX}{s:St}{Q:Ex->St->Prop}
theorem aI8 {id:Nat}{ops:Array Oper}{a:vF}(h:vG T Γ ops.toList ops.toList (some ⟨s,[],[]⟩)=some a) (hp:qH a.side) (hq:Q .normal a.s):vI T Γ (.region id ops false) s Q:=by
 unfold vI OD;rw[h];exact⟨hp,hq⟩
theorem aI9 {id:Nat}{ops:Array Oper}{a:vF}(h:vG T Γ ops.toList ops.toList (some ⟨s,[],[]⟩)=some a) (hf:EP ops s.nb a.es.reverse=true) (hp:qH a.side) (hq:Q .normal a.s):vI T Γ (.region id ops true) s Q:=by
 unfold vI OD;rw[h];show a9J Q (if EP ops s.nb a.es.reverse=true then some a else none);rw[aTD hf];exact⟨hp,hq⟩
end
end Go.Proofs.YtbbpilohihldiaaGreatDoor.Vc
namespace Go.Proofs.YtbbpilohihldiaaGreatDoor.Vc
open Go.RowKit
abbrev rI:=List (Nat×pC)
structure Pl where
 b:Nat
 o:Nat
 k:Option (TypeId×Nat):=none
structure Gh where
 S:Nat->Nat->Prop
 J:Nat->Option Pl
 cur:Nat->Nat->Option Value
def xR {α:Type}(R:α->List Value->Prop) (w:World) (S:Nat->Nat->Prop) (c b:Nat):Nat->List α->Prop
 |_,[]=>True
 |o,x::xs=>(∃cs,cs.length=c/\w.rangeAt b o cs/\(∀j,j<c->S b (o+j))/\R x cs)/\xR R w S c b (o+c) xs
def xB (g:Gh):List (Nat×Nat)->List Value->Prop
 |[],vs=>vs=[]
 |(i,o)::l,vs=> ∃p vs',g.J i=some p/\vs= .pointer (some ⟨p.1,p.2+o,none⟩)::vs'/\xB g l vs'
def OH (g:Gh):Option (Nat×Nat)->List Value->Prop
 |none,cs=>cs=[.pointer none]
 |some (i,o),cs=> ∃p,g.J i=some p/\cs=[.pointer (some ⟨p.1,p.2+o,none⟩)]
def OI (g:Gh):Option (Nat×List (Nat×Nat))->List Value->Prop
 |none,cs=>cs=[.nilFunc]
 |some (f,l),cs=> ∃vs,xB g l vs/\cs=[.func (.func f) #[] vs.toArray]
def LL (g:Gh):Option Nat->List Value->Prop
 |none,cs=>cs=[.map none]
 |some i,cs=> ∃p,g.J i=some p/\cs=[.map (some p.1)]
def YF (k:Option (TypeId×Nat)) (o:Nat):Prop:=o=0/\∃e,XO e=true/\k=some (e,2)
def HI (g:Gh):Option (Nat×Nat)->List Value->Prop
 |none,cs=>cs=[.slice none 0 0]
 |some (k,n),cs=> ∃v,g.cur k n=some v/\cs=[v]/\((v= .slice none 0 0/\n=0)\/∃b cap,v= .slice (some ⟨b,0,none⟩) n cap/\n<=cap)
def OJ (g:Gh):Option (Nat×Nat)->List Value->Prop
 |none,cs=>cs=[.pointer none]
 |some (i,o),cs=> ∃p,g.J i=some p/\YF p.3 (p.2+o)/\(cs=[.pointer none]\/cs=[.pointer (some ⟨p.1,p.2+o,none⟩)])
def a9L:Option Nat->List Value->Prop
 |none,cs=>cs=[.nilFunc]
 |some f,cs=>cs=[.func (.func f) #[] #[]]
def Rd (g:Gh) (w:World):(t:Ty)->t.den->List Value->Prop
 | .bool,x,cs=>cs=[.bool x]
 | .int k,n,cs=>cs=[.int k n]
 | .str,l,cs=>cs=[.string ⟨List.toArray l⟩]
 | .list t,l,cs=> ∃a cap,cs=[.slice a (List.length l) cap]/\List.length l<=cap/\(l=[]\/∃b o,a=some ⟨b,o,none⟩/\xR (Rd g w t) w g.S t.cells b o l)
 | .unit,_,cs=>cs=[]
 | .pair s t,x,cs=> ∃c1 c2,cs=c1++c2/\Rd g w s x.1 c1/\Rd g w t x.2 c2
 | .ref,x,cs=>OH g x cs
 | .clo,x,cs=>OI g x cs
 | .mp,x,cs=>LL g x cs
 | .rl _ _,x,cs=>HI g x cs
 | .fn,x,cs=>a9L x cs
 | .mref,x,cs=>OJ g x cs
def sE (g:Gh) (w:World) (t:Ty) (x:t.den) (v:Value):Prop:=
 (t.isRow=true/\∃cs:List Value,v= .agg cs.toArray/\Rd g w t x cs)\/(t.isRow=false/\Rd g w t x [v])
def wR:Ty->List Value->Prop
 | .list _,cs=>cs=[.slice none 0 0]
 | .pair a b,cs=> ∃c1 c2,cs=c1++c2/\c1.length=a.cells/\wR a c1/\wR b c2
 |_,_=>True
def CP (g:Gh) (t:Ty) (x:t.den) (v:Value):Option Nat->Prop
 |none=>True
 |some k=>match t,x with
  | .list _,l=>g.cur k (List.length l)=some v
  | .pair a b,_=>wR (.pair a b) v.cells.toList
  |_,_=>False
def LM (g:Gh) (w:World):List ((Σ t:Ty,t.den)×Option Nat)->List Value->Prop
 |[],vs=>vs=[]
 |(⟨t,x⟩,k)::l,vs=> ∃v vs',vs=v::vs'/\sE g w t x v/\CP g t x v k/\LM g w l vs'
def zK (g:Gh) (w:World):DV->Value->Prop
 | .any,_=>True
 | .nilS,v=>v= .slice none 0 0
 | .val t x,v=>sE g w t x v
 | .at t x,v=> ∃b o cs,v= .pointer (some ⟨b,o,none⟩)/\w.rangeAt b o cs/\(∀j,j<t.cells->g.S b (o+j))/\Rd g w t x cs
 | .tup l,v=> ∃vs:List Value,v= .tuple vs.toArray/\LM g w l vs
 | .cond p d,v=>(p=true->zK g w d v)/\(p=false->v=undef)
 | .flag p q,v=> ∃b,v= .bool b/\(b=true->p)/\(b=false->q)
 | .own k n,v=>g.cur k n=some v/\((v= .slice none 0 0/\n=0)\/∃b cap,v= .slice (some ⟨b,0,none⟩) n cap/\n<=cap)
 | .nxt b p c,v=>(b=true->v= .tuple #[.bool true,.int .i64 p,.int .i32 c])/\(b=false->v= .tuple #[.bool false])
 | .elt k n c i o,v=> ∃b cap,g.cur k n=some (.slice (some ⟨b,0,none⟩) n cap)/\0<=i/\i<(n:Int)/\v= .pointer (some ⟨b,i.toNat*c+o,none⟩)
def r5 (g:Gh) (w:World) (s:pD) (v:Value):Prop:=
 zK g w s.1 v/\match s with
  |(_,none)=>True
  |(.val t x,some k)=>CP g t x v (some k)
  |(_,some _)=>False
structure Le (g:Gh) (w:World) (g':Gh) (w':World):Prop where
 S: ∀b o,g.S b o->g'.S b o
 cell: ∀b o,g.S b o->w'.cell? ⟨b,o,none⟩=w.cell? ⟨b,o,none⟩
 J: ∀i p,g.J i=some p->g'.J i=some p
 cur: ∀k n v,g.cur k n=some v->g'.cur k n=some v
theorem Le.refl (g:Gh) (w:World):Le g w g w:=⟨fun _ _ h=>h,fun _ _ _=>rfl,fun _ _ h=>h,fun _ _ _ h=>h⟩
theorem Le.trans {g g' g'':Gh}{w w' w'':World}(h:Le g w g' w') (k:Le g' w' g'' w''):Le g w g'' w'':=
 ⟨fun b o x=>k.S b o (h.S b o x),fun b o x=>(k.cell b o (h.S b o x)).trans (h.cell b o x),fun i p x=>k.J i p (h.J i p x),fun i n v x=>k.cur i n v (h.cur i n v x)⟩
theorem YG {g g':Gh}(hJ: ∀i p,g.J i=some p->g'.J i=some p): ∀{l:List (Nat×Nat)}{vs:List Value},xB g l vs->xB g' l vs
 |[],_,h=>h
 |(_,_)::_,_,⟨p,vs',h1,h2,h3⟩=>⟨p,vs',hJ _ _ h1,h2,YG hJ h3⟩
theorem aJa {g g':Gh}(hJ: ∀i p,g.J i=some p->g'.J i=some p): ∀{x:Option (Nat×Nat)}{cs:List Value},OH g x cs->OH g' x cs
 |none,_,h=>h
 |some (_,_),_,⟨p,h1,h2⟩=>⟨p,hJ _ _ h1,h2⟩
theorem aJb {g g':Gh}(hJ: ∀i p,g.J i=some p->g'.J i=some p): ∀{x:Option (Nat×List (Nat×Nat))}{cs:List Value},OI g x cs->OI g' x cs
 |none,_,h=>h
 |some (_,_),_,⟨vs,h1,h2⟩=>⟨vs,YG hJ h1,h2⟩
theorem aJc {g g':Gh}(hJ: ∀i p,g.J i=some p->g'.J i=some p): ∀{x:Option Nat}{cs:List Value},LL g x cs->LL g' x cs
 |none,_,h=>h
 |some _,_,⟨p,h1,h2⟩=>⟨p,hJ _ _ h1,h2⟩
theorem aJd {g g':Gh}(hc: ∀k n v,g.cur k n=some v->g'.cur k n=some v): ∀{x:Option (Nat×Nat)}{cs:List Value},HI g x cs->HI g' x cs
 |none,_,h=>h
 |some (_,_),_,⟨v,h1,h2⟩=>⟨v,hc _ _ _ h1,h2⟩
theorem aJe {g g':Gh}(hJ: ∀i p,g.J i=some p->g'.J i=some p): ∀{x:Option (Nat×Nat)}{cs:List Value},OJ g x cs->OJ g' x cs
 |none,_,h=>h
 |some (_,_),_,⟨p,h1,h2⟩=>⟨p,hJ _ _ h1,h2⟩
theorem YH {α:Type}{R R':α->List Value->Prop}{w w':World}{S S':Nat->Nat->Prop}{c b:Nat}(hR: ∀x cs,R x cs->R' x cs) (hS: ∀o,S b o->S' b o)
  (hc: ∀o,S b o->w'.cell? ⟨b,o,none⟩=w.cell? ⟨b,o,none⟩): ∀{l:List α}{o:Nat},xR R w S c b o l->xR R' w' S' c b o l
 |[],_,_=>trivial
 |_::_,o,⟨⟨cs,h1,h2,h3,h4⟩,h5⟩=>⟨⟨cs,h1,fun j v hv=>by
   have hj:j<c:=h1▸(aTU.1 hv).1;rw[hc _ (h3 j hj)];exact h2 j v hv,fun j hj=>hS _ (h3 j hj),hR _ _ h4⟩,YH hR hS hc h5⟩
theorem wS {g g':Gh}{w w':World}(h:Le g w g' w'): ∀{t:Ty}{x:t.den}{cs:List Value},Rd g w t x cs->Rd g' w' t x cs
 | .bool,_,_,r=>r
 | .int _,_,_,r=>r
 | .str,_,_,r=>r
 | .unit,_,_,r=>r
 | .ref,_,_,r=>aJa h.J r
 | .clo,_,_,r=>aJb h.J r
 | .mp,_,_,r=>aJc h.J r
 | .rl _ _,_,_,r=>aJd h.cur r
 | .fn,_,_,r=>r
 | .mref,_,_,r=>aJe h.J r
 | .pair _ _,_,_,⟨c1,c2,e,r1,r2⟩=>⟨c1,c2,e,wS h r1,wS h r2⟩
 | .list _,_,_,⟨a,cap,e,hle,hl⟩=>⟨a,cap,e,hle,hl.imp id fun⟨b,o,ea,hr⟩=>⟨b,o,ea,YH (fun _ _=>wS h) (fun _=>h.S _ _) (fun _=>h.cell _ _) hr⟩⟩
theorem s0 {g:Gh}{w:World}: ∀{t:Ty}{x:t.den}{cs:List Value},Rd g w t x cs->cs.length=t.cells
 | .bool,_,_,r=>by cases r;rfl
 | .int _,_,_,r=>by cases r;rfl
 | .str,_,_,r=>by cases r;rfl
 | .unit,_,_,r=>by cases r;rfl
 | .ref,none,_,r=>by cases r;rfl
 | .ref,some (_,_),_,⟨_,_,e⟩=>by cases e;rfl
 | .clo,none,_,r=>by cases r;rfl
 | .clo,some (_,_),_,⟨_,_,e⟩=>by cases e;rfl
 | .mp,none,_,r=>by cases r;rfl
 | .mp,some _,_,⟨_,_,e⟩=>by cases e;rfl
 | .fn,none,_,r=>by cases r;rfl
 | .fn,some _,_,r=>by cases r;rfl
 | .rl _ _,none,_,r=>by cases r;rfl
 | .rl _ _,some (_,_),_,⟨_,_,e,_⟩=>by cases e;rfl
 | .mref,none,_,r=>by cases r;rfl
 | .mref,some (_,_),_,⟨_,_,_,e⟩=>by rcases e with e|e<;>(cases e;rfl)
 | .pair _ _,_,_,⟨c1,c2,e,r1,r2⟩=>by rw[e,aTH,s0 r1,s0 r2];rfl
 | .list _,_,_,⟨_,_,e,_,_⟩=>by cases e;rfl
theorem TB {g g':Gh}{w w':World}(h:Le g w g' w') {t:Ty}{x:t.den}{v:Value}(r:sE g w t x v):sE g' w' t x v:=
 r.imp (fun⟨a,cs,e,q⟩=>⟨a,cs,e,wS h q⟩) (fun⟨a,q⟩=>⟨a,wS h q⟩)
theorem a9M {g g':Gh}{w w':World}(h:Le g w g' w') {t:Ty}{x:t.den}{v:Value}{k:Option Nat}(r:CP g t x v k):CP g' t x v k:=by
 cases k with
 |none=>trivial
 |some k=>
  cases t with
  |list u=>exact h.cur _ _ _ r
  |pair a b=>exact r
  |_=>exact r.elim
theorem a9N {g g':Gh}{w w':World}(h:Le g w g' w'): ∀{l:List ((Σ t:Ty,t.den)×Option Nat)}{vs:List Value},LM g w l vs->LM g' w' l vs
 |[],_,r=>r
 |(⟨_,_⟩,_)::_,_,⟨v,vs',e,r1,r2,r3⟩=>⟨v,vs',e,TB h r1,a9M h r2,a9N h r3⟩
theorem a9O {g g':Gh}{w w':World}(h:Le g w g' w'): ∀{d:DV}{v:Value},zK g w d v->zK g' w' d v
 | .any,_,r=>r
 | .nilS,_,r=>r
 | .val _ _,_,r=>TB h r
 | .at t _,_,⟨b,o,cs,e,h1,h2,h3⟩=>⟨b,o,cs,e,fun j v hv=>by
   by_cases hj:j<t.cells
   ·rw[h.cell _ _ (h2 j hj)];exact h1 j v hv
   ·exact absurd (aTU.1 hv).1 (by rw[s0 h3];exact hj),fun j hj=>h.S _ _ (h2 j hj),wS h h3⟩
 | .tup _,_,⟨vs,e,r⟩=>⟨vs,e,a9N h r⟩
 | .cond _ _,_,⟨r1,r2⟩=>⟨fun p=>a9O h (r1 p),r2⟩
 | .flag _ _,_,r=>r
 | .own _ _,_,⟨h1,h2⟩=>⟨h.cur _ _ _ h1,h2⟩
 | .nxt _ _ _,_,r=>r
 | .elt _ _ _ _ _,_,⟨b,cap,h1,h2⟩=>⟨b,cap,h.cur _ _ _ h1,h2⟩
theorem B4 {g g':Gh}{w w':World}(h:Le g w g' w') {s:pD}{v:Value}(r:r5 g w s v):r5 g' w' s v:=by
 obtain⟨d,k⟩:=s;refine⟨a9O h r.1,?_⟩;have r2:=r.2;cases k with
 |none=>trivial
 |some k=>
  cases d with
  |val t x=>exact a9M h r2
  |_=>exact r2.elim
theorem B5 {g:Gh}{w:World}: ∀{t:Ty}{x:t.den}{cs:List Value},Rd g w t x cs->∀v∈cs,v.oneCell'=true
 | .bool,_,_,r=>by cases r;intro v hv;simp at hv;subst hv;rfl
 | .int _,_,_,r=>by cases r;intro v hv;simp at hv;subst hv;rfl
 | .str,_,_,r=>by cases r;intro v hv;simp at hv;subst hv;rfl
 | .unit,_,_,r=>by cases r;intro v hv;simp at hv
 | .ref,none,_,r=>by cases r;intro v hv;simp at hv;subst hv;rfl
 | .ref,some (_,_),_,⟨_,_,e⟩=>by cases e;intro v hv;simp at hv;subst hv;rfl
 | .clo,none,_,r=>by cases r;intro v hv;simp at hv;subst hv;rfl
 | .clo,some (_,_),_,⟨_,_,e⟩=>by cases e;intro v hv;simp at hv;subst hv;rfl
 | .mp,none,_,r=>by cases r;intro v hv;simp at hv;subst hv;rfl
 | .mp,some _,_,⟨_,_,e⟩=>by cases e;intro v hv;simp at hv;subst hv;rfl
 | .fn,none,_,r=>by cases r;intro v hv;simp at hv;subst hv;rfl
 | .fn,some _,_,r=>by cases r;intro v hv;simp at hv;subst hv;rfl
 | .rl _ _,none,_,r=>by cases r;intro v hv;simp at hv;subst hv;rfl
 | .rl _ _,some (_,_),_,⟨_,_,e,hs⟩=>by
  cases e;intro v hv;simp at hv;subst hv;rcases hs with⟨rfl,_⟩ |⟨_,_,rfl,_⟩<;>rfl
 | .mref,none,_,r=>by cases r;intro v hv;simp at hv;subst hv;rfl
 | .mref,some (_,_),_,⟨_,_,_,e⟩=>by rcases e with e|e<;>(cases e;intro v hv;simp at hv;subst hv;rfl)
 | .pair _ _,_,_,⟨c1,c2,e,r1,r2⟩=>by
  subst e;intro v hv;rcases aUz.1 hv with h|h
  ·exact B5 r1 v h
  ·exact B5 r2 v h
 | .list _,_,_,⟨_,_,e,_,_⟩=>by cases e;intro v hv;simp at hv;subst hv;rfl
theorem uV {g g':Gh}{w:World}(hS:g'.S=g.S): ∀{t:Ty}{x:t.den}{cs:List Value},t.pure=true->Rd g w t x cs->Rd g' w t x cs
 | .bool,_,_,_,r=>r
 | .int _,_,_,_,r=>r
 | .str,_,_,_,r=>r
 | .unit,_,_,_,r=>r
 | .ref,_,_,h,_=>by simp [Ty.pure] at h
 | .clo,_,_,h,_=>by simp [Ty.pure] at h
 | .mp,_,_,h,_=>by simp [Ty.pure] at h
 | .rl _ _,_,_,h,_=>by simp [Ty.pure] at h
 | .fn,_,_,_,r=>r
 | .mref,_,_,h,_=>by simp [Ty.pure] at h
 | .pair _ _,_,_,h,⟨c1,c2,e,r1,r2⟩=>by
  simp only[Ty.pure,aTL] at h;exact⟨c1,c2,e,uV hS h.1 r1,uV hS h.2 r2⟩
 | .list _,_,_,h,⟨a,cap,e,hle,hl⟩=>by
  simp only[Ty.pure] at h;exact⟨a,cap,e,hle,hl.imp id fun⟨b,o,ea,hr⟩=>⟨b,o,ea,YH (fun _ _ r=>uV hS h r) (fun _ q=>by rw[hS];exact q) (fun _ _=>rfl) hr⟩⟩
def DD (g:Gh) (w:World) (k v:Ty):List (k.den×v.den)->List MapEntry->Prop
 |[],es=>es=[]
 |(a,b)::l,es=> ∃e es',es=e::es'/\sE g w k a e.key/\sE g w v b e.val/\DD g w k v l es'
theorem YI {g g':Gh}{w w':World}(h:Le g w g' w') {k v:Ty}: ∀{l:List (k.den×v.den)}{es:List MapEntry},DD g w k v l es->DD g' w' k v l es
 |[],_,r=>r
 |_::_,_,⟨e,es',h1,h2,h3,h4⟩=>⟨e,es',h1,TB h h2,TB h h3,YI h h4⟩
theorem a9P {g g':Gh}{w:World}(hS:g'.S=g.S) {t:Ty}{x:t.den}{v:Value}(hp:t.pure=true) (r:sE g w t x v):sE g' w t x v:=
 r.imp (fun⟨a,cs,e,q⟩=>⟨a,cs,e,uV hS hp q⟩) (fun⟨a,q⟩=>⟨a,uV hS hp q⟩)
theorem OK {g g':Gh}{w:World}(hS:g'.S=g.S) {k v:Ty}(hk:k.pure=true) (hv:v.pure=true): ∀{l:List (k.den×v.den)}{es:List MapEntry},DD g w k v l es->DD g' w k v l es
 |[],_,r=>r
 |_::_,_,⟨e,es',h1,h2,h3,h4⟩=>⟨e,es',h1,a9P hS hk h2,a9P hS hv h3,OK hS hk hv h4⟩
def sI {α:Type}(R:α->List Value->Prop) (c:Nat):List α->List Value->Prop
 |[],cs=>cs=[]
 |x::xs,cs=> ∃c1 c2,cs=c1++c2/\c1.length=c/\R x c1/\sI R c xs c2
theorem HJ {α:Type}{R:α->List Value->Prop}{c:Nat}: ∀{l:List α}{cs:List Value},sI R c l cs->cs.length=l.length*c
 |[],_,h=>by rw[h];simp
 |_::l,_,⟨c1,c2,e,h1,_,h3⟩=>by rw[e,aTH,h1,HJ h3,aTJ,aUJ];omega
theorem OL {α:Type}{R:α->List Value->Prop}{c:Nat}: ∀{l m:List α}{cs ds:List Value},sI R c l cs->sI R c m ds->sI R c (l++m) (cs++ds)
 |[],_,_,_,h,k=>by rw[h];exact k
 |_::_,_,_,_,⟨c1,c2,e,h1,h2,h3⟩,k=>⟨c1,c2++_,by rw[e,aTN],h1,h2,OL h3 k⟩
theorem CQ {α:Type}{R R':α->List Value->Prop}{c:Nat}(hR: ∀x cs,R x cs->R' x cs): ∀{l:List α}{cs:List Value},sI R c l cs->sI R' c l cs
 |[],_,h=>h
 |_::_,_,⟨c1,c2,e,h1,h2,h3⟩=>⟨c1,c2,e,h1,hR _ _ h2,CQ hR h3⟩
theorem EQ {g:Gh}{w:World}{u:Ty}: ∀{t:Ty}{x:t.den}{cs:List Value}{o:Nat}{y:u.den},Rd g w t x cs->qK u t x o=some y->
  ∃c1 c2 c3,cs=c1++c2++c3/\c1.length=o/\Rd g w u y c2:=by
 intro t
 induction t with
 |pair a b iha ihb=>
  intro x cs o y r h;obtain⟨c1,c2,e,r1,r2⟩:=r;have key: ∀o,(if o<a.cells then qK u a x.1 o else qK u b x.2 (o-a.cells))=some y->∃d1 d2 d3,cs=d1++d2++d3/\d1.length=o/\Rd g w u y d2:=by
   intro o h;by_cases ho:o<a.cells
   ·rw[aTD ho] at h;obtain⟨d1,d2,d3,e',hl,hr⟩:=iha r1 h;exact⟨d1,d2,d3++c2,by rw[e,e'];simp,hl,hr⟩
   ·rw[aTG ho] at h;obtain⟨d1,d2,d3,e',hl,hr⟩:=ihb r2 h;refine⟨c1++d1,d2,d3,by rw[e,e'];simp,?_,hr⟩;rw[aTH,hl,s0 r1];omega
  cases o with
  |zero=>
   unfold qK at h;by_cases hu:Ty.pair a b=u
   ·rw[aVS hu] at h;subst hu;simp only[tI,aTE] at h;subst h;exact⟨[],cs,[],by simp,rfl,⟨c1,c2,e,r1,r2⟩⟩
   ·rw[aVo hu] at h;refine key 0 ?_;simpa using h
  |succ o=>exact key (o+1) (by simpa[qK] using h)
 |_=>
  intro x cs o y r h;cases o with
  |zero=>
   unfold qK at h;split at h
   ·rename_i hu;subst hu;simp only[tI,aTE] at h
    try subst h
    exact⟨[],cs,[],by simp,rfl,r⟩
   ·simp at h
  |succ o=>simp [qK] at h
theorem TC {g:Gh}{w:World}{u:Ty}{y:u.den}{cy:List Value}(hy:Rd g w u y cy): ∀{t:Ty}{x z:t.den}{cs:List Value}{o:Nat},Rd g w t x cs->rX u y t x o=some z->
  ∃c1 c2 c3,cs=c1++c2++c3/\c1.length=o/\c2.length=u.cells/\Rd g w t z (c1++cy++c3):=by
 intro t
 induction t with
 |pair a b iha ihb=>
  intro x z cs o r h;obtain⟨c1,c2,e,r1,r2⟩:=r;have key: ∀o,(if o<a.cells then(rX u y a x.1 o).map (fun q=>(q,x.2)) else(rX u y b x.2 (o-a.cells)).map (fun q=>(x.1,q)))=some z->
    ∃d1 d2 d3,cs=d1++d2++d3/\d1.length=o/\d2.length=u.cells/\Rd g w (.pair a b) z (d1++cy++d3):=by
   intro o h;by_cases ho:o<a.cells
   ·rw[aTD ho] at h;obtain⟨q,hq,rfl⟩:=aTT.1 h;obtain⟨d1,d2,d3,e',hl,hl2,hr⟩:=iha r1 hq;exact⟨d1,d2,d3++c2,by rw[e,e'];simp,hl,hl2,⟨d1++cy++d3,c2,by simp,hr,r2⟩⟩
   ·rw[aTG ho] at h;obtain⟨q,hq,rfl⟩:=aTT.1 h;obtain⟨d1,d2,d3,e',hl,hl2,hr⟩:=ihb r2 hq;refine⟨c1++d1,d2,d3,by rw[e,e'];simp,?_,hl2,⟨c1,d1++cy++d3,by simp,r1,hr⟩⟩;rw[aTH,hl,s0 r1];omega
  cases o with
  |zero=>
   unfold rX at h;by_cases hu:u=Ty.pair a b
   ·rw[aVS hu] at h;subst hu;simp only[tI,aTE] at h;subst h;exact⟨[],cs,[],by simp,rfl,s0 (t:= .pair a b) (x:=x) ⟨c1,c2,e,r1,r2⟩,by simpa using hy⟩
   ·rw[aVo hu] at h;refine key 0 ?_;simpa using h
  |succ o=>exact key (o+1) (by simpa[rX] using h)
 |_=>
  intro x z cs o r h;cases o with
  |zero=>
   unfold rX at h;split at h
   ·rename_i hu;subst hu;simp only[tI,aTE] at h
    try subst h
    exact⟨[],cs,[],by simp,rfl,s0 r,by simpa using hy⟩
   ·simp at h
  |succ o=>simp [rX] at h
def FW (g:Gh) (t:Ty) (x:t.den) (cs:List Value) (toks:List (Nat×Nat)):Prop:=
 ∀o k,(o,k)∈toks->∃(u:Ty) (l:List u.den) (v:Value),qK (.list u) t x o=some l/\cs[o]? =some v/\g.cur k l.length=some v
def aJf (w:World) (p:Pl) (n:Nat):Prop:=w.there p.1 p.2 n/\(0<n->∀s,p.3=some s->w.shape? p.1=some s)
theorem DE {w:World}{b:Nat}{s:TypeId×Nat}(h:w.shape? b=some s):b<w.heap.size:=by
 unfold World.shape? at h;cases hb:w.heap[b]? with
 |none=>rw[hb] at h;cases h
 |some x=>exact(aT3.1 hb).1
theorem DF {w w':World}{b:Nat}(h:w'.heap[b]? =w.heap[b]?):w'.shape? b=w.shape? b:=by
 unfold World.shape?;rw[h]
def zL (g:Gh) (w:World) (i:Nat):pC->Prop
 | .cells t x toks=> ∃p cs,g.J i=some p/\Rd g w t x cs/\w.rangeAt p.1 p.2 cs/\aJf w p t.cells/\(∀j,j<t.cells->¬g.S p.1 (p.2+j))/\FW g t x cs toks
 | .grow e c n=> ∃v xs,g.cur i n=some v/\w.ownsRow 0 e c v n xs/\(∀m,n<m->g.cur i m=none)/\∀b,v.ownBlock=some b->∀o,g.S b o->o<n*c
 | .row e t l n=>l.length=n/\∃v xs,g.cur i n=some v/\w.ownsRow 0 e t.cells v n xs/\sI (Rd g w t) t.cells l xs/\(∀m,n<m->g.cur i m=none)/\∀b,v.ownBlock=some b->∀o,¬g.S b o
 | .map k v l=> ∃p es clock,g.J i=some p/\p.2=0/\w.heap[p.1]? =some (.map es clock)/\DD g w k v l es.toList/\∀o,¬g.S p.1 o
 | .iter s n=> ∃p,g.J i=some p/\p.2=0/\w.heap[p.1]? =some (.stringIter ⟨s.toArray⟩ n)/\∀o,¬g.S p.1 o
 | .dead=>True
def rJ (g:Gh) (i:Nat):pC->Nat->Nat->Prop
 | .cells t _ _,b,o=> ∃p,g.J i=some p/\b=p.1/\p.2<=o/\o<p.2+t.cells
 | .grow _ _ n,b,_=> ∃v,g.cur i n=some v/\v.ownBlock=some b
 | .row _ _ _ n,b,_=> ∃v,g.cur i n=some v/\v.ownBlock=some b
 | .map _ _ _,b,_=> ∃p,g.J i=some p/\b=p.1
 | .iter _ _,b,_=> ∃p,g.J i=some p/\b=p.1
 | .dead,_,_=>False
structure rT (g:Gh) (w:World) (H:rI):Prop where
 blk: ∀i b,pG H i=some b->zL g w i b
 dis: ∀i j bi bj b o,i≠j->pG H i=some bi->pG H j=some bj->rJ g i bi b o->rJ g j bj b o->False
 sl: ∀b o,g.S b o->b<w.heap.size
 tab:J3 w/\∀i blk b o,pG H i=some blk->rJ g i blk b o->NG<=b
def s9 (g:Gh) (H:rI) (ids:List Nat) (b o:Nat):Prop:= ∃i blk,i∈ids/\pG H i=some blk/\rJ g i blk b o
structure Fr (A:Nat->Nat->Prop) (w w':World) (S S':Nat->Nat->Prop):Prop where
 os:w'.os=w.os
 tape:w'.tape=w.tape
 output:w'.output=w.output
 size:w.heap.size<=w'.heap.size
 blk: ∀b,b<w.heap.size->(∀o,¬A b o)->w'.heap[b]? =w.heap[b]?
 cell: ∀b o,b<w.heap.size->¬A b o->w'.cell? ⟨b,o,none⟩=w.cell? ⟨b,o,none⟩/\w'.frozen? ⟨b,o,none⟩=w.frozen? ⟨b,o,none⟩
 new: ∀b o,S' b o->S b o\/w.heap.size<=b\/A b o
 shape: ∀b s,w.shape? b=some s->w'.shape? b=some s\/∀o,A b o
theorem Fr.refl (A:Nat->Nat->Prop) (w:World) (S:Nat->Nat->Prop):Fr A w w S S:=
 ⟨rfl,rfl,rfl,aTZ _,fun _ _ _=>rfl,fun _ _ _ _=>⟨rfl,rfl⟩,fun _ _ h=> .inl h,fun _ _ h=> .inl h⟩
theorem Fr.trans {A B:Nat->Nat->Prop}{w w' w'':World}{S S' S'':Nat->Nat->Prop}(h:Fr A w w' S S') (k:Fr B w' w'' S' S'') (hB: ∀b o,B b o->w.heap.size<=b\/A b o):Fr A w w'' S S'':=by
 refine⟨k.os.trans h.os,k.tape.trans h.tape,k.output.trans h.output,aUE h.size k.size,fun b hb hA=> ?_,fun b o hb hA=> ?_,fun b o hs=> ?_,fun b s hs=> ?_⟩
 ·refine(k.blk b (aUj hb h.size) fun o ho=> ?_).trans (h.blk b hb hA);rcases hB b o ho with h1|h1
  ·omega
  ·exact hA o h1
 ·have h1:=h.cell b o hb hA;have h2:=k.cell b o (aUj hb h.size) (fun ho=>by
   rcases hB b o ho with h1|h1
   ·omega
   ·exact hA h1)
  exact⟨h2.1.trans h1.1,h2.2.trans h1.2⟩
 ·rcases k.new b o hs with h1|h1|h1
  ·exact h.new b o h1
  ·exact .inr (.inl (aUE h.size h1))
  ·exact .inr (hB b o h1)
 ·rcases h.shape b s hs with h1|h1
  ·rcases k.shape b s h1 with h2|h2
   ·exact .inl h2
   ·refine .inr fun o=>(hB b o (h2 o)).resolve_left ?_;have:=DE hs;omega
  ·exact .inr h1
structure rG (g:Gh) (w:World) (H:rI) (e:pQ) (g':Gh) (w':World) (v:Value):Prop where
 le:Le g w g' w'
 slot:r5 g' w' e.slot v
 heap:rT g' w' (pX e.upd H)
 fr:Fr (s9 g H (pH e.upd)) w w' g.S g'.S
 perm: ∀i blk b o,i∈pH e.upd->pG (pX e.upd H) i=some blk->rJ g' i blk b o->w.heap.size<=b\/s9 g H (pH e.upd) b o
 gho: ∀i,i∉pH e.upd->g'.J i=g.J i/\g'.cur i=g.cur i
 ty: ∀i u y us,pG (pX e.upd H) i=some (.cells u y us)->(∃x ts,pG H i=some (.cells u x ts))\/(g.J i=none/\∀n,g.cur i n=none)
theorem OM {w:World}{B:Nat}{e:TypeId}{c n:Nat}{v:Value}{xs:List Value}(h:w.ownsRow B e c v n xs) {b:Nat}(hb:v.ownBlock=some b):b<w.heap.size:=(h.lt b hb).2
theorem TD {w:World}{b o:Nat}{v:Value}(h:w.cell? ⟨b,o,none⟩=some v):b<w.heap.size:=by
 have:=World.block_lt_of_cell? w ⟨b,o,none⟩ h;exact this
theorem ON {g:Gh}{w:World}{i:Nat}{blk:pC}(h:zL g w i blk) {b o:Nat}(ho:rJ g i blk b o):b<w.heap.size:=by
 cases blk with
 |cells t x toks=>
  obtain⟨p,cs,hp,_,_,ht,_⟩:=h;obtain⟨q,hq,rfl,h1,h2⟩:=ho;rw[hp] at hq;obtain rfl:=aTI hq;have:=(ht.1 (o-p.2) (by omega)).1;obtain⟨v,hv⟩:=aTF.1 this;exact TD hv
 |grow e c n=>
  obtain⟨v,xs,hv,hr,_⟩:=h;obtain⟨v',hv',hb⟩:=ho;rw[hv] at hv';obtain rfl:=aTI hv';exact OM hr hb
 |row e t l n=>
  obtain⟨_,v,xs,hv,hr,_⟩:=h;obtain⟨v',hv',hb⟩:=ho;rw[hv] at hv';obtain rfl:=aTI hv';exact OM hr hb
 |map k v l=>
  obtain⟨p,es,cl,hp,_,hh,_,_⟩:=h;obtain⟨q,hq,rfl⟩:=ho;rw[hp] at hq;obtain rfl:=aTI hq;exact(aT3.1 hh).1
 |iter s n=>
  obtain⟨p,hp,_,hh,_⟩:=h;obtain⟨q,hq,rfl⟩:=ho;rw[hp] at hq;obtain rfl:=aTI hq;exact(aT3.1 hh).1
 |dead=>exact ho.elim
theorem a9Q {g g':Gh}(hc: ∀k n v,g.cur k n=some v->g'.cur k n=some v) {t:Ty}{x:t.den}{cs:List Value}{toks:List (Nat×Nat)}(h:FW g t x cs toks):FW g' t x cs toks:=
 fun o k hm=>let ⟨u,l,v,h1,h2,h3⟩:=h o k hm;⟨u,l,v,h1,h2,hc _ _ _ h3⟩
theorem LN {g g':Gh}{w w':World}{i:Nat}{blk:pC}(h:zL g w i blk) (le:Le g w g' w') (hJ:g'.J i=g.J i) (hcur:g'.cur i=g.cur i)
  (hc: ∀b o,rJ g i blk b o->w'.cell? ⟨b,o,none⟩=w.cell? ⟨b,o,none⟩/\w'.frozen? ⟨b,o,none⟩=w.frozen? ⟨b,o,none⟩)
  (hb: ∀b,(∀o,rJ g i blk b o)->w'.heap[b]? =w.heap[b]?) (hS: ∀b o,rJ g i blk b o->g'.S b o->g.S b o) (hsh: ∀b o s,rJ g i blk b o->w.shape? b=some s->w'.shape? b=some s):zL g' w' i blk:=by
 cases blk with
 |cells t x toks=>
  obtain⟨p,cs,hp,hr,hra,ht,hs,htk⟩:=h;have ho: ∀j,j<t.cells->rJ g i (.cells t x toks) p.1 (p.2+j):=fun j hj=>⟨p,hp,rfl,by omega,by omega⟩;refine⟨p,cs,hJ.trans hp,wS le hr,fun j v hv=> ?_,⟨fun j hj=> ?_,fun h0 s hs3=>hsh _ _ _ (ho 0 h0) (ht.2 h0 s hs3)⟩,fun j hj hs'=>hs j hj (hS _ _ (ho j hj) hs'),a9Q le.cur htk⟩
  ·have hj:j<t.cells:=s0 hr▸(aTU.1 hv).1;rw[(hc _ _ (ho j hj)).1];exact hra j v hv
  ·rw[(hc _ _ (ho j hj)).1,(hc _ _ (ho j hj)).2];exact ht.1 j hj
 |grow e c n=>
  obtain⟨v,xs,hv,hr,hn,hs⟩:=h;have hbl: ∀b,v.ownBlock=some b->∀o,rJ g i (.grow e c n) b o:=fun b hb o=>⟨v,hv,hb⟩;refine⟨v,xs,by rw[hcur];exact hv,⟨hr.1,?_⟩,fun m hm=>by rw[hcur];exact hn m hm,fun b hvb o hs'=>hs b hvb o (hS _ _ (hbl b hvb o) hs')⟩;rcases hr.2 with h0|⟨q,cap,cur,e1,e2,e3,e4⟩
  ·exact .inl h0
  ·subst e1;exact .inr ⟨q,cap,cur,rfl,e2,by rw[hb q (hbl q rfl)];exact e3,e4⟩
 |row e t l n=>
  obtain⟨hl,v,xs,hv,hr,hF,hn,hs⟩:=h;have hbl: ∀b,v.ownBlock=some b->∀o,rJ g i (.row e t l n) b o:=fun b hb o=>⟨v,hv,hb⟩;refine⟨hl,v,xs,by rw[hcur];exact hv,⟨hr.1,?_⟩,CQ (fun _ _ h=>wS le h) hF,fun m hm=>by rw[hcur];exact hn m hm,fun b hvb o hs'=>hs b hvb o (hS _ _ (hbl b hvb o) hs')⟩;rcases hr.2 with h0|⟨q,cap,cur,e1,e2,e3,e4⟩
  ·exact .inl h0
  ·subst e1;exact .inr ⟨q,cap,cur,rfl,e2,by rw[hb q (hbl q rfl)];exact e3,e4⟩
 |map k v l=>
  obtain⟨p,es,cl,hp,h0,hh,hM,hs⟩:=h;have hbl: ∀o,rJ g i (.map k v l) p.1 o:=fun o=>⟨p,hp,rfl⟩;exact⟨p,es,cl,hJ.trans hp,h0,(hb _ hbl).trans hh,YI le hM,fun o hs'=>hs o (hS _ _ (hbl o) hs')⟩
 |iter s n=>
  obtain⟨p,hp,h0,hh,hs⟩:=h;have hbl: ∀o,rJ g i (.iter s n) p.1 o:=fun o=>⟨p,hp,rfl⟩;exact⟨p,hJ.trans hp,h0,(hb _ hbl).trans hh,fun o hs'=>hs o (hS _ _ (hbl o) hs')⟩
 |dead=>trivial
theorem yV {g g':Gh}{i:Nat}{blk:pC}(hJ:g'.J i=g.J i) (hcur:g'.cur i=g.cur i) {b o:Nat}:rJ g' i blk b o↔rJ g i blk b o:=by
 cases blk<;>simp [rJ,hJ,hcur]
theorem C0 {i:Nat}: ∀{u:List (Nat×pC)}{H:rI},i∉pH u->pG (pX u H) i=pG H i
 |[],_,_=>rfl
 |(k,b)::r,H,h=>by
  simp only[pH,aTW,not_or] at h;simp only[pX,pG];rw[aTG (Ne.symm h.1)];exact C0 h.2
theorem rT.upd {g g':Gh}{w w':World}{H:rI}{u:List (Nat×pC)}(h:rT g w H) (le:Le g w g' w') (fr:Fr (s9 g H (pH u)) w w' g.S g'.S)
  (perm: ∀i blk b o,i∈pH u->pG (pX u H) i=some blk->rJ g' i blk b o->w.heap.size<=b\/s9 g H (pH u) b o)
  (gho: ∀i,i∉pH u->g'.J i=g.J i/\g'.cur i=g.cur i)
  (hb: ∀i blk,i∈pH u->pG (pX u H) i=some blk->zL g' w' i blk)
  (hd: ∀i j bi bj b o,i∈pH u->j∈pH u->i≠j->pG (pX u H) i=some bi->pG (pX u H) j=some bj->rJ g' i bi b o->rJ g' j bj b o->False)
  (sl: ∀b o,g'.S b o->b<w'.heap.size):rT g' w' (pX u H):=by
 have out: ∀i blk,i∉pH u->pG H i=some blk->∀b o,rJ g i blk b o->b<w.heap.size/\¬s9 g H (pH u) b o:=fun i blk hi hg b o ho=>
  ⟨ON (h.blk i blk hg) ho,fun⟨j,bj,hj,hgj,hoj⟩=>h.dis i j blk bj b o (fun e=>hi (e▸hj)) hg hgj ho hoj⟩
 refine⟨fun i blk hg=> ?_,fun i j bi bj b o hij hgi hgj hoi hoj=> ?_,sl,NX h.tab.1 fr.size (fun b hb=>fr.blk b (aUj hb h.tab.1.1) (fun o ⟨j,bj,_,k1,k2⟩=>Nat.not_lt.2 (h.tab.2 j bj b o k1 k2) hb)),fun i blk b o hg ho=> ?_⟩
 rotate_right
 ·by_cases hi:i∈pH u
  ·rcases perm i blk b o hi hg ho with h1|⟨j,bj,_,k1,k2⟩
   ·exact aUE h.tab.1.1 h1
   ·exact h.tab.2 j bj b o k1 k2
  ·exact h.tab.2 i blk b o ((C0 hi).symm.trans hg) ((yV (gho i hi).1 (gho i hi).2).1 ho)
 ·by_cases hi:i∈pH u
  ·exact hb i blk hi hg
  ·have hg0:=(C0 hi).symm.trans hg;have hk:=gho i hi;refine LN (h.blk i blk hg0) le hk.1 hk.2 (fun b o ho=> ?_) (fun b ho=> ?_) (fun b o ho hs=> ?_) (fun b o s ho hs=>(fr.shape b s hs).resolve_right fun h1=>(out i blk hi hg0 b o ho).2 (h1 o))
   ·exact fr.cell b o (out i blk hi hg0 b o ho).1 (out i blk hi hg0 b o ho).2
   ·exact fr.blk b (out i blk hi hg0 b 0 (ho 0)).1 (fun o=>(out i blk hi hg0 b o (ho o)).2)
   ·rcases fr.new b o hs with h1|h1|h1
    ·exact h1
    ·have:=(out i blk hi hg0 b o ho).1;omega
    ·exact absurd h1 (out i blk hi hg0 b o ho).2
 ·by_cases hi:i∈pH u<;>by_cases hj:j∈pH u
  ·exact hd i j bi bj b o hi hj hij hgi hgj hoi hoj
  ·have hg0:=(C0 hj).symm.trans hgj;have ho0:=(yV (gho j hj).1 (gho j hj).2).1 hoj;rcases perm i bi b o hi hgi hoi with h1|h1
   ·have:=(out j bj hj hg0 b o ho0).1;omega
   ·exact(out j bj hj hg0 b o ho0).2 h1
  ·have hg0:=(C0 hi).symm.trans hgi;have ho0:=(yV (gho i hi).1 (gho i hi).2).1 hoi;rcases perm j bj b o hj hgj hoj with h1|h1
   ·have:=(out i bi hi hg0 b o ho0).1;omega
   ·exact(out i bi hi hg0 b o ho0).2 h1
  ·exact h.dis i j bi bj b o hij ((C0 hi).symm.trans hgi) ((C0 hj).symm.trans hgj) ((yV (gho i hi).1 (gho i hi).2).1 hoi) ((yV (gho j hj).1 (gho j hj).2).1 hoj)
theorem rG.pure {g:Gh}{w:World}{H:rI}{side:List Prop}{s:pD}{rds:List Nat}{v:Value}(h:rT g w H) (hs:r5 g w s v):rG g w H ⟨side,s,[],rds⟩ g w v:=
 ⟨.refl _ _,hs,h,.refl _ _ _,fun _ _ _ _ hi=>(by cases hi),fun _ _=>⟨rfl,rfl⟩,fun _ _ y us h=> .inl ⟨y,us,h⟩⟩
def sV:Ty->List Value
 | .bool=>[.bool false]
 | .int k=>[.int k 0]
 | .str=>[.string ⟨#[]⟩]
 | .list _=>[.slice none 0 0]
 | .unit=>[]
 | .pair a b=>sV a++sV b
 | .ref=>[.pointer none]
 | .clo=>[.nilFunc]
 | .mp=>[.map none]
 | .rl _ _=>[.slice none 0 0]
 | .fn=>[.nilFunc]
 | .mref=>[.pointer none]
def wD (t:Ty):Value:=if t.isRow then .agg (sV t).toArray else(sV t).headD undef
def LO (P:Program):Ty->Nat->List Field->Prop
 | .unit,_,[]=>True
 | .pair a b,o,f::r=>f.offset=o/\(P.info? f.type).map (·.size)=some a.cells/\(P.underlying f.type).map (·.isRow)=some a.isRow/\LO P b (o+a.cells) r
 |_,_,_=>False
def OO (P:Program) (e:TypeId):Ty->Nat->Prop
 | .unit,0=>True
 | .pair a b,n+1=>(P.info? e).map (·.size)=some a.cells/\(P.underlying e).map (·.isRow)=some a.isRow/\OO P e b n
 |_,_=>False
inductive YJ where
 |ty (t:TypeId) |fs (o:Nat) (l:List Field) |el (e:TypeId) (i m:Nat)
inductive xT (P:Program):Nat->YJ->Ty->Prop
 |bool {h t}:P.underlying t=some .bool->xT P h (.ty t) .bool
 |int {h t k}:P.underlying t=some (.int k)->xT P h (.ty t) (.int k)
 |str {h t}:P.underlying t=some .string->xT P h (.ty t) .str
 |struct {h t fs ty}:ty.isRow=true->P.underlying t=some (.struct fs)->P.stoodInHeld t=false->xT P h (.fs 0 fs.toList) ty->xT P (h+1) (.ty t) ty
 |arr {h t e n ty}:ty.isRow=true->P.underlying t=some (.array n e)->(P.info? e).isSome=true->xT P h (.el e 0 n) ty->xT P (h+1) (.ty t) ty
 |nil {h o}:xT P h (.fs o []) .unit
 |cons {h o}{f:Field}{r a b}:f.name≠ "_" ->f.offset=o->(P.info? f.type).map (·.size)=some a.cells->(P.underlying f.type).map (·.isRow)=some a.isRow->xT P h (.ty f.type) a->xT P h (.fs (o+a.cells) r) b->xT P h (.fs o (f::r)) (.pair a b)
 |anil {h e i}:xT P h (.el e i 0) .unit
 |acons {h e i m a b}:(P.info? e).map (·.size)=some a.cells->(P.underlying e).map (·.isRow)=some a.isRow->xT P h (.ty e) a->xT P h (.el e (i+1) m) b->xT P h (.el e i (m+1)) (.pair a b)
def xU (P:Program) (t:TypeId) (ti:TI):Prop:=
 match ti.ty with
 | .bool=>P.underlying t=some .bool
 | .int k=>P.underlying t=some (.int k)
 | .str=>P.underlying t=some .string
 | .ref=> ∃e,P.underlying t=some (.pointer e)
 | .clo=> ∃a b c,P.underlying t=some (.func a b c)
 | .mp=>P.underlying t=some (.map ti.elem ti.bytes)
 | .rl _ _=> ∃e,P.underlying t=some (.slice e)
 | .fn=> ∃a b c,P.underlying t=some (.func a b c)
 | .mref=> ∃e,P.underlying t=some (.pointer e)
 | .list u=>P.underlying t=some (.slice ti.elem)/\(P.info? ti.elem).map (fun i=>(i.size,i.bytes,i.zero))=some (u.cells,ti.bytes,some (wD u))/\(P.underlying ti.elem).map (·.isRow)=some u.isRow
 |ty=>((ti.arr=false/\∃fs,P.underlying t=some (.struct fs)/\LO P ty 0 fs.toList)\/(ti.arr=true/\∃n e,P.underlying t=some (.array n e)/\OO P e ty n/\(P.info? e).isSome=true))/\(ti.bytes=1->P.eqGuardType P.depth t=false/\∃h,h<9000/\xT P h (.ty t) ty)
def sM (P:Program) (t:TypeId) (ti:TI):Prop:=(P.info? t).map (fun i=>(i.size,i.zero))=some (ti.ty.cells,some (wD ti.ty))/\xU P t ti
def wE (P:Program):rZ->Prop
 |[]=>True
 |(t,ti)::r=>sM P t ti/\wE P r
theorem sD {P:Program}: ∀{T:rZ},wE P T->∀{t:TypeId}{ti:TI},r7 T t=some ti->sM P t ti
 |[],_,_,_,h=>by simp [r7] at h
 |(k,ti)::r,hT,t,ti',h=>by
  simp only[r7] at h;by_cases hk:k=t
  ·rw[aTD hk] at h;subst hk;rw[<-aTI h];exact hT.1
  ·rw[aTG hk] at h;exact sD hT.2 h
theorem DG (g:Gh) (w:World): ∀t:Ty,Rd g w t t.zero (sV t)
 | .bool=>rfl
 | .int _=>rfl
 | .str=>rfl
 | .list _=>⟨none,0,rfl,aTZ _,.inl rfl⟩
 | .unit=>rfl
 | .pair a b=>⟨_,_,rfl,DG g w a,DG g w b⟩
 | .ref=>rfl
 | .clo=>rfl
 | .mp=>rfl
 | .rl _ _=>rfl
 | .fn=>rfl
 | .mref=>rfl
theorem OP (g:Gh) (w:World) (t:Ty):sE g w t t.zero (wD t):=by
 unfold sE wD;by_cases h:t.isRow=true
 ·left;rw[aTD h];exact⟨h,_,rfl,DG g w t⟩
 ·right;rw[aTG h];refine⟨by simpa using h,?_⟩;cases t<;>first|exact DG g w _|(simp [Ty.isRow] at h)
theorem ER {g:Gh}{w:World}{t:Ty}{x:t.den}{v:Value}(h:sE g w t x v):Rd g w t x v.cells.toList:=by
 rcases h with⟨_,cs,rfl,r⟩ |⟨hr,r⟩
 ·simpa[Value.cells] using r
 ·have h1:=B5 r v (by simp);have:v.cells= #[v]:=by cases v<;>first|rfl|(simp [Value.oneCell'] at h1)
  rw[this];exact r
theorem C1 {g:Gh}{w:World}{t:Ty}{x:t.den}{v:Value}(hr:t.isRow=false) (h:sE g w t x v):Rd g w t x [v]:=by
 rcases h with⟨h1,_⟩ |⟨_,r⟩
 ·rw[hr] at h1;cases h1
 ·exact r
theorem v7 {g:Gh}{w:World}{k:IntKind}{n:Int}{v:Value}(h:sE g w (.int k) n v):v= .int k n:=by
 have:=C1 rfl h;simp only[Rd,aUA,and_true] at this;exact this
theorem wF {g:Gh}{w:World}{n:Bool}{v:Value}(h:sE g w .bool n v):v= .bool n:=by
 have:=C1 rfl h;simp only[Rd,aUA,and_true] at this;exact this
theorem yB {g:Gh}{w:World}{l:List UInt8}{v:Value}(h:sE g w .str l v):v= .string ⟨l.toArray⟩:=by
 have:=C1 rfl h;simp only[Rd,aUA,and_true] at this;exact this
theorem DH {g:Gh}{w:World}{t:Ty}{l:List t.den}{v:Value}(h:sE g w (.list t) l v): ∃a cap,v= .slice a l.length cap/\l.length<=cap/\(l=[]\/∃b o,a=some ⟨b,o,none⟩/\xR (Rd g w t) w g.S t.cells b o l):=by
 have:=C1 rfl h;obtain⟨a,cap,e,h1,h2⟩:=this;simp only[aUA,and_true] at e;exact⟨a,cap,e,h1,h2⟩
theorem AI {g:Gh}{w:World}{i o:Nat}{v:Value}(h:sE g w .ref (some (i,o)) v): ∃p,g.J i=some p/\v= .pointer (some ⟨p.1,p.2+o,none⟩):=by
 have:=C1 rfl h;obtain⟨p,h1,e⟩:=this;simp only[aUA,and_true] at e;exact⟨p,h1,e⟩
theorem JL {g:Gh}{w:World}{t:Ty}{x:t.den}{v:Value}(hr:t.isRow=true) (h:sE g w t x v): ∃cs:List Value,v= .agg cs.toArray/\Rd g w t x cs:=by
 rcases h with⟨_,r⟩ |⟨h1,_⟩
 ·exact r
 ·rw[hr] at h1;cases h1
theorem vO (g:Gh) (w:World) (k:IntKind) (n:Int):sE g w (.int k) n (.int k n):= .inr ⟨rfl,rfl⟩
theorem vP (g:Gh) (w:World) (b:Bool):sE g w .bool b (.bool b):= .inr ⟨rfl,rfl⟩
theorem FX (g:Gh) (w:World) (l:List UInt8):sE g w .str l (.string ⟨l.toArray⟩):= .inr ⟨rfl,rfl⟩
def qV (P:Program) (o:Oper) (a:Act) (g:Gh) (w:World) (H:rI) (e:pQ):Prop:=
 ∀(K:Act->World->Prop) (Q:Exit->Act->World->Prop),(∀g' w' v,rG g w H e g' w' v->K (a.put o.dst v) w')->o.wp P a w K Q
theorem qV.value {P:Program}{o:Oper}{a:Act}{g g':Gh}{w w':World}{H:rI}{e:pQ}{v:Value}(hr:(execOp a.eval o).run P w= .ok (.value v) w') (h:rG g w H e g' w' v):qV P o a g w H e:=by
 intro K Q hK;unfold Oper.wp;rw[hr];exact hK g' w' v h
theorem qV.skip {P:Program}{o:Oper}{a:Act}{g g':Gh}{w w':World}{H:rI}{e:pQ}(hr:(execOp a.eval o).run P w= .ok .skip w') (h:rG g w H e g' w' undef):qV P o a g w H e:=by
 intro K Q hK;unfold Oper.wp;rw[hr];exact hK g' w' undef h
theorem qV.pure {P:Program}{o:Oper}{a:Act}{g:Gh}{w:World}{H:rI}{side:List Prop}{d:DV}{rds:List Nat}{v:Value}(hH:rT g w H) (hr:(execOp a.eval o).run P w= .ok (.value v) w) (h:zK g w d v):
  qV P o a g w H ⟨side,(d,none),[],rds⟩:= .value hr (.pure hH ⟨h,trivial⟩)
section
variable {P:Program}{o:Oper}{a:Act}{g:Gh}{w:World}{H:rI}
theorem TE {g:Gh}{w:World}{k:IntKind}(q:Int) (hq: ∀p∈(J4 k q).1,p):zK g w (J4 k q).2 (.int k (k.wrap q)):=by
 cases k<;>simp only[J4] at hq⊢ <;>first|exact vO _ _ _ _|skip
 have h0:=hq _ (aTQ.2 rfl);rw[show IntKind.i64.wrap q=q from IntWalk.i64_in q (by omega)];exact vO _ _ _ _
theorem aJg (g:Gh) {op:BinOp}{xt:TypeId}{x y:Operand}{k:IntKind}{m n:Int}{r:List Prop×DV}(hr:XB k m n op=some r) (hs: ∀p∈r.1,p):
  ∃v,(do eqGuard op xt x y (.int k m) (.int k n);Go.binOp op xt (.int k m) (.int k n):Sem Value).run P w= .ok v w/\zK g w r.2 v:=by
 cases op<;>simp only[XB,aTE,reduceCtorEq] at hr
 all_goals subst hr
 case add=>exact⟨.int k (k.wrap _),by simp [eqGuard,Go.binOp,Op.intArith],TE _ hs⟩
 case sub=>exact⟨.int k (k.wrap _),by simp [eqGuard,Go.binOp,Op.intArith],TE _ hs⟩
 case mul=>exact⟨.int k (k.wrap _),by simp [eqGuard,Go.binOp,Op.intArith],TE _ hs⟩
 case eql=>exact⟨.bool (decide (m=n)),by simp [eqGuard,Go.binOp,Op.intCmp];rfl,vP _ _ _⟩
 case neq=>exact⟨.bool (!decide (m=n)),by simp [eqGuard,Go.binOp,Op.intCmp,bne];rfl,vP _ _ _⟩
 case lss=>exact⟨.bool (decide _),by simp [eqGuard,Go.binOp,Op.intCmp],vP _ _ _⟩
 case leq=>exact⟨.bool (decide _),by simp [eqGuard,Go.binOp,Op.intCmp],vP _ _ _⟩
 case gtr=>exact⟨.bool (decide (n<m)),by simp [eqGuard,Go.binOp,Op.intCmp],vP _ _ _⟩
 case geq=>exact⟨.bool (decide (n<=m)),by simp [eqGuard,Go.binOp,Op.intCmp],vP _ _ _⟩
 case quo=>
  have h0:=hs _ (aTQ.2 rfl);exact⟨.int k (k.wrap (Int.tdiv m n)),by simp [eqGuard,Go.binOp,Op.intDiv,h0],vO _ _ _ _⟩
 case rem=>
  have h0:=hs _ (aTQ.2 rfl);exact⟨.int k (Int.tmod m n),by simp [eqGuard,Go.binOp,Op.intDiv,h0],vO _ _ _ _⟩
 case and=>exact⟨.int k (bits .and k m n),by simp [eqGuard,Go.binOp,intBits_and],vO _ _ _ _⟩
 case or=>exact⟨.int k (bits .or k m n),by simp [eqGuard,Go.binOp,intBits_or],vO _ _ _ _⟩
 case xor=>exact⟨.int k (bits .xor k m n),by simp [eqGuard,Go.binOp,intBits_xor],vO _ _ _ _⟩
 case andNot=>exact⟨.int k (bits .andNot k m n),by simp [eqGuard,Go.binOp,intBits_andNot],vO _ _ _ _⟩
theorem OQ (m n:List UInt8):(m==n)=decide (m=n):=by rw[aUH];simp
theorem aJh (g:Gh) {op:BinOp}{xt:TypeId}{x y:Operand}{m n:List UInt8}{r:List Prop×DV}(hr:XD m n op=some r) (hs: ∀p∈r.1,p):
  ∃v,(do eqGuard op xt x y (.string ⟨m.toArray⟩) (.string ⟨n.toArray⟩);Go.binOp op xt (.string ⟨m.toArray⟩) (.string ⟨n.toArray⟩):Sem Value).run P w= .ok v w/\zK g w r.2 v:=by
 have hl: ∀l:List UInt8,(⟨l.toArray⟩:ByteArray).size=l.length:=fun l=>by simp [ByteArray.size]
 cases op<;>simp only[XD,aTE,reduceCtorEq] at hr
 all_goals subst hr
 case add=>
  have h0:=hs _ (aTQ.2 rfl);refine⟨.string ⟨(m++n).toArray⟩,?_,FX _ _ _⟩;rw[aTH] at h0;have h1: ¬(((⟨m.toArray⟩:ByteArray).size+(⟨n.toArray⟩:ByteArray).size:Nat):Int) >IntKind.i64.max:=by rw[hl,hl,show IntKind.i64.max=9223372036854775807 from by decide];omega
  simp only[eqGuard,Go.binOp,Op.stringOp,aTV,aTG h1];simp;rfl
 case eql=>exact⟨.bool (decide (m=n)),by simp [eqGuard,Go.binOp,Op.stringOp,OQ],vP _ _ _⟩
 case neq=>exact⟨.bool (!decide (m=n)),by simp [eqGuard,Go.binOp,Op.stringOp,OQ],vP _ _ _⟩
 case lss=>exact⟨.bool (Op.bytesLess m n),by simp [eqGuard,Go.binOp,Op.stringOp],vP _ _ _⟩
 case leq=>exact⟨.bool (Op.bytesLess m n||decide (m=n)),by simp [eqGuard,Go.binOp,Op.stringOp,OQ],vP _ _ _⟩
 case gtr=>exact⟨.bool (!(Op.bytesLess m n||decide (m=n))),by simp [eqGuard,Go.binOp,Op.stringOp,OQ],vP _ _ _⟩
 case geq=>exact⟨.bool (!Op.bytesLess m n),by simp [eqGuard,Go.binOp,Op.stringOp],vP _ _ _⟩
theorem JM {r:Option (List Prop×DV)}{e:pQ}(h:AZ r=some e): ∃q,r=some q/\e=⟨q.1,(q.2,none),[],[]⟩:=by
 cases r with
 |none=>cases h
 |some q=>obtain⟨p,d⟩:=q;exact⟨(p,d),rfl,(aTI h).symm⟩
theorem aJi (hH:rT g w H) {op:BinOp}{xt yt:TypeId}{x y:Operand}(ho:o.op= .binOp op xt x y yt) {sx sy:pD}(hx:r5 g w sx (a.eval x)) (hy:r5 g w sy (a.eval y)) {e:pQ}
  (hr:AZ (RX op sx sy)=some e) (hs: ∀p∈e.side,p):qV P o a g w H e:=by
 obtain⟨q,hq,rfl⟩:=JM hr;have go: ∀{u v:Value},a.eval x=u->a.eval y=v->(∃z,(do eqGuard op xt x y u v;Go.binOp op xt u v:Sem Value).run P w= .ok z w/\zK g w q.2 z)->qV P o a g w H ⟨q.1,(q.2,none),[],[]⟩:=by
  rintro u v rfl rfl ⟨z,hz,hd⟩;refine qV.pure hH (v:=z) ?_ hd;unfold execOp;rw[ho];simp only[aTV,aT7] at hz⊢;rw[hz];rfl
 obtain⟨dx,kx⟩:=sx;obtain⟨dy,ky⟩:=sy;replace hx:=hx.1;replace hy:=hy.1;unfold RX at hq;split at hq
 ·rename_i k m k1 k' n k2 e1 e2;simp only[aUa] at e1 e2;obtain⟨rfl,-⟩:=e1;obtain⟨rfl,-⟩:=e2;unfold a88 at hq;split at hq
  ·cases hq;have h0:=hs _ (aTQ.2 rfl);exact go (v7 hx) (v7 hy) ⟨.int k (XC k m n),by simp [eqGuard,Go.binOp,Op.shift,XC,Int.not_lt.2 h0],vO _ _ _ _⟩
  ·cases hq;have h0:=hs _ (aTQ.2 rfl);exact go (v7 hx) (v7 hy) ⟨.int k (wZ k m n),by simp [eqGuard,Go.binOp,Op.shift,wZ,Int.not_lt.2 h0],vO _ _ _ _⟩
  ·by_cases hk:k=k'
   ·subst hk;rw[aTD rfl] at hq;exact go (v7 hx) (v7 hy) (aJg g hq hs)
   ·rw[aTG hk] at hq;cases hq
 ·rename_i m k1 n k2 e1 e2;simp only[aUa] at e1 e2;obtain⟨rfl,-⟩:=e1;obtain⟨rfl,-⟩:=e2;exact go (yB hx) (yB hy) (aJh g hq hs)
 ·cases hq
theorem aJj (hH:rT g w H) {op:UnOp}{xt:TypeId}{x:Operand}(ho:o.op= .unOp op xt x) {sx:pD}(hx:r5 g w sx (a.eval x)) {e:pQ}
  (hr:AZ (XF op sx)=some e) (hs: ∀p∈e.side,p):qV P o a g w H e:=by
 obtain⟨q,hq,rfl⟩:=JM hr;replace hx:=hx.1;unfold XF at hq;split at hq
 ·have:=wF hx;cases hq;refine qV.pure hH (v:= .bool _) ?_ (vP _ _ _);simp [execOp,ho,this,Op.unary]
 ·rename_i k n _;have:=v7 hx;cases hq;refine qV.pure hH (v:= .int k (k.wrap (-n))) ?_ (TE _ hs);simp [execOp,ho,this,Op.unary,Op.intArith]
 ·cases hq
theorem TF {t:TypeId}{ti:TI}(h:sM P t ti): ∃d,P.underlying t=some d/\d.isRow=ti.ty.isRow:=by
 have h2:=h.2;unfold xU at h2;obtain⟨ty,el,by',ar,ls⟩:=ti;cases ty<;>simp only at h2
 case bool=>exact⟨_,h2,rfl⟩
 case int=>exact⟨_,h2,rfl⟩
 case str=>exact⟨_,h2,rfl⟩
 case list=>exact⟨_,h2.1,rfl⟩
 case ref=>obtain⟨e,h⟩:=h2;exact⟨_,h,rfl⟩
 case clo=>obtain⟨a,b,c,h⟩:=h2;exact⟨_,h,rfl⟩
 case mp=>exact⟨_,h2,rfl⟩
 case rl=>obtain⟨e,h⟩:=h2;exact⟨_,h,rfl⟩
 case fn=>obtain⟨a,b,c,h⟩:=h2;exact⟨_,h,rfl⟩
 case mref=>obtain⟨e,h⟩:=h2;exact⟨_,h,rfl⟩
 all_goals
  rcases h2.1 with⟨_,fs,h,_⟩ |⟨_,n,e,h,_⟩
  ·exact⟨_,h,rfl⟩
  ·exact⟨_,h,rfl⟩
theorem FY {t:TypeId}{ti:TI}(h:sM P t ti): ∃i,P.info? t=some i/\i.size=ti.ty.cells/\i.zero=some (wD ti.ty):=by
 obtain⟨i,hi,he⟩:=aTT.1 h.1;simp only[aUa] at he;exact⟨i,hi,he.1,he.2⟩
theorem aJk {T:rZ}(hT:wE P T) (hH:rT g w H) {st dt:TypeId}{x:Operand}(ho:o.op= .convert st dt x) {sx:pD}(hx:r5 g w sx (a.eval x)) {e:pQ}
  (hr:AZ (RZ (r7 T st) (r7 T dt) sx)=some e):qV P o a g w H e:=by
 obtain⟨q,hq,rfl⟩:=JM hr;replace hx:=hx.1;generalize hs:r7 T st=os at hq;generalize hd:r7 T dt=od at hq;unfold RZ at hq;split at hq
 ·rename_i k' k _ _ _ _ k0 n _;obtain⟨d,hd1,_⟩:=TF (sD hT hs);have hd2:=(sD hT hd).2;simp only[xU] at hd2;have:=v7 hx;cases hq;refine qV.pure hH (v:= .int k (k.wrap n)) ?_ (vO _ _ _ _);simp [execOp,ho,this,Go.convert,aTX hd1,aTX hd2,Conv.intToInt]
 ·rename_i k' _ _ _ _ s _;obtain⟨d,hd1,_⟩:=TF (sD hT hs);have hd2:=(sD hT hd).2;simp only[xU] at hd2;have:=yB hx;cases hq;refine qV.pure hH (v:= .string ⟨List.toArray s⟩) ?_ (FX _ _ _);simp [execOp,ho,this,Go.convert,aTX hd1,aTX hd2]
 ·cases hq
theorem TG {α:Type}{R:α->List Value->Prop}{w:World}{S:Nat->Nat->Prop}{c b:Nat}: ∀{l:List α}{o i:Nat}{x:α},xR R w S c b o l->l[i]? =some x->
  ∃cs,cs.length=c/\w.rangeAt b (o+i*c) cs/\(∀j,j<c->S b (o+i*c+j))/\R x cs
 |y::l,o,0,x,⟨⟨cs,h1,h2,h3,h4⟩,_⟩,h=>by
  simp only[aUb,aTE] at h;subst h;exact⟨cs,h1,by simpa using h2,by simpa using h3,h4⟩
 |y::l,o,i+1,x,⟨_,h5⟩,h=>by
  simp only[aUo] at h;obtain⟨cs,h1,h2,h3,h4⟩:=TG h5 h;have e:o+c+i*c=o+(i+1)*c:=by rw[aUJ];omega
  exact⟨cs,h1,by rw[<-e];exact h2,by rw[<-e];exact h3,h4⟩
theorem a9R {α:Type}{R:α->List Value->Prop}{w:World}{S:Nat->Nat->Prop}{c b:Nat}: ∀{l:List α}{o:Nat}(i:Nat),xR R w S c b o l->i<=l.length->xR R w S c b (o+i*c) (l.drop i)
 |_,o,0,h,_=>by simpa using h
 |[],o,i+1,_,h=>by simp at h
 |y::l,o,i+1,⟨_,h5⟩,h=>by
  have:=a9R i h5 (by simpa using h);have e:o+c+i*c=o+(i+1)*c:=by rw[aUJ];omega
  rw[<-e];simpa using this
theorem a9S {α:Type}{R:α->List Value->Prop}{w:World}{S:Nat->Nat->Prop}{c b:Nat}: ∀{l:List α}{o:Nat}(i:Nat),xR R w S c b o l->xR R w S c b o (l.take i)
 |_,_,0,_=>by simp [xR]
 |[],_,_+1,_=>by simp [xR]
 |_::_,_,i+1,⟨h,h5⟩=>by simpa[xR] using⟨h,a9S i h5⟩
theorem YK {g:Gh}{w:World}: ∀{t:Ty}{x:t.den}{cs:List Value}{f:Nat}{u:Ty}{y:u.den},Rd g w t x cs->t.proj x f=some ⟨u,y⟩->
  ∃o c1 c2 c3,t.offs f=some o/\t.fld f=some u/\cs=c1++c2++c3/\c1.length=o/\Rd g w u y c2:=by
 intro t
 induction t with
 |pair a b _ ihb=>
  intro x cs f u y r h;obtain⟨c1,c2,e,r1,r2⟩:=r;cases f with
  |zero=>
   simp only[Ty.proj,aTE,Sigma.mk.injEq] at h;obtain⟨rfl,h2⟩:=h;obtain rfl:=eq_of_heq h2;exact⟨0,[],c1,c2,rfl,rfl,by simpa using e,rfl,r1⟩
  |succ f=>
   simp only[Ty.proj] at h;obtain⟨o,d1,d2,d3,h1,h2,h3,h4,h5⟩:=ihb r2 h;refine⟨a.cells+o,c1++d1,d2,d3,by simp [Ty.offs,h1],by simpa[Ty.fld] using h2,by rw[e,h3];simp,?_,h5⟩;rw[aTH,h4,s0 r1]
 |_=>intro x cs f u y r h;cases f<;>simp [Ty.proj] at h
theorem YL {P:Program}: ∀{ty:Ty}{off:Nat}{fs:List Field}{f o:Nat}{u:Ty},LO P ty off fs->ty.offs f=some o->ty.fld f=some u->
  ∃fd,fs[f]? =some fd/\fd.offset=off+o/\(P.info? fd.type).map (·.size)=some u.cells/\(P.underlying fd.type).map (·.isRow)=some u.isRow:=by
 intro ty
 induction ty with
 |pair a b _ ihb=>
  intro off fs f o u h ho hu;cases fs with
  |nil=>exact h.elim
  |cons fd fs=>
   obtain⟨h1,h2,h3,h4⟩:=h;cases f with
   |zero=>
    simp only[Ty.offs,aTE] at ho;simp only[Ty.fld,aTE] at hu;subst ho;subst hu;exact⟨fd,rfl,by omega,h2,h3⟩
   |succ f=>
    simp only[Ty.offs,aTT] at ho;obtain⟨o',ho',rfl⟩:=ho;obtain⟨fd',k1,k2,k3,k4⟩:=ihb h4 ho' hu;exact⟨fd',by simpa using k1,by omega,k3,k4⟩
 |_=>intro off fs f o u h ho hu;cases f<;>simp [Ty.offs] at ho
theorem YM {P:Program}{e:TypeId}: ∀{ty:Ty}{n f o:Nat}{u:Ty},OO P e ty n->ty.offs f=some o->ty.fld f=some u->
  f<n/\(P.info? e).map (·.size)=some u.cells/\(P.underlying e).map (·.isRow)=some u.isRow/\o=f*u.cells:=by
 intro ty
 induction ty with
 |pair a b _ ihb=>
  intro n f o u h ho hu;cases n with
  |zero=>exact h.elim
  |succ n=>
   obtain⟨h2,h3,h4⟩:=h;cases f with
   |zero=>
    simp only[Ty.offs,aTE] at ho;simp only[Ty.fld,aTE] at hu;subst ho;subst hu;exact⟨by omega,h2,h3,by simp⟩
   |succ f=>
    simp only[Ty.offs,aTT] at ho;obtain⟨o',ho',rfl⟩:=ho;obtain⟨k1,k2,k3,k4⟩:=ihb h4 ho' hu;rw[h2] at k2;have hc:a.cells=u.cells:=aTI k2;exact⟨by omega,by rw[h2,hc],k3,by rw[k4,hc,aUJ];omega⟩
 |_=>intro n f o u h ho hu;cases f<;>simp [Ty.offs] at ho
theorem OR {t:TypeId}{u:Ty}(hi:(P.info? t).map (·.size)=some u.cells) (hr:(P.underlying t).map (·.isRow)=some u.isRow) {y:u.den}{c1 c2 c3:List Value}(h:Rd g w u y c2):
  ∃v,(part t (c1++c2++c3).toArray c1.length).run P w= .ok v w/\sE g w u y v:=by
 obtain⟨i,hi,hsz⟩:=aTT.1 hi;obtain⟨d,hd,hrow⟩:=aTT.1 hr;have hl:=s0 h;by_cases hu:u.isRow=true
 ·refine⟨.agg c2.toArray,?_,.inl ⟨hu,c2,rfl,h⟩⟩;have hagg:(isAgg t).run P w= .ok true w:=by
   unfold isAgg;rw[aTV,aTX hd w];rw[hu] at hrow;cases d<;>simp_all [TypeDesc.isRow]
  simp only[part,aTV,hagg,aTO,aVg,sizeOf,typeInfo,aUL,hi,hsz,aT7];congr 2;apply aUP.1;simp [<-hl]
 ·have hu':u.isRow=false:=by simpa using hu
  have h1:u.cells=1:=by cases u<;>first|rfl|(simp [Ty.isRow] at hu')
  obtain⟨v,rfl⟩: ∃v,c2=[v]:=by
   rw[h1] at hl;exact aUY.1 hl
  refine⟨v,?_,.inr ⟨hu',h⟩⟩;have hagg:(isAgg t).run P w= .ok false w:=by
   unfold isAgg;rw[aTV,aTX hd w];rw[hu'] at hrow;cases d<;>simp_all [TypeDesc.isRow]
  simp only[part,aTV,hagg,aTO];simp
theorem YN {t:TypeId}{ti:TI}(h:sM P t ti) (hr:ti.ty.isRow=true):
  (ti.arr=false/\∃fs,P.underlying t=some (.struct fs)/\LO P ti.ty 0 fs.toList)\/(ti.arr=true/\∃n e,P.underlying t=some (.array n e)/\OO P e ti.ty n/\(P.info? e).isSome=true):=by
 have h2:=h.2;unfold xU at h2;obtain⟨ty,el,by',ar,ls⟩:=ti;cases ty<;>simp only[Ty.isRow,aUU] at hr<;>exact h2.1
theorem a9T {t:TypeId}{ti:TI}(h:sM P t ti) (hr:ti.ty.isRow=true) (ha:ti.arr=false): ∃fs,P.underlying t=some (.struct fs)/\LO P ti.ty 0 fs.toList:=by
 rcases YN h hr with⟨_,h⟩ |⟨h,_⟩
 ·exact h
 ·rw[ha] at h;cases h
theorem a9U {t:TypeId}{ti:TI}(h:sM P t ti) (hr:ti.ty.isRow=true) (ha:ti.arr=true): ∃n e,P.underlying t=some (.array n e)/\OO P e ti.ty n/\(P.info? e).isSome=true:=by
 rcases YN h hr with⟨h,_⟩ |⟨_,h⟩
 ·rw[ha] at h;cases h
 ·exact h
theorem aJl {t:Ty}{x:t.den}{f:Nat}{q: Σ u:Ty,u.den}(h:t.proj x f=some q):t.isRow=true:=by
 cases t<;>first|rfl|(cases f<;>simp [Ty.proj] at h)
theorem aJm {t:Ty}{f o:Nat}(h:t.offs f=some o):t.isRow=true:=by
 cases t<;>first|rfl|(cases f<;>simp [Ty.offs] at h)
end
theorem aJn (l:List UInt8) (n:Nat) (h:n<l.length):(⟨l.toArray⟩:ByteArray)[n]? =some l[n]:=by
 have:n<(⟨l.toArray⟩:ByteArray).size:=by simpa[ByteArray.size] using h
 rw[getElem?_pos (⟨l.toArray⟩:ByteArray) n this];rfl
theorem wG {i:Int}{n:Nat}(h0:0<=i) (h1:i<n):i.toNat<n:=by omega
theorem a9V {i:Int}{n:Nat}(h0:0<=i) (h1:i.toNat<n):i<n:=by omega
section
variable {P:Program}{o:Oper}{a:Act}{g:Gh}{w:World}{H:rI}{T:rZ}(hT:wE P T) (hH:rT g w H)
include hT hH
theorem aJo {t:TypeId}{x:Operand}{f:Nat}(ho:o.op= .field t x f) {sx:pD}(hx:r5 g w sx (a.eval x)) {e:pQ}(hr:Y0 f (r7 T t) sx=some e):qV P o a g w H e:=by
 generalize hs:r7 T t=ot at hr;replace hx:=hx.1;unfold Y0 at hr;split at hr
 ·rename_i ty el by' ls_ u y _;split at hr
  ·rename_i hu;subst hu;have hty:=sD hT hs;generalize hp:u.proj y f=q at hr;cases q with
   |none=>cases hr
   |some q=>
    obtain⟨u,z⟩:=q;cases hr;have hrow:=aJl hp;obtain⟨cs,hv,hR⟩:=JL hrow hx;obtain⟨oo,c1,c2,c3,h1,h2,rfl,rfl,h5⟩:=YK hR hp;obtain⟨fs,hfs,hfe⟩:=a9T hty hrow rfl;obtain⟨fd,k1,k2,k3,k4⟩:=YL hfe h1 h2;obtain⟨v,hv1,hv2⟩:=OR k3 k4 (P:=P) (c1:=c1) (c3:=c3) h5;refine qV.pure hH (v:=v) ?_ hv2;have k1':fs[f]? =some fd:=by simpa using k1
    simp only[execOp,ho,hv,Instr.field,aTV,aTX hfs,aTO,k1',asAgg,aT7,k2,aUg,hv1]
  ·cases hr
 ·cases hr
theorem YO {t:TypeId}{ti:TI}(hty:sM P t ti) (har:ti.arr=false) {f oo:Nat}{u:Ty}(h1:ti.ty.offs f=some oo) (h2:ti.ty.fld f=some u) (hpos:0<u.cells) (b off:Nat):
  (Instr.fieldAt t (.pointer (some ⟨b,off,none⟩)) f).run P w= .ok (.pointer (some ⟨b,off+oo,none⟩)) w:=by
 obtain⟨fs,hfs,hfe⟩:=a9T hty (aJm h1) har;obtain⟨fd,k1,k2,k3,k4⟩:=YL hfe h1 h2;obtain⟨i,hi,hsz⟩:=aTT.1 k3;have k1':fs[f]? =some fd:=by simpa using k1
 have hne: ¬(u.cells=0):=by omega
 simp only[Instr.fieldAt,aTV,aTX hfs,aTO,k1',Instr.sureAddr,aT7,fieldPlace,sizeOf,typeInfo,aUL,hi,hsz,aTG hne,k2,aUg,aUQ]
theorem aJp {t:TypeId}{x:Operand}{f:Nat}(ho:o.op= .fieldAddr t x f) {sx:pD}(hx:r5 g w sx (a.eval x)) {e:pQ}(hr:XZ f (r7 T t) sx=some e):qV P o a g w H e:=by
 generalize hs:r7 T t=ot at hr;replace hx:=hx.1;unfold XZ at hr;split at hr
 ·rename_i ty el by' ls_ k n c i o' _;have hty:=sD hT hs;generalize h1:ty.offs f=o1 at hr;generalize h2:ty.fld f=o2 at hr;unfold a9x at hr;split at hr
  ·split at hr
   ·rename_i oo u hpos;cases hr;obtain⟨b,cap,hc,hi0,hi1,hv⟩:=hx;refine qV.pure hH (v:= .pointer (some ⟨b,i.toNat*c+o'+oo,none⟩)) ?_ ⟨b,cap,hc,hi0,hi1,by rw[aUn]⟩;simp only[execOp,ho,hv,aTV,YO hT hH hty rfl h1 h2 hpos,aTO,aT7]
   ·cases hr
  ·cases hr
 ·rename_i ty el by' ls_ u y _;split at hr
  ·rename_i hu;subst hu;have hty:=sD hT hs;generalize hp:u.proj y f=q at hr;cases q with
   |none=>cases hr
   |some q=>
    obtain⟨u,z⟩:=q;simp only[SN] at hr;split at hr
    ·rename_i hpos;cases hr;obtain⟨b,off,cs,hv,hra,hS,hR⟩:=hx;obtain⟨oo,c1,c2,c3,h1,h2,rfl,rfl,h5⟩:=YK hR hp;refine qV.pure hH (v:= .pointer (some ⟨b,off+c1.length,none⟩)) ?_ ⟨b,off+c1.length,c2,rfl,fun j v hj=> ?_,fun j hj=> ?_,h5⟩
     ·simp only[execOp,ho,hv,aTV,YO hT hH hty rfl h1 h2 hpos,aTO,aT7]
     ·have:=hra (c1.length+j) v (by
       have hj':=(aTU.1 hj).1;rw[aTN,aTP (by omega),aUw,aTY hj'];exact hj)
      rw[aUn];exact this
     ·have:=hS (c1.length+j) (by
       have:=s0 hR;have h6:=s0 h5;simp only[aTH] at this;omega)
      rw[aUn];exact this
    ·cases hr
  ·cases hr
 ·rename_i ty el by' ls_ i off _;have hty:=sD hT hs;generalize h1:ty.offs f=o1 at hr;generalize h2:ty.fld f=o2 at hr;unfold SO at hr;split at hr
  ·split at hr
   ·rename_i oo u hpos;cases hr;obtain⟨p,hp,hv⟩:=AI hx;refine qV.pure hH (v:= .pointer (some ⟨p.1,p.2+off+oo,none⟩)) ?_ (.inr ⟨rfl,p,hp,by rw[aUn]⟩);simp only[execOp,ho,hv,aTV,YO hT hH hty rfl h1 h2 hpos,aTO,aT7]
   ·cases hr
  ·cases hr
 ·cases hr
theorem aJq {x:Operand}{i:Nat}(ho:o.op= .extract x i) {sx:pD}(hx:r5 g w sx (a.eval x)) {e:pQ}(hr:Y3 i sx=some e) (hs: ∀p∈e.side,p):qV P o a g w H e:=by
 replace hx:=hx.1;unfold Y3 at hr;split at hr
 rotate_left
 ·rename_i b p c _;have run: ∀(v:Value) (vs:Array Value),a.eval x= .tuple vs->vs[i]? =some v->(execOp a.eval o).run P w= .ok (.value v) w:=by
   intro v vs h1 h2;simp [execOp,ho,h1,Instr.extract,h2]
  obtain⟨h1,h2⟩:=hx;unfold a9y at hr;split at hr
  ·cases hr;cases b with
   |true=>exact qV.pure hH (run (.bool true) _ (h1 rfl) rfl) (vP _ _ _)
   |false=>exact qV.pure hH (run (.bool false) _ (h2 rfl) rfl) (vP _ _ _)
  ·cases hr;have hb:=hs (b=true) (by simp);exact qV.pure hH (run (.int .i64 p) _ (h1 hb) rfl) (vO _ _ _ _)
  ·cases hr;have hb:=hs (b=true) (by simp);exact qV.pure hH (run (.int .i32 c) _ (h1 hb) rfl) (vO _ _ _ _)
  ·cases hr
 rotate_left
 ·rename_i l _;obtain⟨vs,hv,hl⟩:=hx;have key: ∀(l:List ((Σ t:Ty,t.den)×Option Nat)) (vs:List Value) (i:Nat),LM g w l vs->SP l i=some e->∃v,vs[i]? =some v/\r5 g w e.slot v/\e.upd=[]/\e.rds=[]:=by
   intro l
   induction l with
   |nil=>intro vs i _ h;cases i<;>cases h
   |cons q l ih=>
    obtain⟨⟨t,x⟩,k⟩:=q;rintro vs i ⟨v,vs',rfl,r1,r2,r3⟩ h;cases i with
    |zero=>
     simp only[SP,aTE] at h;subst h;refine⟨v,rfl,⟨r1,?_⟩,rfl,rfl⟩;cases k with
     |none=>trivial
     |some k=>exact r2
    |succ i=>
     obtain⟨v',h1,h2,h3,h4⟩:=ih vs' i r3 h;exact⟨v',by simpa using h1,h2,h3,h4⟩
  obtain⟨v,h1,h2,h3,h4⟩:=key l vs i hl hr;obtain⟨side,slot,upd,rds⟩:=e;simp only at h2 h3 h4;subst h3;refine qV.value (v:=v) (g':=g) (w':=w) ?_ (.pure hH h2);have:vs.toArray[i]? =some v:=by simpa using h1
  simp [execOp,ho,hv,Instr.extract,this]
 ·cases hr
theorem aJr {x:Operand}(ho:o.op= .nilCheck x) {sx:pD}(hx:r5 g w sx (a.eval x)) {e:pQ}(hr:XY sx=some e):qV P o a g w H e:=by
 replace hx:=hx.1;unfold XY at hr;split at hr
 ·rename_i p _;obtain⟨i,off⟩:=p;cases hr;obtain⟨p,hp,hv⟩:=AI hx;refine qV.pure hH (v:=a.eval x) ?_ hx;simp [execOp,ho,hv]
 ·cases hr;obtain⟨b,off,cs,hv,h⟩:=hx;refine qV.pure hH (v:=a.eval x) ?_ ⟨b,off,cs,hv,h⟩;simp [execOp,ho,hv]
 ·cases hr;obtain⟨b,cap,h1,h2,h3,hv⟩:=hx;refine qV.pure hH (v:=a.eval x) ?_ ⟨b,cap,h1,h2,h3,hv⟩;simp [execOp,ho,hv]
 ·cases hr
theorem aJs {t:TypeId}{x ix:Operand}(ho:o.op= .index t x ix) {sx si:pD}(hx:r5 g w sx (a.eval x)) (hi:r5 g w si (a.eval ix)) {e:pQ}(hr:Y2 (r7 T t) sx si=some e) (hs: ∀p∈e.side,p):qV P o a g w H e:=by
 generalize hst:r7 T t=ot at hr;replace hx:=hx.1;replace hi:=hi.1;unfold Y2 at hr;split at hr
 ·rename_i _ _ _ _ l _ k i _;cases hr;have hb:=hs _ (aTQ.2 rfl);have h2:=(sD hT hst).2;simp only[xU] at h2;have hv:=yB hx;have hvi:=v7 hi;have hlt:(Int.toNat i)<List.length l:=wG hb.1 hb.2;refine qV.pure hH (v:= .int .u8 (pR l i)) ?_ (vO _ _ _ _);have hget:(if (0:Int)<=i then(⟨List.toArray l⟩:ByteArray)[Int.toNat i]? else none)=some (l[Int.toNat i]):=by
   rw[aTD hb.1];exact aJn l _ hlt
  have hbyte:pR l i=((l[Int.toNat i]).toNat:Int):=by
   unfold pR;rw[aT6,aTM hlt];rfl
  simp only[execOp,ho,hv,hvi,Instr.index,asIntOf,aTV,aT7,aTO,aTX h2,hget,hbyte]
 ·cases hr
theorem aJt {t:TypeId}{x ix:Operand}(ho:o.op= .indexAddr t x ix) {sx si:pD}(hx:r5 g w sx (a.eval x)) (hi:r5 g w si (a.eval ix)) {e:pQ}(hr:Y1 (r7 T t) sx si=some e) (hs: ∀p∈e.side,p):qV P o a g w H e:=by
 generalize hst:r7 T t=ot at hr;replace hx:=hx.1;replace hi:=hi.1;unfold Y1 at hr;split at hr
 ·rename_i t' el by' ar ls_ k n _ k' i _;split at hr
  ·rename_i hpos;cases hr;have hb:=hs _ (aTQ.2 rfl);obtain⟨h2,h3,_⟩:=(sD hT hst).2;obtain⟨ei,hei,hz⟩:=aTT.1 h3;simp only[aUa] at hz;have hvi:=v7 hi;obtain⟨hc,hv⟩:=hx;rcases hv with⟨_,rfl⟩ |⟨b,cap,hv,hcap⟩
   ·exact absurd (Int.lt_of_le_of_lt hb.1 hb.2) (Int.lt_irrefl 0)
   refine qV.pure hH (v:= .pointer (some ⟨b,0+Int.toNat i*t'.cells,none⟩)) ?_ ⟨b,cap,by rw[<-hv];exact hc,hb.1,hb.2,by rw[aUg,aVd]⟩;simp only[execOp,ho,hv,hvi,Instr.indexAt,asIntOf,aTV,aT7,aTO,aTX h2,sizeOf,typeInfo,aUL,hei,hz.1,aTD hb,aUQ]
  ·cases hr
 ·rename_i t' el by' ar ls_ t1 l _ k i _;split at hr
  ·rename_i htt;subst htt;cases hr;have hb:=hs _ (aTQ.2 rfl);obtain⟨h2,h3,_⟩:=(sD hT hst).2;obtain⟨ei,hei,hz⟩:=aTT.1 h3;simp only[aUa] at hz;have hvi:=v7 hi;obtain⟨ad,cap,hv,hle,hl⟩:=DH hx;have hlt:(Int.toNat i)<List.length l:=wG hb.1 hb.2;rcases hl with rfl|⟨b,off,rfl,hL⟩
   ·simp at hlt
   have hnth:l[Int.toNat i]? =some (pU t1 l i):=by
    unfold pU;rw[aT6,aTM hlt];rfl
   obtain⟨cs,hc1,hc2,hc3,hc4⟩:=TG hL hnth;refine qV.pure hH (v:= .pointer (some ⟨b,off+Int.toNat i*t1.cells,none⟩)) ?_ ⟨b,_,cs,rfl,hc2,hc3,hc4⟩;simp only[execOp,ho,hv,hvi,Instr.indexAt,asIntOf,aTV,aT7,aTO,aTX h2,sizeOf,typeInfo,aUL,hei,hz.1,aTD hb,aUQ]
  ·cases hr
 ·rename_i s u el by' ls_ i off _ k n _;have hty:=sD hT hst;generalize h1:(Ty.pair s u).offs (Int.toNat n)=o1 at hr;generalize h2:(Ty.pair s u).fld (Int.toNat n)=o2 at hr;unfold SO at hr;split at hr
  ·split at hr
   ·rename_i oo v hpos;cases hr;have hn0:=hs _ (aTQ.2 rfl);obtain⟨p,hp,hv⟩:=AI hx;have hvi:=v7 hi;obtain⟨len,el',hu,hel,_⟩:=a9U hty rfl rfl;obtain⟨k1,k2,k3,k4⟩:=YM hel h1 h2;obtain⟨ei,hei,hz⟩:=aTT.1 k2;have hb:(0:Int)<=n/\(n:Int)<(len:Int):=⟨hn0,a9V hn0 k1⟩;refine qV.pure hH (v:= .pointer (some ⟨p.1,p.2+off+oo,none⟩)) ?_ (.inr ⟨rfl,p,hp,by rw[aUn]⟩);simp only[execOp,ho,hv,hvi,Instr.indexAt,Instr.sureAddr,asIntOf,aTV,aT7,aTO,aTX hu,sizeOf,typeInfo,aUL,hei,hz,aTD hb,aUQ,k4]
   ·cases hr
  ·cases hr
 ·rename_i s u el by' ls_ u' y _ k n _;split at hr
  ·rename_i hu';subst hu';have hty:=sD hT hst;generalize hp:(Ty.pair s u).proj y (Int.toNat n)=q at hr;cases q with
   |none=>cases hr
   |some q=>
    obtain⟨v,z⟩:=q;simp only[SN] at hr;split at hr
    ·rename_i hpos;cases hr;have hn0:=hs _ (aTQ.2 rfl);obtain⟨b,off,cs,hv,hra,hS,hR⟩:=hx;have hvi:=v7 hi;obtain⟨oo,c1,c2,c3,h1,h2,rfl,rfl,h5⟩:=YK hR hp;obtain⟨len,el',hu,hel,_⟩:=a9U hty rfl rfl;obtain⟨k1,k2,k3,k4⟩:=YM hel h1 h2;obtain⟨ei,hei,hz⟩:=aTT.1 k2;have hb:(0:Int)<=n/\(n:Int)<(len:Int):=⟨hn0,a9V hn0 k1⟩;refine qV.pure hH (v:= .pointer (some ⟨b,off+c1.length,none⟩)) ?_ ⟨b,off+c1.length,c2,rfl,fun j v hj=> ?_,fun j hj=> ?_,h5⟩
     ·simp only[execOp,ho,hv,hvi,Instr.indexAt,Instr.sureAddr,asIntOf,aTV,aT7,aTO,aTX hu,sizeOf,typeInfo,aUL,hei,hz,aTD hb,aUQ,<-k4]
     ·have:=hra (c1.length+j) v (by
       have hj':=(aTU.1 hj).1;rw[aTN,aTP (by omega),aUw,aTY hj'];exact hj)
      rw[aUn];exact this
     ·have:=hS (c1.length+j) (by
       have:=s0 hR;have h6:=s0 h5;simp only[aTH] at this;omega)
      rw[aUn];exact this
    ·cases hr
  ·cases hr
 ·cases hr
end
theorem a9W (off:Nat): ∀(vl:List Value) (k:Nat) (cs:Array Value) (c1 c2 c3:List Value),cs.toList=c1++c2++c3->c1.length=off+k->c2.length=vl.length->
  ((vl.zipIdx k).foldl (fun(cs:Array Value) (p:Value×Nat)=>cs.setIfInBounds (off+p.2) p.1) cs).toList=c1++vl++c3
 |[],_,cs,c1,c2,c3,h,_,h2=>by
  have:c2=[]:=aUc (by simpa using h2);subst this;simpa using h
 |v::vl,k,cs,c1,c2,c3,h,h1,h2=>by
  cases c2 with
  |nil=>simp at h2
  |cons u c2=>
   simp only[List.zipIdx_cons,List.foldl_cons];have:=a9W off vl (k+1) (cs.setIfInBounds (off+k) v) (c1++[v]) c2 c3 (by
    rw[Array.toList_setIfInBounds,h,<-h1];simp) (by simp;omega) (by simpa using h2)
   rw[this];simp
theorem aJu (off:Nat) (vs cs:Array Value) (c1 c2 c3:List Value) (h:cs.toList=c1++c2++c3) (h1:c1.length=off) (h2:c2.length=vs.size):
  (vs.zipIdx.foldl (fun(cs:Array Value) (x:Value×Nat)=>match x with|(c,j)=>cs.setIfInBounds (off+j) c) cs).toList=c1++vs.toList++c3:=by
 rw[<-aVM,Array.toList_zipIdx];exact a9W off vs.toList 0 cs c1 c2 c3 h (by omega) (by simpa using h2)
theorem a9X {place:Nat->Option (Nat×Nat)}{cells:Array Value}{i:Nat}{v:Value}{rest:List (Nat×Value)}{off size:Nat}{c1 c2 c3:List Value}(hp:place i=some (off,size)) (hs:v.cells.size=size)
  (h:cells.toList=c1++c2++c3) (h1:c1.length=off) (h2:c2.length=size):
  Instr.fill place cells ((i,v)::rest)=Instr.fill place (c1++v.cells.toList++c3).toArray rest:=by
 have hsz:cells.size=c1.length+c2.length+c3.length:=by rw[<-aUd,h];simp;omega
 simp only[Instr.fill,hp];rw[aTG (by simp [hs];omega)];congr 1;apply aUP.1;rw[aJu off v.cells cells c1 c2 c3 h h1 (by omega)]
theorem YP: ∀{t:Ty}{cs:List Value},LB t=false->cs.length=t.cells->wR t cs
 | .bool,_,_,_=>trivial
 | .int _,_,_,_=>trivial
 | .str,_,_,_=>trivial
 | .unit,_,_,_=>trivial
 | .ref,_,_,_=>trivial
 | .clo,_,_,_=>trivial
 | .mp,_,_,_=>trivial
 | .rl _ _,_,_,_=>trivial
 | .fn,_,_,_=>trivial
 | .mref,_,_,_=>trivial
 | .list _,_,h,_=>by simp [LB] at h
 | .pair a b,cs,h,hl=>by
  simp only[LB,aUW] at h;simp only[Ty.cells] at hl;exact⟨cs.take a.cells,cs.drop a.cells,by simp,by rw[aT5];omega,YP h.1 (by rw[aT5];omega),YP h.2 (by rw[aTR];omega)⟩
theorem YQ: ∀t:Ty,(sV t).length=t.cells
 | .bool=>rfl
 | .int _=>rfl
 | .str=>rfl
 | .unit=>rfl
 | .ref=>rfl
 | .clo=>rfl
 | .mp=>rfl
 | .rl _ _=>rfl
 | .fn=>rfl
 | .mref=>rfl
 | .list _=>rfl
 | .pair a b=>by simp only[sV,aTH,YQ a,YQ b,Ty.cells]
theorem TH: ∀t:Ty,wR t (sV t)
 | .bool=>trivial
 | .int _=>trivial
 | .str=>trivial
 | .unit=>trivial
 | .ref=>trivial
 | .clo=>trivial
 | .mp=>trivial
 | .rl _ _=>trivial
 | .fn=>trivial
 | .mref=>trivial
 | .list _=>rfl
 | .pair a b=>⟨sV a,sV b,rfl,YQ a,TH a,TH b⟩
theorem a9Y {g:Gh}{w:World}: ∀{t:Ty}{x:t.den}{cs:List Value}{o:Nat},wR t cs->Rd g w t x cs->EL t o=true->∃(u:Ty),qK (.list u) t x o=some []/\cs[o]? =some (.slice none 0 0):=by
 intro t
 induction t with
 |pair a b iha ihb=>
  intro x cs o hn hr hl;obtain⟨c1,c2,e,h1,h2,h3⟩:=hn;obtain⟨d1,d2,e',r1,r2⟩:=hr;have hd:c1=d1/\c2=d2:=aVK (e.symm.trans e') (by rw[h1,s0 r1]);obtain⟨rfl,rfl⟩:=hd;have key: ∀(u:Ty) q,qK (.list u) (.pair a b) x q=if q<a.cells then qK (.list u) a x.1 q else qK (.list u) b x.2 (q-a.cells):=by
   intro u q;cases q with
   |zero=>
    conv=>lhs;unfold qK
    rw[aVo (by intro e;cases e),Nat.zero_sub]
   |succ q=>simp [qK]
  have hl':(if o<a.cells then EL a o else EL b (o-a.cells))=true:=by
   cases o<;>simpa[EL] using hl
  by_cases ho:o<a.cells
  ·rw[aTD ho] at hl';obtain⟨u,k1,k2⟩:=iha h2 r1 hl';exact⟨u,by rw[key,aTD ho];exact k1,by rw[e,aTY (by omega)];exact k2⟩
  ·rw[aTG ho] at hl';obtain⟨u,k1,k2⟩:=ihb h3 r2 hl';exact⟨u,by rw[key,aTG ho];exact k1,by rw[e,aTP (by omega),h1];exact k2⟩
 |list u=>
  intro x cs o hn hr hl;cases o with
  |succ o=>simp [EL] at hl
  |zero=>
   obtain⟨a,cap,e,_,_⟩:=hr;have hn':cs=[.slice none 0 0]:=hn;rw[hn'] at e;simp only[aUA,aVN,and_true] at e;have:(x:List u.den)=[]:=aUc e.2.1.symm;subst this;exact⟨u,by unfold qK;simp [tI],by rw[hn'];rfl⟩
 |_=>intro x cs o hn hr hl;cases o<;>simp [EL] at hl
theorem aJv {g:Gh}{w:World}{u:Ty}{y:u.den}{cy:List Value}(hy:Rd g w u y cy): ∀{t:Ty}{x z:t.den}{cs:List Value}{f:Nat},Rd g w t x cs->Ty.setPart u y t x f=some z->
  ∃o c1 c2 c3,t.offs f=some o/\t.fld f=some u/\cs=c1++c2++c3/\c1.length=o/\c2.length=u.cells/\Rd g w t z (c1++cy++c3)/\(wR t cs->wR u cy->wR t (c1++cy++c3)):=by
 intro t
 induction t with
 |pair a b _ ihb=>
  intro x z cs f r h;obtain⟨c1,c2,e,r1,r2⟩:=r;cases f with
  |zero=>
   simp only[Ty.setPart] at h;split at h
   ·rename_i hu;subst hu;simp only[tI,aTE] at h;subst h;refine⟨0,[],c1,c2,rfl,rfl,by simpa using e,rfl,s0 r1,⟨cy,c2,by simp,hy,r2⟩,fun⟨d1,d2,e',k1,_,k3⟩ hcy=> ?_⟩;obtain⟨rfl,rfl⟩:=aVK (e'.symm.trans e) (by rw[k1,s0 r1]);exact⟨cy,d2,by simp,s0 hy,hcy,k3⟩
   ·cases h
  |succ f=>
   simp only[Ty.setPart,aTT] at h;obtain⟨q,hq,rfl⟩:=h;obtain⟨o,d1,d2,d3,h1,h2,h3,h4,h5,h6,h7⟩:=ihb r2 hq;refine⟨a.cells+o,c1++d1,d2,d3,by simp [Ty.offs,h1],by simpa[Ty.fld] using h2,by rw[e,h3];simp,?_,h5,⟨c1,d1++cy++d3,by simp,r1,h6⟩,fun⟨k1,k2,e',k3,k4,k5⟩ hcy=>by
    obtain⟨rfl,rfl⟩:=aVK (e'.symm.trans e) (by rw[k3,s0 r1]);exact⟨k1,d1++cy++d3,by simp,k3,k4,h7 k5 hcy⟩⟩
   rw[aTH,h4,s0 r1]
 |_=>intro x z cs f r h;cases f<;>simp [Ty.setPart] at h
theorem YR {g:Gh}{w:World}{t:Ty}{ev:Operand->Value}{ρ:Operand->pD}{place:Nat->Option (Nat×Nat)}(hp: ∀f o u,t.offs f=some o->t.fld f=some u->place f=some (o,u.cells)):
  ∀(ps:List (Nat×Operand)) (x z:t.den) (cs:List Value),Rd g w t x cs->(∀q∈ps,r5 g w (ρ q.2) (ev q.2))->AF t (some x) (tP ρ ps)=some z->
  ∃cs',Instr.fill place cs.toArray (ps.map fun q=>(q.1,ev q.2))=some cs'.toArray/\Rd g w t z cs'/\(B3 (tP ρ ps)=true->wR t cs->wR t cs')
 |[],x,z,cs,r,_,h=>by
  simp only[tP,AF,aTE] at h;subst h;exact⟨cs,rfl,r,fun _ h=>h⟩
 |(i,q)::ps,x,z,cs,r,hq,h=>by
  have h0:=hq (i,q) (by simp);have step: ∀{u:Ty}{y:u.den}{z1:t.den},sE g w u y (ev q)->Ty.setPart u y t x i=some z1->AF t (some z1) (tP ρ ps)=some z->(B3 (tP ρ ((i,q)::ps))=true->wR u (ev q).cells.toList/\B3 (tP ρ ps)=true)->
    ∃cs',Instr.fill place cs.toArray (((i,q)::ps).map fun q=>(q.1,ev q.2))=some cs'.toArray/\Rd g w t z cs'/\(B3 (tP ρ ((i,q)::ps))=true->wR t cs->wR t cs'):=by
   intro u y z1 hv hset h hpl;obtain⟨o,c1,c2,c3,h1,h2,rfl,h4,h5,h6,h7⟩:=aJv (ER hv) r hset;obtain⟨cs',hf,hr,hn⟩:=YR hp ps z1 z _ h6 (fun q hq'=>hq q (by simp [hq'])) h;refine⟨cs',?_,hr,fun hpp hcs=>hn (hpl hpp).2 (h7 hcs (hpl hpp).1)⟩;simp only[aUS];rw[a9X (hp i o u h1 h2) (by have:=s0 (ER hv);simpa using this) (c1:=c1) (c2:=c2) (c3:=c3) (by simp) h4 h5];exact hf
  generalize hs:ρ q=s at h0;simp only[tP,hs] at h;obtain⟨d,k⟩:=s;cases d with
  |val u y=>
   simp only[AF] at h;generalize hset:Ty.setPart u y t x i=o1 at h;cases o1 with
   |none=>cases ps with
    |nil=>simp [tP,AF] at h
    |cons p ps=>simp [tP,AF] at h
   |some z1=>
    have hpl:B3 (tP ρ ((i,q)::ps))=true->wR u (ev q).cells.toList/\B3 (tP ρ ps)=true:=by
     intro hpp;simp only[tP,hs,B3,aTL,aT8] at hpp;exact⟨YP hpp.1 (s0 (ER h0.1)),hpp.2⟩
    obtain⟨cs',k1,k2,k3⟩:=step h0.1 hset h hpl;exact⟨cs',k1,k2,k3⟩
  |nilS=>
   simp only[AF] at h;generalize hfl:t.fld i=fl at h;cases fl with
   |none=>cases ps<;>simp [S1,tP,AF] at h
   |some u=>
    cases u with
    |list u=>
     simp only[S1] at h;generalize hset:Ty.setPart (.list u) [] t x i=o1 at h;cases o1 with
     |none=>cases ps<;>simp [tP,AF] at h
     |some z1=>
      have hev:ev q= .slice none 0 0:=h0.1;refine step (u:= .list u) (y:=[]) ?_ hset h (fun hpp=> ?_)
      ·rw[hev];exact .inr ⟨rfl,none,0,rfl,aTZ _,.inl rfl⟩
      ·simp only[tP,hs,B3] at hpp;exact⟨by rw[hev];rfl,hpp⟩
    |_=>cases ps<;>simp [S1,tP,AF] at h
  |_=>simp [AF] at h
section
variable {P:Program}{o:Oper}{a:Act}{g:Gh}{w:World}{H:rI}{T:rZ}(hT:wE P T) (hH:rT g w H)
include hT hH
theorem a9Z {P:Program}(w:World): ∀(fs:List Field),(∀f∈fs,∃n,(P.info? f.type).map (·.size)=some n)->
  (fs.mapM (fun f=>do pure (f.offset,<-sizeOf f.type):Field->Sem (Nat×Nat))).run P w= .ok (fs.map fun f=>(f.offset,((P.info? f.type).map (·.size)).getD 0)) w
 |[],_=>rfl
 |f::fs,h=>by
  obtain⟨n,hn⟩:=h f (by simp);obtain⟨i,hi,hsz⟩:=aTT.1 hn;rw[List.mapM_cons];simp only[aTV,sizeOf,typeInfo,aUL,hi,aTO,aT7];have:=a9Z w fs (fun f hf=>h f (by simp [hf]));simp only[sizeOf,typeInfo,aTV,aUL] at this;rw[this];simp [hi]
theorem aJw {P:Program}: ∀{ty:Ty}{off:Nat}{fs:List Field},LO P ty off fs->∀f∈fs,∃n,(P.info? f.type).map (·.size)=some n:=by
 intro ty
 induction ty with
 |pair a b _ ihb=>
  intro off fs h f hf;cases fs with
  |nil=>cases hf
  |cons fd fs=>
   obtain⟨_,h2,_,h4⟩:=h;rcases aTW.1 hf with rfl|hf
   ·exact⟨_,h2⟩
   ·exact ihb h4 f hf
 |unit=>intro off fs h f hf;cases fs with|nil=>cases hf|cons=>exact h.elim
 |_=>intro off fs h f hf;cases fs<;>exact h.elim
omit hT hH in
theorem TJ {t:Ty}{x:t.den}{cs:List Value}{ps:List (Nat×pD)}(h:B3 ps=true->wR t (sV t)->wR t cs):match ((DV.val t x,XT t (B3 ps)):pD) with
  |(_,none)=>True
  |(.val t x,some k)=>CP g t x (.agg cs.toArray) (some k)
  |(_,some _)=>False:=by
 cases hp:B3 ps with
 |false=>cases t<;>trivial
 |true=>
  cases t with
  |pair a b=>
   have:=h hp (TH _);simpa[XT,CP,Value.cells] using this
  |_=>trivial
omit hT in
theorem qV.pureS {s:pD}{v:Value}(hr:(execOp a.eval o).run P w= .ok (.value v) w) (hs:r5 g w s v):qV P o a g w H ⟨[],s,[],[]⟩:=
 qV.value hr (.pure hH hs)
theorem aJx {t:TypeId}{ps:Array (Nat×Operand)}(ho:o.op= .build t ps) {ρ:Operand->pD}(hρ: ∀q∈ps.toList,r5 g w (ρ q.2) (a.eval q.2)) {e:pQ}(hr:XU (tP ρ ps.toList) (r7 T t)=some e):qV P o a g w H e:=by
 generalize hs:r7 T t=ot at hr;cases ot with
 |none=>cases hr
 |some ti=>
  have hty:=sD hT hs;simp only[XU] at hr;by_cases hrow:ti.ty.isRow=true
  case neg=>rw[aTG hrow] at hr;cases hr
  rw[aTD hrow] at hr;generalize hb:AF ti.ty (some ti.ty.zero) (tP ρ ps.toList)=ox at hr;cases ox with
  |none=>cases hr
  |some x=>
   cases hr;obtain⟨i,hi,hsz,hz⟩:=FY hty;have hzv:wD ti.ty= .agg (sV ti.ty).toArray:=by unfold wD;rw[aTD hrow]
   have hzr: ∀w,(zeroValue t).run P w= .ok (.agg (sV ti.ty).toArray) w:=by
    intro w;simp [zeroValue,typeInfo,hi,hz,hzv]
   have hmap:(ps.map fun(q:Nat×Operand)=>(q.1,a.eval q.2)).toList=ps.toList.map fun q=>(q.1,a.eval q.2):=by simp
   rcases YN hty hrow with⟨har,fs,hfs,hfe⟩ |⟨har,n,el,hu,hel,hsome⟩
   ·have hpl:=a9Z (P:=P) hT hH w fs.toList (aJw hT hH hfe);obtain⟨cs',hf,hR,hN⟩:=YR (g:=g) (w:=w) (ev:=a.eval) (ρ:=ρ) (t:=ti.ty) (place:=fun j=>((fs.map fun f=>(f.offset,((P.info? f.type).map (·.size)).getD 0))[j]?)) (fun f oo u h1 h2=>by
     obtain⟨fd,k1,k2,k3,_⟩:=YL hfe h1 h2;have k1':fs[f]? =some fd:=by simpa using k1
     simp [k1',k2,k3]) ps.toList ti.ty.zero x (sV ti.ty) (DG g w ti.ty) hρ hb
    refine qV.pureS hH (v:= .agg cs'.toArray) ?_ ⟨.inl ⟨hrow,cs',rfl,hR⟩,TJ hN⟩;have hmp:(fs.mapM (fun f=>do pure (f.offset,<-sizeOf f.type):Field->Sem (Nat×Nat))).run P w= .ok (fs.map fun f=>(f.offset,((P.info? f.type).map (·.size)).getD 0)) w:=by
     rw[Array.mapM_eq_mapM_toList,Sem.run_map,hpl];simp only[aTO];congr 1;apply aUP.1;simp
    simp only[execOp,ho,Instr.build,aTV,hzr,aTO,aTX hfs,hmp,Value.cells];rw[hmap,hf];rfl
   ·obtain⟨cs',hf,hR,hN⟩:=YR (g:=g) (w:=w) (ev:=a.eval) (ρ:=ρ) (t:=ti.ty) (place:=fun j=>some (j*((P.info? el).map (·.size)).getD 0,((P.info? el).map (·.size)).getD 0)) (fun f oo u h1 h2=>by
     obtain⟨k1,k2,k3,k4⟩:=YM hel h1 h2;simp [k2,k4]) ps.toList ti.ty.zero x (sV ti.ty) (DG g w ti.ty) hρ hb
    refine qV.pureS hH (v:= .agg cs'.toArray) ?_ ⟨.inl ⟨hrow,cs',rfl,hR⟩,TJ hN⟩;obtain⟨ei,hei⟩:=aTF.1 hsome;simp only[hei,Option.map_some,aU8] at hf;simp only[execOp,ho,Instr.build,aTV,hzr,aTO,aTX hu,sizeOf,typeInfo,aUL,hei,aT7,Value.cells];rw[hmap,hf];rfl
theorem YS {ρ:Operand->pD}{ev:Operand->Value}: ∀{xs:List Operand}{ss:List pD},(∀x∈xs,r5 g w (ρ x) (ev x))->uO ρ xs=ss->∃vs,xs.map ev=vs/\vs.length=ss.length/\∀(i:Nat) (s:pD) (v:Value),ss[i]? =some s->vs[i]? =some v->r5 g w s v
 |[],_,_,h=>⟨[],rfl,by rw[<-h];rfl,fun i s v _ hv=>by simp at hv⟩
 |x::xs,ss,hx,h=>by
  subst h;obtain⟨vs,h1,h2,h3⟩:=YS (fun y hy=>hx y (by simp [hy])) rfl (xs:=xs);refine⟨ev x::vs,by simp [h1],by simp [uO,h2],fun i s v hs hv=> ?_⟩;cases i with
  |zero=>
   simp only[uO,aUb,aTE] at hs hv;subst hs;subst hv;exact hx x (by simp)
  |succ i=>
   simp only[uO,aUo] at hs hv;exact h3 i s v hs hv
theorem TK {ρ:Operand->pD}{ev:Operand->Value}{args:Array Operand}{s:pD}(hρ: ∀x∈args.toList,r5 g w (ρ x) (ev x)) (h:uO ρ args.toList=[s]): ∃v,args.map ev= #[v]/\r5 g w s v:=by
 obtain⟨vs,h1,h2,h3⟩:=YS hT hH hρ h;obtain⟨v,rfl⟩:=aUY.1 h2;exact⟨v,by apply aUP.1;simpa using h1,h3 0 s v rfl rfl⟩
theorem TL {ρ:Operand->pD}{ev:Operand->Value}{args:Array Operand}{s t:pD}(hρ: ∀x∈args.toList,r5 g w (ρ x) (ev x)) (h:uO ρ args.toList=[s,t]): ∃v u,args.map ev= #[v,u]/\r5 g w s v/\r5 g w t u:=by
 obtain⟨vs,h1,h2,h3⟩:=YS hT hH hρ h
 match vs,h2 with
 |[v,u],_=>exact⟨v,u,by apply aUP.1;simpa using h1,h3 0 s v rfl rfl,h3 1 t u rfl rfl⟩
theorem FZ {b:Builtin}{args:Array Operand}{tys:Array TypeId}(ho:o.op= .call ⟨.builtin b,args,tys⟩):
  ∃cs,execOp a.eval o=builtin b tys o.type cs (args.map a.eval):=by
 refine⟨args.map fun| .const _=>true|_=>false,?_⟩
 unfold execOp;rw[ho];rfl
theorem aJy (x y:Int):(if y<x then y else x)=min x y:=by rw[Int.min_def];split<;>split<;>omega
theorem aJz (x y:Int):(if y>x then y else x)=max x y:=by rw[Int.max_def];split<;>split<;>omega
theorem aJA {args:Array Operand}{tys:Array TypeId}(ho:o.op= .call ⟨.builtin .len,args,tys⟩) {ρ:Operand->pD}(hρ: ∀x∈args.toList,r5 g w (ρ x) (a.eval x)) {e:pQ}
  (hr:SW T H (uO ρ args.toList) tys.toList=some e):qV P o a g w H e:=by
 obtain⟨t0,tr,htl⟩: ∃t0 tr,tys.toList=t0::tr:=by cases h:tys.toList with|nil=>(rw[h] at hr;cases hr) |cons t r=>exact⟨t,r,rfl⟩
 have ht0:tys[0]? =some t0:=by rw[<-aUK,htl];rfl
 rw[htl] at hr;simp only[SW] at hr;generalize hst:r7 T t0=ot at hr;generalize hss:uO ρ args.toList=ss at hr;unfold Y4 at hr;split at hr
 ·rename_i el fl ar ls_ i k;generalize hb:pG H i=ob at hr;unfold SQ at hr;split at hr
  ·rename_i kt vt l;cases hr;obtain⟨v,hv,hs⟩:=TK hT hH hρ hss;have h2:=(sD hT hst).2;simp only[xU] at h2;obtain⟨p,es,cl,hp,hp0,hh,hM,hS⟩:=hH.blk i _ hb;obtain⟨p',hp',hxv⟩: ∃p,g.J i=some p/\v= .map (some p.1):=by
    rcases hs.1 with⟨h1,_⟩ |⟨_,p,h3,h4⟩
    ·cases h1
    ·simp only[aUA,and_true] at h4;exact⟨p,h3,h4⟩
   rw[hp] at hp';obtain rfl:=aTI hp';have hlen: ∀{l:List (kt.den×vt.den)}{es:List MapEntry},DD g w kt vt l es->es.length=l.length:=by
    intro l
    induction l with
    |nil=>intro es h;rw[show es=[] from h];rfl
    |cons q l ih=>intro es h;obtain⟨e,es',rfl,_,_,h5⟩:=h;simp [ih h5]
   refine qV.pure hH (v:= .int .i64 (List.length l:Int)) ?_ (vO _ _ _ _);obtain⟨cs,hx⟩:=FZ (a:=a) hT hH ho;rw[hx,hv,hxv];have harg:(#[Value.map (some p.1)]:Array Value)[0]? =some (.map (some p.1)):=rfl;have hobj:(getObj p.1).run P w= .ok (.map es cl) w:=by simp [getObj,Sem.run,hh]
   simp only[builtin,Builtin.len_,ht0,harg,aTV,aTX h2,aTO,aT7,goInt,hobj];rw[<-hlen hM,aUd]
  ·cases hr
 ·rename_i el by' ar ls_ l k;cases hr;obtain⟨v,hv,hs⟩:=TK hT hH hρ hss;have h2:=(sD hT hst).2;simp only[xU] at h2;have hv':=yB hs.1;refine qV.pure hH (v:= .int .i64 (List.length l:Int)) ?_ (vO _ _ _ _);subst hv';obtain⟨cs,hx⟩:=FZ (a:=a) hT hH ho;rw[hx,hv];have harg:(#[Value.string ⟨List.toArray l⟩]:Array Value)[0]? =some (.string ⟨List.toArray l⟩):=rfl;simp only[builtin,Builtin.len_,ht0,harg,aTV,aTX h2,aTO,aT7,goInt];rfl
 ·rename_i u el by' ar ls_ t l k;cases hr;obtain⟨v,hv,hs⟩:=TK hT hH hρ hss;have h2:=(sD hT hst).2.1;obtain⟨ad,cap,rfl,_⟩:=DH hs.1;refine qV.pure hH (v:= .int .i64 (List.length l:Int)) ?_ (vO _ _ _ _);obtain⟨cs,hx⟩:=FZ (a:=a) hT hH ho;rw[hx,hv];have harg:(#[Value.slice ad (List.length l) cap]:Array Value)[0]? =some (.slice ad (List.length l) cap):=rfl;simp only[builtin,Builtin.len_,ht0,harg,aTV,aTX h2,aTO,aT7,goInt]
 ·rename_i u el by' ar ls_ ko n k;cases hr;obtain⟨v,hv,hs⟩:=TK hT hH hρ hss;have h2:=(sD hT hst).2.1;obtain⟨ad,cap,rfl⟩: ∃ad cap,v= .slice ad n cap:=by
   rcases hs.1.2 with⟨h,rfl⟩ |⟨b,cap,h,_⟩
   ·exact⟨_,_,h⟩
   ·exact⟨_,_,h⟩
  refine qV.pure hH (v:= .int .i64 (n:Int)) ?_ (vO _ _ _ _);obtain⟨cs,hx⟩:=FZ (a:=a) hT hH ho;rw[hx,hv];have harg:(#[Value.slice ad n cap]:Array Value)[0]? =some (.slice ad n cap):=rfl;simp only[builtin,Builtin.len_,ht0,harg,aTV,aTX h2,aTO,aT7,goInt]
 ·cases hr
theorem a90 {args:Array Operand}{tys:Array TypeId}{mx:Bool}(ho:o.op= .call ⟨.builtin (if mx then .max else .min),args,tys⟩) {ρ:Operand->pD}(hρ: ∀x∈args.toList,r5 g w (ρ x) (a.eval x)) {e:pQ}
  (hr:AZ (SU mx (uO ρ args.toList))=some e):qV P o a g w H e:=by
 obtain⟨q,hq,rfl⟩:=JM hr;generalize hss:uO ρ args.toList=ss at hq;unfold SU at hq;split at hq
 ·rename_i k x k1 k' y k2;split at hq
  ·rename_i hk;subst hk;cases hq;obtain⟨v,u,hv,hs1,hs2⟩:=TL hT hH hρ hss;have e1:=v7 hs1.1;have e2:=v7 hs2.1;subst e1;subst e2;cases mx
   ·refine qV.pure hH (v:= .int k (min (x:Int) y)) ?_ (vO _ _ _ _);obtain⟨cs,hx⟩:=FZ (a:=a) hT hH ho;rw[hx,hv];have:=aJy hT hH x y;simp [builtin,Builtin.min_,Builtin.min2,this]
   ·refine qV.pure hH (v:= .int k (max (x:Int) y)) ?_ (vO _ _ _ _);obtain⟨cs,hx⟩:=FZ (a:=a) hT hH ho;rw[hx,hv];have:=aJz hT hH x y;simp [builtin,Builtin.max_,Builtin.max2,this]
  ·cases hq
 ·cases hq
theorem aJB {f:FuncId}{caps:Array Operand}(ho:o.op= .makeFunc (.func f) #[] caps) {ρ:Operand->pD}(hρ: ∀x∈caps.toList,r5 g w (ρ x) (a.eval x)) {e:pQ}
  (hr:a9w f (J5 (uO ρ caps.toList))=some e):qV P o a g w H e:=by
 generalize hc:J5 (uO ρ caps.toList)=oc at hr;cases oc with
 |none=>cases hr
 |some l=>
  cases hr;have key: ∀(xs:List Operand) (l:List (Nat×Nat)),(∀x∈xs,r5 g w (ρ x) (a.eval x))->J5 (uO ρ xs)=some l->xB g l (xs.map a.eval):=by
   intro xs
   induction xs with
   |nil=>intro l _ h;simp only[uO,J5,aTE] at h;subst h;rfl
   |cons x xs ih=>
    intro l hx h;have h0:=hx x (by simp);generalize hs:ρ x=s at h0;simp only[uO,hs] at h;obtain⟨d,k⟩:=s;unfold J5 at h;split at h
    ·cases ‹_=[]›
    ·rename_i p k r heq;simp only[aUA,aUa] at heq;obtain⟨⟨rfl,rfl⟩,rfl⟩:=heq;obtain⟨l',hl',rfl⟩:=aTT.1 h;obtain⟨i,off⟩:=p;obtain⟨p,hp,hv⟩:=AI h0.1;exact⟨p,_,hp,by rw[aUS,hv],ih l' (fun y hy=>hx y (by simp [hy])) hl'⟩
    ·cases h
  refine qV.pure hH (v:= .func (.func f) #[] (caps.map a.eval)) ?_ (.inr ⟨rfl,caps.toList.map a.eval,key _ _ hρ hc,by congr 2;apply aUP.1;simp⟩);simp [execOp,ho,Instr.makeFunc]
end
theorem YT {α:Type}{l:List α}{m n:Int}(h0:0≤m) (h1:m≤n) (h2:n≤(l.length:Int)):(pT l m n).length=n.toNat-m.toNat:=by
  unfold pT;rw[aT5,aTR];omega
theorem a91 {α:Type}{R:α→List Value→Prop}{c:Nat}: ∀{l:List α}{cs:List Value}{i:Nat}{x:α},sI R c l cs→l[i]? =some x→∃c1 c2 c3,cs=c1++c2++c3∧c1.length=i*c∧c2.length=c∧R x c2
  | y::l,_,0,x,⟨c1,c2,e,h1,h2,h3⟩,h=>by
    simp only[aUb,aTE] at h;subst h;exact⟨[],c1,c2,by simpa using e,by simp,h1,h2⟩
  | y::l,_,i+1,x,⟨c1,c2,e,h1,h2,h3⟩,h=>by
    simp only[aUo] at h;obtain⟨d1,d2,d3,e1,e2,e3,e4⟩:=a91 h3 h;exact⟨c1++d1,d2,d3,by rw[e,e1];simp,by rw[aTH,h1,e2,aUJ];omega,e3,e4⟩
theorem aJC {t:Ty}{l:List t.den}{i:Int}(h0:0≤i) (h:i.toNat<l.length):l[i.toNat]? =some (pU t l i):=by
  unfold pU;rw[aT6,aTM h];rfl
section
variable {P:Program}{o:Oper}{a:Act}{g:Gh}{w:World}{H:rI}{T:rZ}(hT:wE P T) (hH:rT g w H)
include hT hH
theorem TM {t:TypeId}{ti:TI}(hty:sM P t ti) {x:ti.ty.den}{b off:Nat}{cs:List Value}(hra:w.rangeAt b off cs) (hR:Rd g w ti.ty x cs):
    ∃v,(Instr.loadAt t (.pointer (some ⟨b,off,none⟩))).run P w= .ok v w∧sE g w ti.ty x v∧v.cells.toList=cs:=by
  obtain⟨d,hd,hrow⟩:=TF hty;obtain⟨i,hi,hsz,_⟩:=FY hty;have hl:=s0 hR;by_cases hr:ti.ty.isRow=true
  ·refine⟨.agg cs.toArray,run_loadAt_mid w b off t cs d hra hd (by rw[hrow,hr]) (by rw[hi,Option.map_some,hsz,hl]),.inl ⟨hr,cs,rfl,hR⟩,by simp [Value.cells]⟩
  · have hr':ti.ty.isRow=false:=by simpa using hr
    have h1:ti.ty.cells=1:=by
      obtain⟨ty,el,by',ar,ls⟩:=ti;cases ty<;>first|rfl|(simp [Ty.isRow] at hr')
    obtain⟨v,rfl⟩: ∃v,cs=[v]:=by rw[h1] at hl;exact aUY.1 hl
    have hv1:=B5 hR v (by simp);refine⟨v,?_,.inr ⟨hr',hR⟩,by cases v<;>first|rfl|(simp [Value.oneCell'] at hv1)⟩
    have hc:w.cell? ⟨b,off,none⟩=some v:=by simpa using hra 0 v rfl
    have hagg:(isAgg t).run P w= .ok false w:=by
      unfold isAgg;rw[aTV,aTX hd w];rw[hr'] at hrow;cases d<;>simp_all [TypeDesc.isRow]
    simp [Instr.loadAt,Instr.sureAddr,loadVar,aTV,hagg,hc]
theorem OS {b off:Nat}{c1 c2 c3:List Value}(h:w.rangeAt b off (c1++c2++c3)):w.rangeAt b (off+c1.length) c2:=fun j v hj=>by
  have:=h (c1.length+j) v (by
    have hj':=(aTU.1 hj).1;rw[aTN,aTP (by omega),aUw,aTY hj'];exact hj)
  rw[aUn];exact this
theorem a92 {k n c:Nat}{i:Int}{o':Nat}{v:Value}(hx:zK g w (.elt k n c i o') v) {e:TypeId}{t:Ty}{l:List t.den}{m:Nat}(hk:pG H k=some (.row e t l m)) (hnm:n=m) (hc:c=t.cells):
    ∃ b cap xs c1 c2 c3,v= .pointer (some ⟨b,i.toNat*c+o',none⟩)∧g.cur k m=some (.slice (some ⟨b,0,none⟩) m cap)∧w.ownsRow 0 e t.cells (.slice (some ⟨b,0,none⟩) m cap) m xs∧sI (Rd g w t) t.cells l xs∧l.length=m∧i.toNat<l.length∧0≤i∧
      xs=c1++c2++c3∧c1.length=i.toNat*c∧c2.length=c∧Rd g w t (pU t l i) c2:=by
  subst hnm;subst hc;obtain⟨b,cap,h1,h2,h3,hv⟩:=hx;obtain⟨hl,v0,xs,hv0,hown,hF,hnone,hseal⟩:=hH.blk k _ hk;rw[h1] at hv0;obtain rfl:=aTI hv0;have hi:i.toNat<l.length:=by rw[hl];omega
  obtain⟨c1,c2,c3,e1,e2,e3,e4⟩:=a91 hF (aJC h2 hi);exact⟨b,cap,xs,c1,c2,c3,hv,h1,hown,hF,hl,hi,h2,e1,e2,e3,e4⟩
theorem aJD {e:TypeId}{c n:Nat}{q cap:Nat}{xs:List Value}(h:w.ownsRow 0 e c (.slice (some ⟨q,0,none⟩) n cap) n xs):w.rangeAt q 0 xs:=fun j u hu=>by
  have:=h.cells (g:=q) rfl j u hu;rwa [aUQ] at this
theorem aJE {t:TypeId}{ti:TI}(hst:r7 T t=some ti) {k n c:Nat}{i:Int}{o':Nat}{vx:Value}(hx:zK g w (.elt k n c i o') vx) {e:pQ}(hr:O9 ti.ty k n c i o' (pG H k)=some e) (hs: ∀p∈e.side,p):
    ∃v,(Instr.loadAt t vx).run P w= .ok v w∧r5 g w e.slot v∧e.upd=[]:=by
  generalize hk:pG H k=ob at hr;unfold O9 at hr;split at hr
  · rename_i e' t' l m
    split at hr
    · rename_i hc
      generalize hga:qK ti.ty t' (pU t' l i) o'=oy at hr;cases oy with
      |none=>cases hr
      | some y=>
        cases hr;have hnm:=hs _ (aTQ.2 rfl);obtain⟨b,cap,xs,c1,c2,c3,hv,hcur,hown,hF,hl,hi,h0,e1,e2,e3,e4⟩:=a92 hT hH hx hk hnm hc;obtain⟨d1,d2,d3,f1,f2,f3⟩:=EQ e4 hga;have hra:=aJD hT hH hown;rw[e1] at hra;have hra2:=OS hT hH hra;rw[f1] at hra2;have hra3:=OS hT hH hra2;rw[aUg,e2,f2] at hra3;obtain⟨v,h1,h2,_⟩:=TM hT hH (sD hT hst) hra3 f3;exact⟨v,by rw[hv];exact h1,⟨h2,trivial⟩,rfl⟩
    ·cases hr
  ·cases hr
theorem YU: ∀{toks:List (Nat×Nat)}{q k:Nat},wC toks q=some k→(q,k)∈toks
  |[],_,_,h=>by simp [wC] at h
  | (q',k')::r,q,k,h=>by
    simp only[wC] at h;split at h
    · rename_i e
      subst e;simp only[aTE] at h;subst h;simp
    ·exact aTS _ (YU h)
theorem a93 {u v:Ty}: ∀{t:Ty}{x:t.den}{q:Nat}{l:List u.den}{y:v.den},qK (.list u) t x q=some l→qK v t x q=some y→v.isRow=false→∃h:v= .list u,tI h y=l:=by
  intro t
  induction t with
  | pair s t ihs iht=>
    intro x q l y h1 h2 hv
    have key: ∀q,(if q<s.cells then qK (.list u) s x.1 q else qK (.list u) t x.2 (q-s.cells))=some l→(if q<s.cells then qK v s x.1 q else qK v t x.2 (q-s.cells))=some y→∃h:v= .list u,tI h y=l:=by
      intro q h1 h2;by_cases hq:q<s.cells
      ·rw[aTD hq] at h1 h2;exact ihs h1 h2 hv
      ·rw[aTG hq] at h1 h2;exact iht h1 h2 hv
    cases q with
    | zero=>
      have e1:Ty.pair s t≠.list u:=by intro h;cases h
      have e2:Ty.pair s t≠v:=by intro h;subst h;simp [Ty.isRow] at hv
      unfold qK at h1 h2;rw[aVo e1] at h1;rw[aVo e2] at h2;exact key 0 (by simpa using h1) (by simpa using h2)
    |succ q=>exact key (q+1) (by simpa[qK] using h1) (by simpa[qK] using h2)
  | _=>
    intro x q l y h1 h2 hv;cases q with
    | zero=>
      unfold qK at h1 h2;split at h1
      · rename_i e1
        split at h2
        · rename_i e2
          first
          |(cases e1;done)
          | (subst e2
             injection e1 with e1'
             subst e1';simp only[tI,aTE] at h1 h2;subst h1;subst h2;exact⟨rfl,rfl⟩)
        ·simp at h2
      ·simp at h1
    |succ q=>simp [qK] at h1
theorem aJF {t:TypeId}{ti:TI}(hty:sM P t ti) (hr:ti.ty.isRow=false) {b off:Nat}{v:Value}(hc:w.cell? ⟨b,off,none⟩=some v):
    (Instr.loadAt t (.pointer (some ⟨b,off,none⟩))).run P w= .ok v w:=by
  obtain⟨d,hd,hrow⟩:=TF hty
  have hagg:(isAgg t).run P w= .ok false w:=by
    unfold isAgg;rw[aTV,aTX hd w];rw[hr] at hrow;cases d<;>simp_all [TypeDesc.isRow]
  simp [Instr.loadAt,Instr.sureAddr,loadVar,aTV,hagg,hc]
omit hT hH in
theorem a94 {a b:Option pQ}{e:pQ}(h:orE a b=some e):a=some e∨b=some e:=by
  cases a with
  |some r=>exact .inl h
  |none=>exact .inr h
theorem aJG {t:TypeId}{ti:TI}{x:Operand}(ho:o.op= .load t x) (hs:r7 T t=some ti) {i off:Nat}(hx:sE g w .ref (some (i,off)) (a.eval x)) {e:pQ}(hr:SF i off ti (pG H i)=some e):qV P o a g w H e:=by
  have hty:=sD hT hs;generalize hb:pG H i=ob at hr;unfold SF at hr;split at hr
  · rename_i u el _ _ _ v x' toks
    generalize hga:qK (.rl el u) v x' off=oy at hr;unfold XW at hr;split at hr
    · rename_i k n
      cases hr;obtain⟨p,hp,hv⟩:=AI hx;obtain⟨p',cs,hp',hR,hra,_⟩:=hH.blk i _ hb;rw[hp] at hp';obtain rfl:=aTI hp';obtain⟨c1,c2,c3,rfl,rfl,hR2⟩:=EQ hR hga;obtain⟨v0,hcur,rfl,hsh⟩:=hR2;have hc:w.cell? ⟨p.1,p.2+c1.length,none⟩=some v0:=by simpa using OS hT hH hra 0 _ rfl
      have h1:=aJF (P:=P) hT hH hty rfl hc;exact qV.value (v:=v0) (g':=g) (w':=w) (by simp only[execOp,ho,hv,aTV,h1,aTO,aT7]) (.pure hH ⟨⟨hcur,hsh⟩,trivial⟩)
    ·cases hr
  ·cases hr
theorem aJH {t:TypeId}{x:Operand}(ho:o.op= .load t x) {sx:pD}(hx:r5 g w sx (a.eval x)) {e:pQ}(hr:SG H (r7 T t) sx=some e) (hside: ∀p∈e.side,p):qV P o a g w H e:=by
  generalize hs:r7 T t=ot at hr;replace hx:=hx.1;unfold SG at hr;split at hr
  · rename_i ti k n c i o' _
    obtain⟨v,h1,h2,h3⟩:=aJE hT hH hs hx hr hside;obtain⟨side,slot,upd,rds⟩:=e;simp only at h2 h3;subst h3;exact qV.value (v:=v) (g':=g) (w':=w) (by simp only[execOp,ho,aTV,h1,aTO,aT7]) (.pure hH h2)
  · rename_i ti u y k
    split at hr
    · rename_i hu
      subst hu;cases hr;have hty:=sD hT hs;obtain⟨b,off,cs,hv,hra,hS,hR⟩:=hx;obtain⟨v,h1,h2,_⟩:=TM hT hH hty hra hR;exact qV.pure hH (v:=v) (by simp only[execOp,ho,hv,aTV,h1,aTO,aT7]) h2
    ·cases hr
  · rename_i ti i off k
    rcases a94 hr with hr|hr
    case inr=>exact aJG hT hH ho hs hx hr
    have hty:=sD hT hs;generalize hb:pG H i=ob at hr;unfold O8 at hr;split at hr
    · rename_i u z toks
      generalize hga:qK ti.ty u z off=oy at hr;cases oy with
      |none=>cases hr
      | some y=>
        cases hr;obtain⟨p,hp,hv⟩:=AI hx;obtain⟨p',cs,hp',hR,hra,_,_,htk⟩:=hH.blk i _ hb;rw[hp] at hp';obtain rfl:=aTI hp';obtain⟨c1,c2,c3,rfl,rfl,hR2⟩:=EQ hR hga;obtain⟨v,h1,h2,h3⟩:=TM hT hH hty (OS hT hH hra) hR2;refine qV.value (v:=v) (g':=g) (w':=w) (by simp only[execOp,ho,hv,aTV,h1,aTO,aT7]) (.pure hH ⟨h2,?_⟩);obtain⟨ty,el,by',ar,ls⟩:=ti;cases ty with
        | list u'=>
          simp only[FN];generalize htt:wC toks c1.length=ok;cases ok with
          |none=>trivial
          | some k=>
            obtain⟨u2,l,v',g1,g2,g3⟩:=htk _ _ (YU hT hH htt);obtain⟨heq,hl⟩:=a93 hT hH g1 hga rfl;injection heq with heq'
            subst heq';have hlen:=s0 hR2;obtain⟨v2,rfl⟩:=aUY.1 hlen
            have e2:v'=v2:=by
              have e:(c1++[v2]++c3)[c1.length]? =some v2:=by simp
              rw[e] at g2;exact(aTI g2).symm
            have e3:v=v2:=by
              have h4:=C1 rfl h2;have hone:=B5 h4 v (by simp);have:v.cells= #[v]:=by cases v<;>first|rfl|(simp [Value.oneCell'] at hone)
              rw[this] at h3;simpa using h3
            subst e2;subst e3;have e4:(y:List u'.den)=l:=hl;subst e4;exact g3
        |_=>trivial
    ·cases hr
  ·cases hr
theorem TN {ρ:Operand→pD}{x:Option Operand}{n m:Int}(hρ: ∀y∈x.toList,r5 g w (ρ y) (a.eval y)) (h:D7 (yT ρ x) n=some m):(x=none∧m=n)∨∃y k,x=some y∧a.eval y= .int k m:=by
  cases x with
  |none=>simp only[yT,D7,aTE] at h;exact .inl ⟨rfl,h.symm⟩
  | some y=>
    have h0:=hρ y (by simp);simp only[yT] at h;unfold D7 at h;split at h
    ·cases ‹some _=none›
    · rename_i k q kk heq
      simp only[aTE] at heq h;rw[heq] at h0;subst h;exact .inr ⟨y,k,rfl,v7 h0.1⟩
    ·cases h
theorem a95 {isSlice:Bool}{len cap:Nat}{lo hi:Option Operand}{m n:Int}(hlo:(lo=none∧m=0)∨∃y k,lo=some y∧a.eval y= .int k m) (hhi:(hi=none∧n=(len:Int))∨∃y k,hi=some y∧a.eval y= .int k n)
    (h0:0≤m) (h1:m≤n) (h2:n≤(len:Int)) (h3:len≤cap):(Instr.sliceBounds isSlice len cap (lo.map a.eval) (hi.map a.eval) none).run P w= .ok (m.toNat,n.toNat,cap) w:=by
  have e1:(n.toNat:Int)=n:=Int.toNat_of_nonneg (by omega);rcases hlo with⟨rfl,rfl⟩ |⟨y,k,rfl,hy⟩<;>rcases hhi with⟨rfl,rfl⟩ |⟨z,k',rfl,hz⟩
  ·simp [Instr.sliceBounds]
  ·simp [Instr.sliceBounds,hz,run_sliceBound,(by omega:0≤n),(by omega:n≤(cap:Int))]
  ·simp [Instr.sliceBounds,hy,run_sliceBound,h0,h1]
  ·simp [Instr.sliceBounds,hy,hz,run_sliceBound,(by omega:0≤n),(by omega:n≤(cap:Int)),e1,h0,h1]
theorem aJI {t:TypeId}{x:Operand}{lo hi:Option Operand}(ho:o.op= .slice t x lo hi none) {ρ:Operand→pD}(hx:r5 g w (ρ x) (a.eval x)) (hlo: ∀y∈lo.toList,r5 g w (ρ y) (a.eval y)) (hhi: ∀y∈hi.toList,r5 g w (ρ y) (a.eval y)) {e:pQ}
    (hr:AZ (XH (r7 T t) (ρ x) (yT ρ lo) (yT ρ hi))=some e) (hs: ∀p∈e.side,p):qV P o a g w H e:=by
  obtain⟨q,hq,rfl⟩:=JM hr;replace hx:=hx.1;generalize hst:r7 T t=ot at hq;generalize hsx:ρ x=sx at hq hx;unfold XH at hq;split at hq
  · rename_i el by' ar ls_ l k
    generalize hb1:D7 (yT ρ lo) 0=o1 at hq;generalize hb2:D7 (yT ρ hi) (List.length l)=o2 at hq;unfold S0 at hq;split at hq
    · rename_i m n
      cases hq;obtain⟨k1,k2,k3⟩:=hs _ (aTQ.2 rfl);have h2:=(sD hT hst).2;simp only[xU] at h2;have hv:=yB hx;have hbd:=a95 (P:=P) (isSlice:=false) (cap:=List.length l) hT hH (TN hT hH hlo hb1) (TN hT hH hhi hb2) k1 k2 k3 (aTZ _);refine qV.pure hH (v:= .string ⟨(pT l m n).toArray⟩) ?_ (FX _ _ _);have hsz:(⟨List.toArray l⟩:ByteArray).size=List.length l:=by simp [ByteArray.size]
      have hext:(⟨List.toArray l⟩:ByteArray).extract m.toNat n.toNat=⟨(pT l m n).toArray⟩:=by
        apply ByteArray.ext;apply aUP.1;simp [pT]
      simp only[execOp,ho,hv,Option.map_none,Instr.sliceAt,Instr.slice,aTV,aTX h2,aTO,Option.isSome_none,aUU,aVU,hsz,hbd,hext,aT7]
    ·cases hq
  · rename_i u el by' ar ls_ t1 l k
    split at hq
    · rename_i htu
      subst htu;generalize hb1:D7 (yT ρ lo) 0=o1 at hq;generalize hb2:D7 (yT ρ hi) (List.length l)=o2 at hq;unfold S0 at hq;split at hq
      · rename_i m n
        cases hq;obtain⟨k1,k2,k3⟩:=hs _ (aTQ.2 rfl);obtain⟨h2,h3,_⟩:=(sD hT hst).2;obtain⟨ei,hei,hz⟩:=aTT.1 h3;simp only[aUa] at hz;obtain⟨ad,cap,hv,hle,hl⟩:=DH hx;have hbd:=a95 (P:=P) (isSlice:=true) (cap:=cap) hT hH (TN hT hH hlo hb1) (TN hT hH hhi hb2) k1 k2 k3 hle;refine qV.pure hH (v:= .slice (if cap=m.toNat then ad else ad.map (·.add (m.toNat*t1.cells))) (n.toNat-m.toNat) (cap-m.toNat)) ?_ (.inr ⟨rfl,(if cap=m.toNat then ad else ad.map (·.add (m.toNat*t1.cells))),cap-m.toNat,?_,?_,?_⟩)
        ·simp only[execOp,ho,hv,Option.map_none,Instr.sliceAt,Instr.slice,aTV,aTX h2,aTO,hbd,sizeOf,typeInfo,aUL,hei,hz.1,aT7]
        ·rw[YT k1 k2 k3]
        ·rw[YT k1 k2 k3];omega
        · rcases hl with rfl|⟨b,off,rfl,hL⟩
          ·exact .inl (by simp [pT])
          · by_cases hc:cap=m.toNat
            · left
              apply aUc;rw[YT k1 k2 k3];omega
            · right
              rw[aTG hc];refine⟨b,off+m.toNat*t1.cells,by simp [aUQ],?_⟩;exact a9S _ (a9R _ hL (by omega))
      ·cases hq
    ·cases hq
  ·cases hq
end
theorem OT {α:Type}{R:α->List Value->Prop}{c:Nat}(hR: ∀x cs,R x cs->∀v∈cs,v.oneCell'=true): ∀{l:List α}{cs:List Value},sI R c l cs->∀v∈cs,v.oneCell'=true
 |[],_,h=>by rw[h];simp
 |_::_,_,⟨c1,c2,e,_,h2,h3⟩=>by
  subst e;intro v hv;rcases aUz.1 hv with h|h
  ·exact hR _ _ h2 v h
  ·exact OT hR h3 v h
theorem YV {α:Type}{R:α->List Value->Prop}{c:Nat}: ∀{l:List α}{cs cy:List Value}{i:Nat}{y:α},sI R c l cs->R y cy->cy.length=c->i<l.length->
  ∃c1 c2 c3,cs=c1++c2++c3/\c1.length=i*c/\c2.length=c/\sI R c (l.set i y) (c1++cy++c3)
 |[],_,_,_,_,_,_,_,h=>by simp at h
 |_::l,_,cy,0,y,⟨c1,c2,e,h1,_,h3⟩,hy,hc,_=>⟨[],c1,c2,by simpa using e,by simp,h1,⟨cy,c2,by simp,hc,hy,h3⟩⟩
 |x::l,_,cy,i+1,y,⟨c1,c2,e,h1,h2,h3⟩,hy,hc,hi=>by
  obtain⟨d1,d2,d3,e1,e2,e3,e4⟩:=YV h3 hy hc (by simpa using hi);refine⟨c1++d1,d2,d3,by rw[e,e1];simp,by rw[aTH,h1,e2,aUJ];omega,e3,⟨c1,d1++cy++d3,by simp,h1,h2,e4⟩⟩
theorem LP {α:Type}{R:α->List Value->Prop}{w:World}{S:Nat->Nat->Prop}{c b:Nat}: ∀{l:List α}{o:Nat},xR R w S c b o l->∃cs,sI R c l cs/\w.rangeAt b o cs/\∀j,j<l.length*c->S b (o+j)
 |[],o,_=>⟨[],rfl,fun j v h=>by simp at h,fun j h=>by simp at h⟩
 |x::l,o,⟨⟨c1,h1,h2,h3,h4⟩,h5⟩=>by
  obtain⟨c2,k1,k2,k3⟩:=LP h5;refine⟨c1++c2,⟨c1,c2,rfl,h1,h4,k1⟩,fun j v hv=> ?_,fun j hj=> ?_⟩
  ·by_cases hj:j<c
   ·exact h2 j v (by rwa [aTY (by omega)] at hv)
   ·have:=k2 (j-c) v (by rw[aTP (by omega),h1] at hv;exact hv);rwa [show o+c+(j-c)=o+j from by omega] at this
  ·by_cases hj':j<c
   ·exact h3 j hj'
   ·have:=k3 (j-c) (by rw[aTJ,aUJ] at hj;omega);rwa [show o+c+(j-c)=o+j from by omega] at this
theorem LQ {α:Type}{R:α->List Value->Prop}{w:World}{S:Nat->Nat->Prop}{c b:Nat}: ∀{l:List α}{o:Nat}{cs:List Value},sI R c l cs->w.rangeAt b o cs->(∀j,j<l.length*c->S b (o+j))->xR R w S c b o l
 |[],_,_,_,_,_=>trivial
 |x::l,o,cs,⟨c1,c2,e,h1,h2,h3⟩,hr,hS=>by
  subst e;refine⟨⟨c1,h1,fun j v hv=>hr j v (by rw[aTY (aTU.1 hv).1];exact hv),fun j hj=>hS j (by rw[aTJ,aUJ];omega),h2⟩,LQ h3 (fun j v hv=> ?_) (fun j hj=> ?_)⟩
  ·have:=hr (c+j) v (by rw[aTP (by omega),h1,aUw];exact hv);rwa [<-aUn] at this
  ·have:=hS (c+j) (by rw[aTJ,aUJ];omega);rwa [<-aUn] at this
theorem a96 {g:Gh}{w:World}{t:Ty}: ∀n,sI (Rd g w t) t.cells (CK t n) (List.flatten (List.replicate n (sV t)))
 |0=>rfl
 |n+1=>⟨sV t,_,rfl,s0 (DG g w t),DG g w t,a96 n⟩
theorem a97 (t:Ty): ∀n,(CK t n).length=n
 |0=>rfl
 |n+1=>by simp [CK,a97 t n]
def Gh.tok (g:Gh) (k n:Nat) (v:Value):Gh:={g with cur:=fun k' n'=>if k'=k/\n'=n then some v else g.cur k' n'}
def Gh.var (g:Gh) (i b:Nat) (k:Option (TypeId×Nat)):Gh:={g with J:=fun i'=>if i'=i then some ⟨b,0,k⟩ else g.J i'}
def Gh.shut (g:Gh) (b m:Nat):Gh:={g with S:=fun b' o=>g.S b' o\/(b'=b/\o<m)}
section
variable {g:Gh}{w:World}{H:rI}(hH:rT g w H)
include hH
theorem rG.nilTok {side:List Prop}{d:DV}{rds:List Nat}{base e c:Nat}{u:Ty}(hd:d= .val (.list u) []) (hf: ∀n,g.cur base n=none):
  rG g w H ⟨side,(d,some base),[(base,.grow e c 0)],rds⟩ (g.tok base 0 (.slice none 0 0)) w (.slice none 0 0):=by
 have le:Le g w (g.tok base 0 (.slice none 0 0)) w:=⟨fun _ _ h=>h,fun _ _ _=>rfl,fun _ _ h=>h,fun k n v h=>by
  show (if k=base/\n=0 then _ else _)=_;rw[aTG (fun⟨e1,_⟩=>by rw[e1,hf] at h;cases h)];exact h⟩
 have fr:Fr (s9 g H (pH [(base,pC.grow e c 0)])) w w g.S (g.tok base 0 (.slice none 0 0)).S:= .refl _ _ _;have gho: ∀i,i∉pH [(base,pC.grow e c 0)]->(g.tok base 0 (.slice none 0 0)).J i=g.J i/\(g.tok base 0 (.slice none 0 0)).cur i=g.cur i:=fun i hi=>⟨rfl,by
  funext n;show (if i=base/\n=0 then _ else _)=_;rw[aTG (fun⟨e1,_⟩=>hi (by simp [pH,e1]))]⟩
 have cur0:(g.tok base 0 (.slice none 0 0)).cur base 0=some (.slice none 0 0):=by simp [Gh.tok]
 have own: ∀i blk b o,i∈pH [(base,pC.grow e c 0)]->pG (pX [(base,pC.grow e c 0)] H) i=some blk->¬rJ (g.tok base 0 (.slice none 0 0)) i blk b o:=by
  intro i blk b o hi hg ho;simp only[pH,aTQ] at hi;subst hi;simp only[pX,pG,aVg,aTE] at hg;subst hg;obtain⟨v,hv,hb⟩:=ho;rw[cur0] at hv;obtain rfl:=aTI hv;cases hb
 subst hd;refine⟨le,⟨.inr ⟨rfl,none,0,rfl,aTZ _,.inl rfl⟩,cur0⟩,hH.upd le fr (fun i blk b o h1 h2 h3=>absurd h3 (own i blk b o h1 h2)) gho (fun i blk hi hg=> ?_) (fun i j bi bj b o hi hj hij hgi hgj hoi hoj=>own i bi b o hi hgi hoi) hH.sl,fr,fun i blk b o h1 h2 h3=>absurd h3 (own i blk b o h1 h2),gho,fun i u' y us h=>by
  simp only[pX,pG] at h;split at h
  ·cases h
  ·exact .inl ⟨y,us,h⟩⟩
 simp only[pH,aTQ] at hi;subst hi;simp only[pX,pG,aVg,aTE] at hg;subst hg;refine⟨.slice none 0 0,[],cur0,World.ownsRow_nil w 0 e c,fun m hm=> ?_,fun b hb=>by cases hb⟩;show (if i=i/\m=0 then _ else _)=_;rw[aTG (by omega)];exact hf m
theorem rG.row {side:List Prop}{rds:List Nat}{s:pD}{val:Value}{k:Nat}{e:TypeId}{t:Ty}{l:List t.den}{n:Nat}{v:Value}{xs:List Value}{w':World}
  (hl:l.length=n) (hown:w'.ownsRow 0 e t.cells v n xs) (hF:sI (Rd g w t) t.cells l xs) (hnone: ∀m,n<m->g.cur k m=none) (hcur: ∀u,g.cur k n=some u->u=v)
  (hg:w.grownBy w' (v.ownBlock)\/∃q,w.grownBy w' q/\∀b,q=some b->∀o,s9 g H [k] b o)
  (hcell: ∀b o,g.S b o->w'.cell? ⟨b,o,none⟩=w.cell? ⟨b,o,none⟩)
  (hseal: ∀b,v.ownBlock=some b->∀o,¬g.S b o)
  (hperm: ∀b,v.ownBlock=some b->w.heap.size<=b\/∀o,s9 g H [k] b o)
  (hslot:r5 (g.tok k n v) w' s val):rG g w H ⟨side,s,[(k,.row e t l n)],rds⟩ (g.tok k n v) w' val:=by
 have le:Le g w (g.tok k n v) w':=⟨fun _ _ h=>h,fun b o h=>hcell b o h,fun _ _ h=>h,fun k' n' v' h=>by
  show (if k'=k/\n'=n then _ else _)=_;by_cases hk:k'=k/\n'=n
  ·obtain⟨rfl,rfl⟩:=hk;rw[aTD ⟨rfl,rfl⟩,hcur _ h]
  ·rw[aTG hk];exact h⟩
 have cur1:(g.tok k n v).cur k n=some v:=by simp [Gh.tok]
 have hblk: ∀b,b<w.heap.size->(∀o,¬s9 g H (pH [(k,pC.row e t l n)]) b o)->w'.heap[b]? =w.heap[b]? :=by
  intro b hb hno;rcases hg with hg|⟨q,hg,hq⟩
  ·refine hg.block b hb (fun e1=> ?_);rcases hperm b e1.symm with h|h
   ·omega
   ·exact hno 0 (h 0)
  ·exact hg.block b hb (fun e1=>hno 0 (hq b e1.symm 0))
 have hgo:w'.os=w.os/\w'.tape=w.tape/\w'.output=w.output/\w.heap.size<=w'.heap.size:=by
  rcases hg with hg|⟨q,hg,_⟩
  ·exact⟨hg.os,hg.tape,hg.output,hg.size⟩
  ·exact⟨hg.os,hg.tape,hg.output,hg.size⟩
 have hall: ∀b o,s9 g H (pH [(k,pC.row e t l n)]) b o->True:=fun _ _ _=>trivial;have hcell2: ∀b o,b<w.heap.size->¬s9 g H (pH [(k,pC.row e t l n)]) b o->(w'.cell? ⟨b,o,none⟩=w.cell? ⟨b,o,none⟩/\w'.frozen? ⟨b,o,none⟩=w.frozen? ⟨b,o,none⟩):=by
  intro b o hb hno;have:w'.heap[b]? =w.heap[b]? :=by
   rcases hg with hg|⟨q,hg,hq⟩
   ·refine hg.block b hb (fun e1=> ?_);rcases hperm b e1.symm with h|h
    ·omega
    ·exact hno (h o)
   ·exact hg.block b hb (fun e1=>hno (hq b e1.symm o))
  exact⟨aT4 (a:=⟨b,o,none⟩) this,aUD (a:=⟨b,o,none⟩) this⟩
 have hshape: ∀b s,w.shape? b=some s->w'.shape? b=some s\/∀o,s9 g H (pH [(k,pC.row e t l n)]) b o:=by
  intro b s hs;rcases hg with hg|⟨q,hg,hq⟩
  ·by_cases e1:v.ownBlock=some b
   ·rcases hperm b e1 with h|h
    ·have:=DE hs;omega
    ·exact .inr h
   ·exact .inl ((DF (hg.block b (DE hs) (fun h=>e1 h.symm))).trans hs)
  ·by_cases e1:q=some b
   ·exact .inr (hq b e1)
   ·exact .inl ((DF (hg.block b (DE hs) (fun h=>e1 h.symm))).trans hs)
 have fr:Fr (s9 g H (pH [(k,pC.row e t l n)])) w w' g.S (g.tok k n v).S:=⟨hgo.1,hgo.2.1,hgo.2.2.1,hgo.2.2.2,hblk,hcell2,fun b o h=> .inl h,hshape⟩;have gho: ∀i,i∉pH [(k,pC.row e t l n)]->(g.tok k n v).J i=g.J i/\(g.tok k n v).cur i=g.cur i:=fun i hi=>⟨rfl,by
  funext n';show (if i=k/\n'=n then _ else _)=_;rw[aTG (fun⟨e1,_⟩=>hi (by simp [pH,e1]))]⟩
 have get: ∀i blk,i∈pH [(k,pC.row e t l n)]->pG (pX [(k,pC.row e t l n)] H) i=some blk->i=k/\blk= .row e t l n:=by
  intro i blk hi hg;simp only[pH,aTQ] at hi;subst hi;simp only[pX,pG,aVg,aTE] at hg;exact⟨rfl,hg.symm⟩
 have perm: ∀i blk b o,i∈pH [(k,pC.row e t l n)]->pG (pX [(k,pC.row e t l n)] H) i=some blk->rJ (g.tok k n v) i blk b o->w.heap.size<=b\/s9 g H (pH [(k,pC.row e t l n)]) b o:=by
  intro i blk b o hi hgt ho;obtain⟨rfl,rfl⟩:=get i blk hi hgt;obtain⟨v',hv',hb⟩:=ho;rw[cur1] at hv';obtain rfl:=aTI hv';exact(hperm b hb).imp id (fun h=>h o)
 refine⟨le,hslot,hH.upd le fr perm gho (fun i blk hi hgt=> ?_) (fun i j bi bj b o hi hj hij hgi hgj _ _=>hij ((get i bi hi hgi).1.trans (get j bj hj hgj).1.symm)) (fun b o h=>aUj (hH.sl b o h) hgo.2.2.2),fr,perm,gho,fun i u' y us h=>by
  simp only[pX,pG] at h;split at h
  ·cases h
  ·exact .inl ⟨y,us,h⟩⟩
 obtain⟨rfl,rfl⟩:=get i blk hi hgt;refine⟨hl,v,xs,cur1,hown,CQ (fun _ _ h=>wS le h) hF,fun m hm=> ?_,hseal⟩;show (if i=i/\m=n then _ else _)=_;rw[aTG (by omega)];exact hnone m hm
theorem rG.newVarJ {side:List Prop}{rds:List Nat}{base:Nat}{t:Ty}{x:t.den}{toks:List (Nat×Nat)}{cs:List Value}{e:TypeId}(hR:Rd (g.var base w.heap.size (some (e,cs.length))) w t x cs) (htk:FW g t x cs toks) (hf:g.J base=none) (hc:g.cur base=fun _=>none):
  rG g w H ⟨side,(.val .ref (some (base,0)),none),[(base,.cells t x toks)],rds⟩ (g.var base w.heap.size (some (e,cs.length))) (w.alloc (.cells cs.toArray e)) (.pointer (some ⟨w.heap.size,0,none⟩)):=by
 have hJ:(g.var base w.heap.size (some (e,cs.length))).J base=some ⟨w.heap.size,0,some (e,cs.length)⟩:=by simp [Gh.var]
 have le:Le g w (g.var base w.heap.size (some (e,cs.length))) (w.alloc (.cells cs.toArray e)):=⟨fun _ _ h=>h,fun b o h=>aT4 (a:=⟨b,o,none⟩) (aT9 _ _ _ (hH.sl b o h)),fun i p h=>by
  show (if i=base then _ else _)=_;rw[aTG (fun e1=>by rw[e1,hf] at h;cases h)];exact h,fun _ _ _ h=>h⟩
 have le2:Le (g.var base w.heap.size (some (e,cs.length))) w (g.var base w.heap.size (some (e,cs.length))) (w.alloc (.cells cs.toArray e)):=⟨fun _ _ h=>h,fun b o h=>aT4 (a:=⟨b,o,none⟩) (aT9 _ _ _ (hH.sl b o h)),fun _ _ h=>h,fun _ _ _ h=>h⟩;have fr:Fr (s9 g H (pH [(base,pC.cells t x toks)])) w (w.alloc (.cells cs.toArray e)) g.S (g.var base w.heap.size (some (e,cs.length))).S:=
  ⟨rfl,rfl,rfl,by simp,fun b hb _=>aT9 _ _ _ hb,fun b o hb _=>⟨aT4 (a:=⟨b,o,none⟩) (aT9 _ _ _ hb),aUD (a:=⟨b,o,none⟩) (aT9 _ _ _ hb)⟩,fun b o h=> .inl h,fun b s h=> .inl ((DF (aT9 _ _ _ (DE h))).trans h)⟩
 have gho: ∀i,i∉pH [(base,pC.cells t x toks)]->(g.var base w.heap.size (some (e,cs.length))).J i=g.J i/\(g.var base w.heap.size (some (e,cs.length))).cur i=g.cur i:=fun i hi=>⟨by
  show (if i=base then _ else _)=_;rw[aTG (fun e1=>hi (by simp [pH,e1]))],rfl⟩
 have get: ∀i blk,i∈pH [(base,pC.cells t x toks)]->pG (pX [(base,pC.cells t x toks)] H) i=some blk->i=base/\blk= .cells t x toks:=by
  intro i blk hi hg;simp only[pH,aTQ] at hi;subst hi;simp only[pX,pG,aVg,aTE] at hg;exact⟨rfl,hg.symm⟩
 have perm: ∀i blk b o,i∈pH [(base,pC.cells t x toks)]->pG (pX [(base,pC.cells t x toks)] H) i=some blk->rJ (g.var base w.heap.size (some (e,cs.length))) i blk b o->w.heap.size<=b\/s9 g H (pH [(base,pC.cells t x toks)]) b o:=by
  intro i blk b o hi hg ho;obtain⟨rfl,rfl⟩:=get i blk hi hg;obtain⟨p,hp,h1,_⟩:=ho;rw[hJ] at hp;obtain rfl:=aTI hp;exact .inl (aVh h1.symm)
 have hl:=s0 hR;refine⟨le,⟨.inr ⟨rfl,_,hJ,rfl⟩,trivial⟩,hH.upd le fr perm gho (fun i blk hi hg=> ?_) (fun i j bi bj b o hi hj hij hgi hgj _ _=>hij ((get i bi hi hgi).1.trans (get j bj hj hgj).1.symm)) (fun b o h=>aUj (hH.sl b o h) (by simp)),fr,perm,gho,fun i u' y us h=>by
  simp only[pX,pG] at h;split at h
  ·rename_i e1;subst e1;exact .inr ⟨hf,fun n=>by rw[hc]⟩
  ·exact .inl ⟨y,us,h⟩⟩
 obtain⟨rfl,rfl⟩:=get i blk hi hg;refine⟨_,cs,hJ,wS le2 hR,fun j v hv=> ?_,⟨fun j hj=> ?_,fun _ s hs=> ?_⟩,fun j _ hs=>aVI _ (hH.sl _ _ hs),a9Q le.cur htk⟩
 ·simp only[aUg];rw[aU2];simpa using hv
 ·simp only[aUg];rw[aU2,World.frozen?_alloc_new];exact⟨by simp;omega,rfl⟩
 ·cases hs;show (match (w.heap.push (.cells cs.toArray e))[w.heap.size]? with|some (.cells c elem _)=>some (elem,c.size) |_=>none)=_
  rw[aVG];simp only[aUu]
theorem rG.newVar {side:List Prop}{rds:List Nat}{base:Nat}{t:Ty}{x:t.den}{toks:List (Nat×Nat)}{cs:List Value}{e:TypeId}(hR:Rd g w t x cs) (htk:FW g t x cs toks) (hf:g.J base=none) (hc:g.cur base=fun _=>none):
  rG g w H ⟨side,(.val .ref (some (base,0)),none),[(base,.cells t x toks)],rds⟩ (g.var base w.heap.size (some (e,cs.length))) (w.alloc (.cells cs.toArray e)) (.pointer (some ⟨w.heap.size,0,none⟩)):=
 rG.newVarJ hH (wS (g:=g) (g':=g.var base w.heap.size (some (e,cs.length))) (w:=w) (w':=w) ⟨fun _ _ h=>h,fun _ _ _=>rfl,fun i p h=>by
  show (if i=base then _ else _)=_;rw[aTG (fun e1=>by rw[e1,hf] at h;cases h)];exact h,fun _ _ _ h=>h⟩ hR) htk hf hc
end
theorem YW {P:Program}(w:World) (t ty e:TypeId) (i:TypeInfo) (z:Value) (size bytes:Nat) (ht:P.underlying t=some (.slice e)) (hi:P.info? e=some i) (hz:i.zero=some z)
  (hsize:i.size=size) (hby:i.bytes=bytes) (hzs:z.cells.size=size)
  (v:Value) (n:Nat) (xs:List Value) (hown:w.ownsRow 0 e size v n xs)
  (a:Addr) (m c:Nat) (news:List Value) (hl:news.length=m*size) (hnews: ∀j u,news[j]? =some u->w.cell? (a.add j)=some u) (h1: ∀u∈news,u.oneCell'=true) (hm:0<m)
  (h63:n+m<=maxLen) (hbytes:(n+m)*bytes<=140737488355328):
  ∃q cap w',(Builtin.append_ #[t,t] ty #[v,.slice (some a) m c]).run P w= .ok (.slice (some ⟨q,0,none⟩) (n+m) cap) w'/\w'.ownsRow 0 e size (.slice (some ⟨q,0,none⟩) (n+m) cap) (n+m) (xs++news)/\
   (q=w.heap.size\/v.ownBlock=some q)/\w.grownBy w' v.ownBlock/\n+m<=cap/\
   ∀b o,b<w.heap.size->(v.ownBlock=some b->o<n*size)->w'.cell? ⟨b,o,none⟩=w.cell? ⟨b,o,none⟩:=by
 subst hsize;subst hby;have hsmall:n+m<=9223372036854775807:=by simp only[maxLen] at h63;omega
 have hlen:(xs++news).length=(n+m)*i.size:=by rw[aTH,hown.1,hl,Nat.add_mul]
 have grown: ∀(old:Nat),old<n+m->∀(row:Option Nat),
   (w.drew.alloc (.cells (xs.toArray++news.toArray++Builtin.zeroCells z.cells (grownCap w (n+m) old e- (n+m))) e)).ownsRow 0 e i.size
    (.slice (some ⟨w.heap.size,0,none⟩) (n+m) (grownCap w (n+m) old e)) (n+m) (xs++news)/\
   w.grownBy (w.drew.alloc (.cells (xs.toArray++news.toArray++Builtin.zeroCells z.cells (grownCap w (n+m) old e- (n+m))) e)) row/\n+m<=grownCap w (n+m) old e/\
   ∀b o,b<w.heap.size->(w.drew.alloc (.cells (xs.toArray++news.toArray++Builtin.zeroCells z.cells (grownCap w (n+m) old e- (n+m))) e)).cell? ⟨b,o,none⟩=w.cell? ⟨b,o,none⟩:=by
  intro old ho row;have hge:=grownCap_ge w (n+m) old e;have hcm:grownCap w (n+m) old e<=maxLen:=grownCap_le_maxLen w (n+m) old e h63;refine⟨⟨hlen,.inr ⟨w.heap.size,_,_,rfl,aUC _,aVR w.drew _,hge,hcm,?_,?_⟩⟩,⟨rfl,rfl,rfl,by simp,fun k hk _=>aT9 w.drew _ k hk⟩,hge,fun b o hb=>aT4 (w:=w) (a:=⟨b,o,none⟩) (aT9 w.drew _ b hb)⟩
  ·simp only[aVQ,aUu,size_zeroCells,hzs,hown.1,hl,<-Nat.add_mul];congr 1;omega
  ·simp only[Array.toList_append,aTN];rw[<-aTN,<-hlen];exact aUR
 rcases hown.2 with⟨rfl,rfl⟩ |⟨g,cap,cur,rfl,hbg,hg,hnc,hcm,hcs,htake⟩
 ·have hx:xs=[]:=aUc (by simpa using hown.1);subst hx;have hr:=run_append_nil (P:=P) w t ty e i z ht hi hz a m c news hl hnews (by omega) (by omega) (by have hb:=hbytes;simp only[aUg] at hb;omega);have hgr:=grown 0 (by omega) (Value.ownBlock (.slice none 0 0));simp only[aUg,List.nil_append,Array.empty_append] at hgr⊢;exact⟨_,_,_,hr,hgr.1,.inl rfl,hgr.2.1,hgr.2.2.1,fun b o hb _=>hgr.2.2.2 b o hb⟩
 ·by_cases hroom:n+m<=cap
  ·have hfit:n*i.size+news.length<=cur.size:=by rw[hl,hcs,<-Nat.add_mul];exact aVv _ hroom
   have hr:=run_append_room (P:=P) w t ty e i ht hi g n cap cur hg a m c news hl hnews h1 hroom hfit;refine⟨_,_,_,hr,⟨hlen,.inr ⟨g,cap,_,rfl,hbg,aVB w g cur _ e _ hg,hroom,hcm,?_,?_⟩⟩,.inr rfl,⟨rfl,rfl,rfl,by simp,fun k _ hk=>aVc w g k _ (fun e=>hk (by simp [Value.ownBlock,e]))⟩,hroom,fun b o hb hso=> ?_⟩
   ·simp only[aUu,aTH,aT5,aTR,aUd];omega
   ·rw[htake,<-hlen];exact aUR
   ·by_cases hbg':b=g
    ·subst hbg';have ho:=hso rfl;rw[cell_setRow_same w b o cur _ e _ hg,cell_of_row w b o cur e (0,0) hg];have hlt:o<(cur.toList.take (n*i.size)).length:=by rw[aT5,aUd];omega
     rw[aTN,List.getElem?_toArray,aTY hlt,aVq,aTD ho,aUK]
    ·exact aT4 (w:=w) (a:=⟨b,o,none⟩) (aVc w g b _ hbg')
  ·have holds: ∀j u,xs[j]? =some u->w.cell? ((⟨g,0,none⟩:Addr).add j)=some u:=hown.cells (g:=g) rfl;have hr:=run_append_grow (P:=P) w t ty e i z ht hi hz ⟨g,0,none⟩ n cap xs hown.1 holds a m c news hl hnews (by omega) (by omega) (growslice_fits (by omega) hbytes);have hgr:=grown cap (by omega) (Value.ownBlock (.slice (some ⟨g,0,none⟩) n cap));exact⟨_,_,_,hr,hgr.1,.inl rfl,hgr.2.1,hgr.2.2.1,fun b o hb _=>hgr.2.2.2 b o hb⟩
theorem YX {w:World}{e:TypeId}{c n:Nat}{q cap:Nat}{xs:List Value}(h:w.ownsRow 0 e c (.slice (some ⟨q,0,none⟩) n cap) n xs):w.rangeAt q 0 xs:=fun j u hu=>by
 have:=h.cells (g:=q) rfl j u hu;rwa [aUQ] at this
theorem aJJ (w:World) (a:Addr) (v:Value) (b:Nat):(w.setCell a v).shape? b=w.shape? b:=by
 unfold World.shape? World.setCell;simp only[aU6];by_cases h:a.block=b
 ·rw[aTD h];cases hb:w.heap[b]? with
  |none=>rfl
  |some x=>
   cases x with
   |cells c e f=>
    simp only[Option.map_some];split<;>simp
   |_=>rfl
 ·rw[aTG h]
theorem YY (b:Nat): ∀(l:List Value) (o:Nat) (w:World) (b':Nat),(w.setCells b o l).shape? b'=w.shape? b'
 |[],_,_,_=>rfl
 |v::l,o,w,b'=>by rw[World.setCells,YY b l,aJJ]
section
variable {g:Gh}{w:World}{H:rI}(hH:rT g w H)
include hH
theorem rG.append {side:List Prop}{rds:List Nat}{k e c n:Nat}{u:Ty}{l r:List u.den}{w':World}{q cap:Nat}{v:Value}{xs news:List Value}(hk:pG H k=some (.grow e c n)) (hc:c=u.cells)
  (hln:l.length=n) (hv:g.cur k n=some v) (hown:w.ownsRow 0 e c v n xs) (hnone: ∀m,n<m->g.cur k m=none) (hseal: ∀b,v.ownBlock=some b->∀o,g.S b o->o<n*c) (hl:sI (Rd g w u) c l xs) (hr:sI (Rd g w u) c r news) (hm:0<r.length)
  (ho:w'.ownsRow 0 e c (.slice (some ⟨q,0,none⟩) (n+r.length) cap) (n+r.length) (xs++news)) (hq:q=w.heap.size\/v.ownBlock=some q) (hg:w.grownBy w' v.ownBlock) (hcap:n+r.length<=cap)
  (hcell: ∀b o,b<w.heap.size->(v.ownBlock=some b->o<n*c)->w'.cell? ⟨b,o,none⟩=w.cell? ⟨b,o,none⟩):
  rG g w H ⟨side,(.val (.list u) (l++r),some k),[(k,.grow e c (n+r.length))],rds⟩ ((g.tok k (n+r.length) (.slice (some ⟨q,0,none⟩) (n+r.length) cap)).shut q ((n+r.length)*c)) w' (.slice (some ⟨q,0,none⟩) (n+r.length) cap):=by
 have hnb:=hnone (n+r.length) (by omega);have hownk: ∀o b,v.ownBlock=some b->s9 g H (pH [(k,pC.grow e c (n+r.length))]) b o:=fun o b hb=>⟨k,_,by simp [pH],hk,v,hv,hb⟩;have hqlt:q<w'.heap.size:=(ho.lt q rfl).2;have le:Le g w ((g.tok k (n+r.length) (.slice (some ⟨q,0,none⟩) (n+r.length) cap)).shut q ((n+r.length)*c)) w':=⟨fun _ _ h=> .inl h,fun b o h=>hcell b o (hH.sl b o h) (fun hb=>hseal b hb o h),fun _ _ h=>h,fun k' n' v' h=>by
  show (if k'=k/\n'=n+r.length then _ else _)=_;rw[aTG (fun⟨e1,e2⟩=>by rw[e1,e2,hnb] at h;cases h)];exact h⟩
 have fr:Fr (s9 g H (pH [(k,pC.grow e c (n+r.length))])) w w' g.S ((g.tok k (n+r.length) (.slice (some ⟨q,0,none⟩) (n+r.length) cap)).shut q ((n+r.length)*c)).S:=by
  have hbk: ∀b,b<w.heap.size->∀o,¬s9 g H (pH [(k,pC.grow e c (n+r.length))]) b o->w'.heap[b]? =w.heap[b]? :=fun b hb o hno=>hg.block b hb (fun e1=>hno (hownk o b e1.symm));refine⟨hg.os,hg.tape,hg.output,hg.size,fun b hb hno=>hbk b hb 0 (hno 0),fun b o hb hno=>⟨aT4 (a:=⟨b,o,none⟩) (hbk b hb o hno),aUD (a:=⟨b,o,none⟩) (hbk b hb o hno)⟩,fun b o h=> ?_,fun b s hs=> ?_⟩
  rotate_left
  ·by_cases e1:v.ownBlock=some b
   ·exact .inr fun o=>hownk o b e1
   ·exact .inl ((DF (hg.block b (DE hs) (fun h=>e1 h.symm))).trans hs)
  rcases h with h|⟨rfl,_⟩
  ·exact .inl h
  ·rcases hq with h|h
   ·exact .inr (.inl (aVh h.symm))
   ·exact .inr (.inr (hownk o b h))
 have gho: ∀i,i∉pH [(k,pC.grow e c (n+r.length))]->((g.tok k (n+r.length) (.slice (some ⟨q,0,none⟩) (n+r.length) cap)).shut q ((n+r.length)*c)).J i=g.J i/\((g.tok k (n+r.length) (.slice (some ⟨q,0,none⟩) (n+r.length) cap)).shut q ((n+r.length)*c)).cur i=g.cur i:=fun i hi=>⟨rfl,by
  funext n';show (if i=k/\n'=n+r.length then _ else _)=_;rw[aTG (fun⟨e1,_⟩=>hi (by simp [pH,e1]))]⟩
 have cur1:((g.tok k (n+r.length) (.slice (some ⟨q,0,none⟩) (n+r.length) cap)).shut q ((n+r.length)*c)).cur k (n+r.length)=some (.slice (some ⟨q,0,none⟩) (n+r.length) cap):=by
  show (if k=k/\n+r.length=n+r.length then _ else _)=_;simp
 have get: ∀i blk,i∈pH [(k,pC.grow e c (n+r.length))]->pG (pX [(k,pC.grow e c (n+r.length))] H) i=some blk->i=k/\blk= .grow e c (n+r.length):=by
  intro i blk hi hg;simp only[pH,aTQ] at hi;subst hi;simp only[pX,pG,aVg,aTE] at hg;exact⟨rfl,hg.symm⟩
 have perm: ∀i blk b o,i∈pH [(k,pC.grow e c (n+r.length))]->pG (pX [(k,pC.grow e c (n+r.length))] H) i=some blk->rJ ((g.tok k (n+r.length) (.slice (some ⟨q,0,none⟩) (n+r.length) cap)).shut q ((n+r.length)*c)) i blk b o->w.heap.size<=b\/s9 g H (pH [(k,pC.grow e c (n+r.length))]) b o:=by
  intro i blk b o hi hgt ho';obtain⟨rfl,rfl⟩:=get i blk hi hgt;obtain⟨v',hv',hb⟩:=ho';rw[cur1] at hv';obtain rfl:=aTI hv';cases hb;rcases hq with h|h
  ·exact .inl (aVh h.symm)
  ·exact .inr (hownk o _ h)
 have hF:sI (Rd ((g.tok k (n+r.length) (.slice (some ⟨q,0,none⟩) (n+r.length) cap)).shut q ((n+r.length)*c)) w' u) u.cells (l++r) (xs++news):=hc▸CQ (fun _ _ h=>wS le h) (OL hl hr);have hlr:(l++r).length=n+r.length:=by rw[aTH,hln]
 refine⟨le,⟨.inr ⟨rfl,some ⟨q,0,none⟩,cap,by rw[hlr],by rw[hlr];exact hcap,.inr ⟨q,0,rfl,LQ hF (YX ho) (fun j hj=> ?_)⟩⟩,?_⟩,hH.upd le fr perm gho (fun i blk hi hgt=> ?_) (fun i j bi bj b o hi hj hij hgi hgj _ _=>hij ((get i bi hi hgi).1.trans (get j bj hj hgj).1.symm)) (fun b o h=> ?_),fr,perm,gho,fun i u' y us h=>by
  simp only[pX,pG] at h;split at h
  ·cases h
  ·exact .inl ⟨y,us,h⟩⟩
 ·right;rw[hlr] at hj;exact⟨rfl,by rw[hc];omega⟩
 ·show _=_;rw[hlr];exact cur1
 ·obtain⟨rfl,rfl⟩:=get i blk hi hgt;refine⟨_,_,cur1,ho,fun m hm'=> ?_,fun b hb o h=> ?_⟩
  ·show (if i=i/\m=n+r.length then _ else _)=_;rw[aTG (by omega)];exact hnone m (by omega)
  ·cases hb;rcases h with h|⟨_,h⟩
   ·rcases hq with h2|h2
    ·have:q<w.heap.size:=hH.sl _ _ h;omega
    ·have:=hseal _ h2 o h;rw[Nat.add_mul];omega
   ·exact h
 ·rcases h with h|⟨rfl,_⟩
  ·exact aUj (hH.sl b o h) hg.size
  ·exact hqlt
theorem rG.lit {side:List Prop}{rds:List Nat}{base e c n:Nat}{u:Ty}{l:List u.den}{cs:List Value}(hc:c=u.cells) (hln:l.length=n) (hl:sI (Rd g w u) c l cs) (hn:n<=maxLen) (hf: ∀m,g.cur base m=none):
  rG g w H ⟨side,(.val (.list u) l,some base),[(base,.grow e c n)],rds⟩ ((g.tok base n (.slice (some ⟨w.heap.size,0,none⟩) n n)).shut w.heap.size (n*c)) (w.alloc (.cells cs.toArray e)) (.slice (some ⟨w.heap.size,0,none⟩) n n):=by
 have hlen:=HJ hl;have le:Le g w ((g.tok base n (.slice (some ⟨w.heap.size,0,none⟩) n n)).shut w.heap.size (n*c)) (w.alloc (.cells cs.toArray e)):=⟨fun _ _ h=> .inl h,fun b o h=>aT4 (a:=⟨b,o,none⟩) (aT9 _ _ _ (hH.sl b o h)),fun _ _ h=>h,fun k' n' v' h=>by
  show (if k'=base/\n'=n then _ else _)=_;rw[aTG (fun⟨e1,e2⟩=>by rw[e1,hf] at h;cases h)];exact h⟩
 have fr:Fr (s9 g H (pH [(base,pC.grow e c n)])) w (w.alloc (.cells cs.toArray e)) g.S ((g.tok base n (.slice (some ⟨w.heap.size,0,none⟩) n n)).shut w.heap.size (n*c)).S:=
  ⟨rfl,rfl,rfl,by simp,fun b hb _=>aT9 _ _ _ hb,fun b o hb _=>⟨aT4 (a:=⟨b,o,none⟩) (aT9 _ _ _ hb),aUD (a:=⟨b,o,none⟩) (aT9 _ _ _ hb)⟩,fun b o h=>h.imp id fun h=> .inl (aVh h.1.symm),fun b s h=> .inl ((DF (aT9 _ _ _ (DE h))).trans h)⟩
 have gho: ∀i,i∉pH [(base,pC.grow e c n)]->((g.tok base n (.slice (some ⟨w.heap.size,0,none⟩) n n)).shut w.heap.size (n*c)).J i=g.J i/\((g.tok base n (.slice (some ⟨w.heap.size,0,none⟩) n n)).shut w.heap.size (n*c)).cur i=g.cur i:=fun i hi=>⟨rfl,by
  funext n';show (if i=base/\n'=n then _ else _)=_;rw[aTG (fun⟨e1,_⟩=>hi (by simp [pH,e1]))]⟩
 have cur1:((g.tok base n (.slice (some ⟨w.heap.size,0,none⟩) n n)).shut w.heap.size (n*c)).cur base n=some (.slice (some ⟨w.heap.size,0,none⟩) n n):=by
  show (if base=base/\n=n then _ else _)=_;simp
 have get: ∀i blk,i∈pH [(base,pC.grow e c n)]->pG (pX [(base,pC.grow e c n)] H) i=some blk->i=base/\blk= .grow e c n:=by
  intro i blk hi hg;simp only[pH,aTQ] at hi;subst hi;simp only[pX,pG,aVg,aTE] at hg;exact⟨rfl,hg.symm⟩
 have perm: ∀i blk b o,i∈pH [(base,pC.grow e c n)]->pG (pX [(base,pC.grow e c n)] H) i=some blk->rJ ((g.tok base n (.slice (some ⟨w.heap.size,0,none⟩) n n)).shut w.heap.size (n*c)) i blk b o->w.heap.size<=b\/s9 g H (pH [(base,pC.grow e c n)]) b o:=by
  intro i blk b o hi hgt ho';obtain⟨rfl,rfl⟩:=get i blk hi hgt;obtain⟨v',hv',hb⟩:=ho';rw[cur1] at hv';obtain rfl:=aTI hv';cases hb;exact .inl (aTZ _)
 have hF:sI (Rd ((g.tok base n (.slice (some ⟨w.heap.size,0,none⟩) n n)).shut w.heap.size (n*c)) (w.alloc (.cells cs.toArray e)) u) u.cells l cs:=hc▸CQ (fun _ _ h=>wS le h) hl;have hra:(w.alloc (.cells cs.toArray e)).rangeAt w.heap.size 0 cs:=fun j v hv=>by
  rw[aUg,aU2];simpa using hv
 refine⟨le,⟨.inr ⟨rfl,some ⟨w.heap.size,0,none⟩,n,by rw[hln],by rw[hln];exact aTZ _,.inr ⟨w.heap.size,0,rfl,LQ hF hra (fun j hj=> ?_)⟩⟩,?_⟩,hH.upd le fr perm gho (fun i blk hi hgt=> ?_) (fun i j bi bj b o hi hj hij hgi hgj _ _=>hij ((get i bi hi hgi).1.trans (get j bj hj hgj).1.symm)) (fun b o h=> ?_),fr,perm,gho,fun i u' y us h=>by
  simp only[pX,pG] at h;split at h
  ·cases h
  ·exact .inl ⟨y,us,h⟩⟩
 ·right;rw[hln] at hj;exact⟨rfl,by rw[hc];omega⟩
 ·show _=_;rw[hln];exact cur1
 ·obtain⟨rfl,rfl⟩:=get i blk hi hgt;refine⟨_,cs,cur1,⟨by rw[hlen,hln],.inr ⟨w.heap.size,n,cs.toArray,rfl,aUC _,aVR w _,aTZ _,hn,by simp [hlen,hln],by simp [<-hln,<-hlen]⟩⟩,fun m hm'=> ?_,fun b hb o h=> ?_⟩
  ·show (if i=i/\m=n then _ else _)=_;rw[aTG (by omega)];exact hf m
  ·cases hb;rcases h with h|⟨_,h⟩
   ·exact absurd (hH.sl _ _ h) (aVI _)
   ·exact h
 ·rcases h with h|⟨rfl,_⟩
  ·exact aUj (hH.sl b o h) (by simp)
  ·simp
theorem YZ: ∀{toks:List (Nat×Nat)}{off n q k:Nat},(q,k)∈uN toks off n->(q,k)∈toks/\¬(off<=q/\q<off+n)
 |[],_,_,_,_,h=>by simp [uN] at h
 |(q',k')::r,off,n,q,k,h=>by
  simp only[uN] at h;split at h
  ·obtain⟨h1,h2⟩:=YZ h;exact⟨aTS _ h1,h2⟩
  ·rename_i hn;rcases aTW.1 h with h|h
   ·cases h;exact⟨by simp,hn⟩
   ·obtain⟨h1,h2⟩:=YZ h;exact⟨aTS _ h1,h2⟩
theorem aJK {u:Ty}{y:u.den}: ∀{t:Ty}{x z:t.den}{o:Nat},u.isRow=false->rX u y t x o=some z->qK u t z o=some y:=by
 intro t
 induction t with
 |pair a b iha ihb=>
  intro x z o hu h;have hne:u≠.pair a b:=by intro e;rw[e] at hu;cases hu
  have key: ∀o,(if o<a.cells then(rX u y a x.1 o).map (fun q=>(q,x.2)) else(rX u y b x.2 (o-a.cells)).map (fun q=>(x.1,q)))=some z->
    (if o<a.cells then qK u a z.1 o else qK u b z.2 (o-a.cells))=some y:=by
   intro o h;by_cases ho:o<a.cells
   ·rw[aTD ho] at h⊢;obtain⟨q,hq,rfl⟩:=aTT.1 h;exact iha hu hq
   ·rw[aTG ho] at h⊢;obtain⟨q,hq,rfl⟩:=aTT.1 h;exact ihb hu hq
  cases o with
  |zero=>
   unfold rX at h;unfold qK;rw[aVo hne] at h;rw[aVo (Ne.symm hne)];have:=key 0 (by simpa using h);simpa using this
  |succ o=>
   have:=key (o+1) (by simpa[rX] using h);simpa[qK] using this
 |_=>
  intro x z o hu h;cases o with
  |zero=>
   unfold rX at h;split at h
   ·rename_i e;subst e;simp only[tI,aTE] at h
    try subst h
    unfold qK;simp [tI]
   ·simp at h
  |succ o=>simp [rX] at h
theorem a98 {u v:Ty}{y:u.den}: ∀{t:Ty}{x z:t.den}{o q:Nat}{l:(Ty.list v).den},rX u y t x o=some z->qK (.list v) t x q=some l->¬(o<=q/\q<o+u.cells)->qK (.list v) t z q=some l:=by
 intro t
 induction t with
 |pair a b iha ihb=>
  intro x z o q l h g hq;by_cases hu:o=0/\u= .pair a b
  ·obtain⟨rfl,rfl⟩:=hu;exfalso;apply hq;have: ∀(t:Ty) (x:t.den) (q:Nat) (l:(Ty.list v).den),qK (.list v) t x q=some l->q<t.cells:=by
    intro t
    induction t with
    |pair s t ihs iht=>
     intro x q l g;have key: ∀q,(if q<s.cells then qK (.list v) s x.1 q else qK (.list v) t x.2 (q-s.cells))=some l->q<s.cells+t.cells:=by
      intro q g;by_cases h:q<s.cells
      ·omega
      ·rw[aTG h] at g;have:=iht _ _ _ g;omega
     cases q with
     |zero=>
      unfold qK at g;rw[aVo (by intro e;cases e)] at g;exact key 0 (by simpa using g)
     |succ q=>exact key (q+1) (by simpa[qK] using g)
    |_=>
     intro x q l g;cases q with
     |zero=>first|(simp [Ty.cells];done) |(unfold qK at g;simp at g)
     |succ q=>simp [qK] at g
   exact⟨aUC _,by simpa using this _ _ _ _ g⟩
  ·have keyh:(if o<a.cells then(rX u y a x.1 o).map (fun q=>(q,x.2)) else(rX u y b x.2 (o-a.cells)).map (fun q=>(x.1,q)))=some z:=by
    cases o with
    |zero=>
     unfold rX at h;rw[aVo (fun e=>hu ⟨rfl,e⟩)] at h;simpa using h
    |succ o=>simpa[rX] using h
   have keyg: ∀x:(Ty.pair a b).den,qK (.list v) (.pair a b) x q=(if q<a.cells then qK (.list v) a x.1 q else qK (.list v) b x.2 (q-a.cells)):=by
    intro x;cases q with
    |zero=>
     conv=>lhs;unfold qK
     rw[aVo (by intro e;cases e),Nat.zero_sub]
    |succ q=>simp [qK]
   rw[keyg] at g⊢;by_cases ho:o<a.cells
   ·rw[aTD ho] at keyh;obtain⟨z',hz',rfl⟩:=aTT.1 keyh;by_cases hqa:q<a.cells
    ·rw[aTD hqa] at g⊢;exact iha hz' g hq
    ·rw[aTG hqa] at g⊢;exact g
   ·rw[aTG ho] at keyh;obtain⟨z',hz',rfl⟩:=aTT.1 keyh;by_cases hqa:q<a.cells
    ·rw[aTD hqa] at g⊢;exact g
    ·rw[aTG hqa] at g⊢;exact ihb hz' g (by omega)
 |unit=>
  intro x z o q l h g hq;cases q with
  |zero=>
   unfold qK at g;rw[aVo (by intro e;cases e)] at g;cases g
  |succ q=>simp [qK] at g
 |_=>
  intro x z o q l h g hq;cases o with
  |zero=>
   unfold rX at h;split at h
   ·rename_i e;subst e;cases q with
    |zero=>exact absurd ⟨aTZ _,Nat.zero_lt_one⟩ hq
    |succ q=>simp [qK] at g
   ·simp at h
  |succ o=>simp [rX] at h
theorem rG.store {side:List Prop}{rds:List Nat}{i:Nat}{u t:Ty}{x z:u.den}{y:t.den}{off:Nat}{toks:List (Nat×Nat)}{k:Option Nat}{p:Pl}{cy:List Value}{v:Value}(hb:pG H i=some (.cells u x toks)) (hp:g.J i=some p)
  (hset:rX t y u x off=some z) (hy:Rd g w t y cy) (hk:CP g t y v k) (hk2: ∀a b,t= .pair a b->k=none) (hv:t.isRow=false->cy=[v]):
  rG g w H ⟨side,(.any,none),[(i,.cells u z (pX (wL k off) (uN toks off t.cells)))],rds⟩ g (w.setCells p.1 (p.2+off) cy) undef/\w.there p.1 (p.2+off) cy.length:=by
 obtain⟨p',cs,hp',hR,hra,hth,hns,htk⟩:=hH.blk i _ hb;rw[hp] at hp';obtain rfl:=aTI hp';obtain⟨c1,c2,c3,hcs,hl1,hl2,hz⟩:=TC hy hR hset;subst hcs;subst hl1;have hcl:=s0 hR;have hyl:=s0 hy;simp only[aTH] at hcl;have hthere:w.there p.1 (p.2+c1.length) cy.length:=fun j hj=>by
  have:=hth.1 (c1.length+j) (by omega);rwa [<-aUn] at this
 have hout: ∀b o,(b=p.1->o<p.2+c1.length\/p.2+c1.length+cy.length<=o)->(w.setCells p.1 (p.2+c1.length) cy).cell? ⟨b,o,none⟩=w.cell? ⟨b,o,none⟩:=fun b o h=>World.cell?_setCells_out p.1 cy _ w ⟨b,o,none⟩ (fun e _=>h e);have hin: ∀b o,b=p.1->p.2+c1.length<=o->o<p.2+c1.length+cy.length->rJ g i (.cells u x toks) b o:=fun b o e h1 h2=>⟨p,hp,e,by omega,by omega⟩;have hsz:(w.setCells p.1 (p.2+c1.length) cy).heap.size=w.heap.size:=by
  have: ∀(l:List Value) (o:Nat) (w:World),(w.setCells p.1 o l).heap.size=w.heap.size:=by
   intro l
   induction l with
   |nil=>intro o w;rfl
   |cons v l ih=>intro o w;rw[World.setCells,ih];simp [World.setCell]
  exact this _ _ _
 have hbk: ∀b,b≠p.1->(w.setCells p.1 (p.2+c1.length) cy).heap[b]? =w.heap[b]? :=by
  intro b hb;have: ∀(l:List Value) (o:Nat) (w:World),(w.setCells p.1 o l).heap[b]? =w.heap[b]? :=by
   intro l
   induction l with
   |nil=>intro o w;rfl
   |cons v l ih=>intro o w;rw[World.setCells,ih];exact Below.heap_setCell _ _ _ _ hb
  exact this _ _ _
 have hos:(w.setCells p.1 (p.2+c1.length) cy).os=w.os/\(w.setCells p.1 (p.2+c1.length) cy).tape=w.tape/\(w.setCells p.1 (p.2+c1.length) cy).output=w.output:=by
  have: ∀(l:List Value) (o:Nat) (w:World),(w.setCells p.1 o l).os=w.os/\(w.setCells p.1 o l).tape=w.tape/\(w.setCells p.1 o l).output=w.output:=by
   intro l
   induction l with
   |nil=>intro o w;exact⟨rfl,rfl,rfl⟩
   |cons v l ih=>intro o w;rw[World.setCells];exact ih _ _
  exact this _ _ _
 have hiS: ∀b o,g.S b o->¬(b=p.1/\p.2<=o/\o<p.2+u.cells):=fun b o hs ⟨e,h1,h2⟩=>hns (o-p.2) (by omega) (by rw[show p.2+(o-p.2)=o from by omega,<-e];exact hs);have le:Le g w g (w.setCells p.1 (p.2+c1.length) cy):=⟨fun _ _ h=>h,fun b o h=>hout b o (fun e=>by
  have:=hiS b o h;rcases aUX o (p.2+c1.length) with h1|h1
  ·exact .inl h1
  ·rcases aUX o (p.2+c1.length+cy.length) with h2|h2
   ·exact absurd ⟨e,by omega,by omega⟩ this
   ·exact .inr h2),fun _ _ h=>h,fun _ _ _ h=>h⟩
 have hofI: ∀b o,rJ g i (.cells u x toks) b o->s9 g H (pH [(i,pC.cells u z (pX (wL k c1.length) (uN toks c1.length t.cells)))]) b o:=fun b o h=>⟨i,_,by simp [pH],hb,h⟩;have fr:Fr (s9 g H (pH [(i,pC.cells u z (pX (wL k c1.length) (uN toks c1.length t.cells)))])) w (w.setCells p.1 (p.2+c1.length) cy) g.S g.S:=by
  refine⟨hos.1,hos.2.1,hos.2.2,aVh hsz.symm,fun b hb' hno=> ?_,fun b o hb' hno=>⟨hout b o (fun e=> ?_),World.frozen?_setCells _ _ _ _ _⟩,fun b o h=> .inl h,fun b s hs=> .inl ((YY _ _ _ _ _).trans hs)⟩
  ·by_cases e:b=p.1
   ·cases hcy:cy with
    |nil=>rfl
    |cons q l=>exact absurd (hofI b (p.2+c1.length) (hin b _ e (aTZ _) (by rw[hcy];simp))) (hno _)
   ·exact hbk b e
  ·rcases aUX o (p.2+c1.length) with h1|h1
   ·exact .inl h1
   ·rcases aUX o (p.2+c1.length+cy.length) with h2|h2
    ·exact absurd (hofI b o (hin b o e h1 h2)) hno
    ·exact .inr h2
 have gho: ∀j,j∉pH [(i,pC.cells u z (pX (wL k c1.length) (uN toks c1.length t.cells)))]->g.J j=g.J j/\g.cur j=g.cur j:=fun _ _=>⟨rfl,rfl⟩;have get: ∀j blk,j∈pH [(i,pC.cells u z (pX (wL k c1.length) (uN toks c1.length t.cells)))]->pG (pX [(i,pC.cells u z (pX (wL k c1.length) (uN toks c1.length t.cells)))] H) j=some blk->j=i/\blk= .cells u z (pX (wL k c1.length) (uN toks c1.length t.cells)):=by
  intro j blk hi hg;simp only[pH,aTQ] at hi;subst hi;simp only[pX,pG,aVg,aTE] at hg;exact⟨rfl,hg.symm⟩
 have perm: ∀j blk b o,j∈pH [(i,pC.cells u z (pX (wL k c1.length) (uN toks c1.length t.cells)))]->pG (pX [(i,pC.cells u z (pX (wL k c1.length) (uN toks c1.length t.cells)))] H) j=some blk->rJ g j blk b o->w.heap.size<=b\/s9 g H (pH [(i,pC.cells u z (pX (wL k c1.length) (uN toks c1.length t.cells)))]) b o:=by
  intro j blk b o hi hg ho;obtain⟨rfl,rfl⟩:=get j blk hi hg;exact .inr (hofI b o ho)
 refine⟨⟨le,⟨trivial,trivial⟩,hH.upd le fr perm gho (fun j blk hi hg=> ?_) (fun i j bi bj b o hi hj hij hgi hgj _ _=>hij ((get i bi hi hgi).1.trans (get j bj hj hgj).1.symm)) (fun b o h=>by rw[hsz];exact hH.sl b o h),fr,perm,gho,fun j u' y' us h=>by
  simp only[pX,pG] at h;split at h
  ·rename_i e1;subst e1;simp only[aTE,pC.cells.injEq] at h;obtain⟨rfl,_⟩:=h;exact .inl ⟨x,toks,hb⟩
  ·exact .inl ⟨y',us,h⟩⟩,hthere⟩
 obtain⟨rfl,rfl⟩:=get j blk hi hg;refine⟨p,_,hp,wS le hz,fun q v hq=> ?_,⟨fun q hq=> ?_,fun h0 s hs=>(YY _ _ _ _ _).trans (hth.2 h0 s hs)⟩,hns,?_⟩
 ·by_cases h1:q<c1.length
  ·rw[hout _ _ (fun _=> .inl (by omega))];refine hra q v ?_;rw[aTN,aTY h1] at hq⊢;exact hq
  ·by_cases h2:q<c1.length+cy.length
   ·have:=aVH p.1 cy (p.2+c1.length) w (fun j hj=>(hthere j hj).1) (q-c1.length) (by omega);rw[show p.2+c1.length+(q-c1.length)=p.2+q from by omega] at this;rw[this];rw[aTN,aTP (by omega),aTY (by omega)] at hq;rw[<-hq,aTM (by omega)]
   ·rw[hout _ _ (fun _=> .inr (by omega))];refine hra q v ?_;rw[aTN,aTP (by omega),aTP (by omega)] at hq⊢;rw[hl2];rw[hyl] at hq;exact hq
 ·have hh:=hth.1 q hq;refine⟨?_,by rw[World.frozen?_setCells];exact hh.2⟩;by_cases h1:q<c1.length\/c1.length+cy.length<=q
  ·rw[hout _ _ (fun _=>by omega)];exact hh.1
  ·have:=aVH p.1 cy (p.2+c1.length) w (fun j hj=>(hthere j hj).1) (q-c1.length) (by omega);rw[show p.2+c1.length+(q-c1.length)=p.2+q from by omega] at this;rw[this];rfl
 ·intro q kk hm;have hsplit:(q,kk)∈wL k c1.length\/(q,kk)∈uN toks c1.length t.cells:=by
   cases k with
   |none=>exact .inr (by simpa[wL,pX] using hm)
   |some k=>
    simp only[wL,pX,aTW] at hm;rcases hm with hm|hm
    ·exact .inl (by simp [wL,hm])
    ·exact .inr hm
  rcases hsplit with hm|hm
  ·cases k with
   |none=>simp [wL] at hm
   |some k=>
    simp only[wL,aTQ,aUa] at hm;obtain⟨rfl,rfl⟩:=hm;cases t with
    |list t=>
     obtain rfl:=hv rfl;exact⟨t,y,v,aJK hH rfl hset,by simp,hk⟩
    |pair a b=>cases hk2 a b rfl
    |_=>exact hk.elim
  ·obtain⟨h1,h2⟩:=YZ hH hm;obtain⟨v',l,v1,g1,g2,g3⟩:=htk q kk h1;refine⟨v',l,v1,a98 hH hset g1 h2,?_,g3⟩;rcases aUX q c1.length with h3|h3
   ·rw[aTN,aTY h3] at g2⊢;exact g2
   ·have h4:c1.length+t.cells<=q:=by omega
    rw[aTN,aTP (by omega),aTP (by omega)] at g2⊢;rw[hyl];rw[hl2] at g2;exact g2
end
def zM (g:Gh) (base:Nat) (e:pQ):Prop:= ∀i,i∈pH e.upd->base<=i->g.J i=none/\∀n,g.cur i n=none
section
variable {P:Program}{o:Oper}{a:Act}{g:Gh}{w:World}{H:rI}{T:rZ}(hT:wE P T) (hH:rT g w H)
include hT hH
theorem a99 {x:Operand}(ho:o.op= .move x\/o.op= .assign x) {sx:pD}(hx:r5 g w sx (a.eval x)) {base:Nat}{e:pQ}(hr:XN base (r7 T o.type) sx=some e) (hf:zM g base e):qV P o a g w H e:=by
 have hrun:(execOp a.eval o).run P w= .ok (.value (a.eval x)) w:=by rcases ho with ho|ho<;>simp [execOp,ho]
 generalize hst:r7 T o.type=ot at hr;unfold XN at hr;split at hr
 ·cases hr;have hv:a.eval x= .slice none 0 0:=hx.1;have hfr:=(hf base (by simp [pH]) (aTZ _)).2;refine qV.value (v:= .slice none 0 0) (by rw[hrun,hv]) (rG.row (v:= .slice none 0 0) (xs:=[]) hH rfl (World.ownsRow_nil w 0 _ _) rfl (fun m _=>hfr m) (fun u hu=>by rw[hfr] at hu;cases hu) (.inl ⟨rfl,rfl,rfl,aTZ _,fun _ _ _=>rfl⟩) (fun _ _ _=>rfl) (fun b hb=>by cases hb) (fun b hb=>by cases hb) ⟨⟨by simp [Gh.tok],.inl ⟨rfl,rfl⟩⟩,trivial⟩)
 ·cases hr;have hv:a.eval x= .slice none 0 0:=hx.1;refine qV.value (v:= .slice none 0 0) (by rw[hrun,hv]) (rG.nilTok hH rfl (hf base (by simp [pH]) (aTZ _)).2)
 ·cases hr
 ·cases hr;exact qV.value hrun (.pure hH hx)
theorem aJL {u:Ty}{y:List u.den}{k:Option Nat}{v:Value}{cs:List Value}(h:CP g (.list u) y v k) (hc:cs=[v]):FW g (.list u) y cs (wL k 0):=by
 intro q kk hm;cases k with
 |none=>simp [wL] at hm
 |some k=>
  simp only[wL,aTQ,aUa] at hm;obtain⟨rfl,rfl⟩:=hm;exact⟨u,y,v,by unfold qK;simp [tI],by rw[hc];rfl,h⟩
omit hT hH in
theorem LR {α:Type}: ∀(l m n:List α),pX (pX l m) n=pX l (pX m n)
 |[],_,_=>rfl
 |x::l,m,n=>by simp only[pX,LR l m n]
omit hT hH in
theorem DI {i:Nat}: ∀{l m:List (Nat×pC)},i∈pH (pX l m)↔i∈pH l\/i∈pH m
 |[],m=>by simp [pX,pH]
 |(k,b)::l,m=>by simp only[pX,pH,aTW,DI (l:=l),or_assoc]
omit hT hH in
theorem rG.trans {H:rI}{e1 e2:pQ}{g1 g2:Gh}{w1 w2:World}{v1 v2:Value}{side:List Prop}{rds:List Nat}(h:rG g w H e1 g1 w1 v1) (k:rG g1 w1 (pX e1.upd H) e2 g2 w2 v2):rG g w H ⟨side,e2.slot,pX e2.upd e1.upd,rds⟩ g2 w2 v2:=by
 have hB: ∀b o,s9 g1 (pX e1.upd H) (pH e2.upd) b o->w.heap.size<=b\/s9 g H (pH (pX e2.upd e1.upd)) b o:=by
  rintro b o ⟨i,blk,hi,hg,ho⟩;by_cases h1:i∈pH e1.upd
  ·refine(h.perm i blk b o h1 hg ho).imp id fun⟨j,bj,hj,q⟩=>⟨j,bj,DI.2 (.inr hj),q⟩
  ·exact .inr ⟨i,blk,DI.2 (.inl hi),(C0 h1).symm.trans hg,(yV (h.gho i h1).1 (h.gho i h1).2).1 ho⟩
 have mono: ∀b o,s9 g H (pH e1.upd) b o->s9 g H (pH (pX e2.upd e1.upd)) b o:=fun b o ⟨j,bj,hj,q⟩=>⟨j,bj,DI.2 (.inr hj),q⟩;refine⟨h.le.trans k.le,k.slot,by simp only[LR];exact k.heap,?_,fun i blk b o hi hg ho=> ?_,fun i hi=> ?_,fun i u y us hg=> ?_⟩
 ·have h1:Fr (s9 g H (pH (pX e2.upd e1.upd))) w w1 g.S g1.S:=⟨h.fr.os,h.fr.tape,h.fr.output,h.fr.size,fun b hb hn=>h.fr.blk b hb (fun o ho=>hn o (mono b o ho)),fun b o hb hn=>h.fr.cell b o hb (fun ho=>hn (mono b o ho)),fun b o hs=>(h.fr.new b o hs).imp id (Or.imp id (mono b o)),fun b s hs=>(h.fr.shape b s hs).imp id fun h o=>mono b o (h o)⟩;exact h1.trans k.fr hB
 ·simp only[LR] at hg;by_cases h2:i∈pH e2.upd
  ·rcases k.perm i blk b o h2 hg ho with h3|h3
   ·exact .inl (aUE h.fr.size h3)
   ·exact hB b o h3
  ·have hi1:i∈pH e1.upd:=(DI.1 hi).resolve_left h2;rw[C0 h2] at hg;exact(h.perm i blk b o hi1 hg ((yV (k.gho i h2).1 (k.gho i h2).2).1 ho)).imp id (mono b o)
 ·have h2:i∉pH e2.upd:=fun q=>hi (DI.2 (.inl q));have h1:i∉pH e1.upd:=fun q=>hi (DI.2 (.inr q));exact⟨(k.gho i h2).1.trans (h.gho i h1).1,(k.gho i h2).2.trans (h.gho i h1).2⟩
 ·simp only[LR] at hg;rcases k.ty i u y us hg with⟨x,ts,h3⟩ |⟨h3,h4⟩
  ·exact h.ty i u x ts h3
  ·right;refine⟨?_,fun n=> ?_⟩
   ·cases hj:g.J i with
    |none=>rfl
    |some p=>rw[h.le.J i p hj] at h3;cases h3
   ·cases hj:g.cur i n with
    |none=>rfl
    |some p=>rw[<-h4 n,h.le.cur i n p hj]
omit hT hH in
theorem rG.congrH {H H':rI}{e:pQ}{g':Gh}{w':World}{v:Value}(h:rG g w H e g' w' v) (hH:H=H'):rG g w H' e g' w' v:=hH▸h
omit hT hH in
theorem Z0 {w:World}: ∀(ls:List (Nat×TypeId×Nat)) (i:Nat) (g:Gh) (H:rI),rT g w H->(∀j,i<=j->j<i+ls.length->∀n,g.cur j n=none)->
  ∃g1,rG g w H ⟨[],(.any,none),DA ls i,[]⟩ g1 w undef/\g1.J=g.J/\(∀o k,(o,k)∈BX ls i->g1.cur k 0=some (.slice none 0 0))/\(∀k,k<i->g1.cur k=g.cur k)
 |[],i,g,H,hH,_=>⟨g,.pure hH ⟨trivial,trivial⟩,rfl,fun _ _ h=>by simp [BX] at h,fun _ _=>rfl⟩
 |(o,e,c)::r,i,g,H,hH,hf=>by
  have e1:=rG.nilTok (side:=[]) (d:= .val (.list .bool) []) (rds:=[]) (base:=i) (e:=e) (c:=c) (u:= .bool) hH rfl (hf i (aTZ _) (by simp));have hc1: ∀k n,k≠i->(g.tok i 0 (.slice none 0 0)).cur k n=g.cur k n:=fun k n hk=>by
   show (if k=i/\n=0 then _ else _)=_;rw[aTG (fun h=>hk h.1)]
  obtain⟨g1,k1,k2,k3,k4⟩:=Z0 r (i+1) (g.tok i 0 (.slice none 0 0)) (pX [(i,pC.grow e c 0)] H) e1.heap (fun j h1 h2 n=>by rw[hc1 j n (by omega)];exact hf j (by omega) (by simp only[aTJ];omega) n);refine⟨g1,e1.trans k1,k2.trans rfl,fun o' k hm=> ?_,fun k hk=> ?_⟩
  ·simp only[BX,aTW,aUa] at hm;rcases hm with⟨rfl,rfl⟩ |hm
   ·rw[k4 _ (by omega)];show (if k=k/\0=0 then _ else _)=_;simp
   ·exact k3 o' k hm
  ·rw[k4 k (by omega)];funext n;exact hc1 k n (by omega)
omit hT hH in
theorem Z1: ∀{ls:List (Nat×TypeId×Nat)}{i o k:Nat},(o,k)∈BX ls i->∃q∈ls,q.1=o
 |[],_,_,_,h=>by simp [BX] at h
 |(o',e,c)::r,i,o,k,h=>by
  simp only[BX,aTW,aUa] at h;rcases h with⟨h1,_⟩ |h
  ·exact⟨(o',e,c),by simp,h1.symm⟩
  ·obtain⟨q,h1,h2⟩:=Z1 h;exact⟨q,by simp [h1],h2⟩
omit hT hH in
theorem Z2 {t:Ty}: ∀{ls:List (Nat×TypeId×Nat)},EM t ls=true->∀q∈ls,EL t q.1=true
 |[],_,_,h=>by cases h
 |(o,e,c)::r,h,q,hq=>by
  simp only[EM,aTL] at h;rcases aTW.1 hq with rfl|hq
  ·exact h.1
  ·exact Z2 h.2 q hq
omit hT hH in
theorem OU: ∀(ls:List (Nat×TypeId×Nat)) (i j:Nat),j∈pH (DA ls i)↔i<=j/\j<i+ls.length
 |[],i,j=>by simp only[DA,pH,aVz,aT0,false_iff];omega
 |(o,e,c)::r,i,j=>by
  simp only[DA,DI,OU r (i+1) j,pH,aTQ,aTJ];omega
omit hT hH in
theorem aAa {w:World}: ∀(R:List (Nat×Nat×Ty)) (i:Nat) (g:Gh) (H:rI),rT g w H->(∀j,i<=j->j<i+R.length->∀n,g.cur j n=none)->
  ∃g1,rG g w H ⟨[],(.any,none),JE R i,[]⟩ g1 w undef/\g1.J=g.J/\(∀j,j<R.length->g1.cur (i+j) 0=some (.slice none 0 0))/\(∀k,k<i->g1.cur k=g.cur k)
 |[],i,g,H,hH,_=>⟨g,.pure hH ⟨trivial,trivial⟩,rfl,fun _ h=>by simp at h,fun _ _=>rfl⟩
 |(o,e,u)::r,i,g,H,hH,hf=>by
  have hfr:=hf i (aTZ _) (by simp);have e1:=rG.row (side:=[]) (rds:=[]) (k:=i) (e:=e) (t:=u) (l:=[]) (n:=0) (s:=(.any,none)) (val:=undef) (v:= .slice none 0 0) (xs:=[]) hH rfl (World.ownsRow_nil w 0 _ _) rfl (fun m _=>hfr m) (fun u hu=>by rw[hfr] at hu;cases hu) (.inl ⟨rfl,rfl,rfl,aTZ _,fun _ _ _=>rfl⟩) (fun _ _ _=>rfl) (fun b hb=>by cases hb) (fun b hb=>by cases hb) ⟨trivial,trivial⟩;have hc1: ∀k n,k≠i->(g.tok i 0 (.slice none 0 0)).cur k n=g.cur k n:=fun k n hk=>by
   show (if k=i/\n=0 then _ else _)=_;rw[aTG (fun h=>hk h.1)]
  obtain⟨g1,k1,k2,k3,k4⟩:=aAa r (i+1) (g.tok i 0 (.slice none 0 0)) (pX [(i,pC.row e u [] 0)] H) e1.heap (fun j h1 h2 n=>by rw[hc1 j n (by omega)];exact hf j (by omega) (by simp only[aTJ];omega) n);refine⟨g1,e1.trans k1,k2.trans rfl,fun j hj=> ?_,fun k hk=> ?_⟩
  ·cases j with
   |zero=>
    rw[aVd,k4 _ (by omega)];show (if i=i/\0=0 then _ else _)=_;simp
   |succ j=>
    have:=k3 j (by simpa using hj);rwa [show i+1+j=i+(j+1) by omega] at this
  ·rw[k4 k (by omega)];funext n;exact hc1 k n (by omega)
omit hT hH in
theorem aAb: ∀(R:List (Nat×Nat×Ty)) (i j:Nat),j∈pH (JE R i)↔i<=j/\j<i+R.length
 |[],i,j=>by simp only[JE,pH,aVz,aT0,false_iff];omega
 |(o,e,c)::r,i,j=>by
  simp only[JE,DI,aAb r (i+1) j,pH,aTQ,aTJ];omega
omit hT hH in
theorem Z3 {α:Type}: ∀l:List α,O7 l=l.length
 |[]=>rfl
 |_::l=>by simp only[O7,Z3 l,aTJ]
omit hT hH in
theorem OV {α:Type}{x:α}: ∀{l m:List α},x∈pX l m↔x∈l\/x∈m
 |[],m=>by simp [pX]
 |y::l,m=>by simp only[pX,aTW,OV (l:=l),or_assoc]
omit hT hH in
theorem aJM {g:Gh}{w:World}: ∀{t:Ty}{x:t.den}{cs:List Value}{o:Nat},Rd g w t x cs->∀q∈EN t x o,o<=q.1/\cs[q.1-o]? =some (.slice none 0 0):=by
 intro t
 induction t with
 |pair a b iha ihb=>
  intro x cs o r q hq;obtain⟨c1,c2,rfl,r1,r2⟩:=r;simp only[EN,OV] at hq;have hl:=s0 r1;rcases hq with hq|hq
  ·obtain⟨h1,h2⟩:=iha r1 q hq;exact⟨h1,by rw[aTY (aTU.1 h2).1];exact h2⟩
  ·obtain⟨h1,h2⟩:=ihb r2 q hq;refine⟨by omega,?_⟩;rw[aTP (by omega),hl,show q.1-o-a.cells=q.1- (o+a.cells) by omega];exact h2
 |rl e u=>
  intro x cs o r q hq;cases x with
  |none=>
   simp only[EN,XP,aTQ] at hq;subst hq;refine⟨aTZ _,?_⟩;rw[show cs=[.slice none 0 0] from r];simp
  |some z=>simp [EN,XP] at hq
 |_=>intro x cs o r q hq;simp [EN] at hq
omit hT hH in
theorem aJN {g:Gh}{w:World}: ∀{t:Ty}{x:t.den}{cs:List Value}{o:Nat},Rd g w t x cs->∀q∈FR t x o,o<=q/\cs[q-o]? =some (.pointer none):=by
 intro t
 induction t with
 |pair a b iha ihb=>
  intro x cs o r q hq;obtain⟨c1,c2,rfl,r1,r2⟩:=r;simp only[FR,OV] at hq;have hl:=s0 r1;rcases hq with hq|hq
  ·obtain⟨h1,h2⟩:=iha r1 q hq;exact⟨h1,by rw[aTY (aTU.1 h2).1];exact h2⟩
  ·obtain⟨h1,h2⟩:=ihb r2 q hq;refine⟨by omega,?_⟩;rw[aTP (by omega),hl,show q-o-a.cells=q- (o+a.cells) by omega];exact h2
 |mref=>
  intro x cs o r q hq;cases x with
  |none=>
   simp only[FR,XQ,aTQ] at hq;subst hq;refine⟨aTZ _,?_⟩;rw[show cs=[.pointer none] from r];simp
  |some z=>simp [FR,XQ] at hq
 |_=>intro x cs o r q hq;simp [FR] at hq
omit hT hH in
theorem aAc {g:Gh}{w:World}{t u:Ty}{x z:t.den}{y:u.den}{cs:List Value}{o:Nat}{v:Value}(h:rX u y t x o=some z) (hy:Rd g w u y [v]) (hR:Rd g w t x cs) (hv:cs[o]? =some v):Rd g w t z cs:=by
 obtain⟨c1,c2,c3,rfl,rfl,h2,h3⟩:=TC hy hR h;have hu:=s0 hy;simp only[aUl] at hu;rw[<-hu] at h2;obtain⟨v',rfl⟩:=aUY.1 h2;have:(c1++[v']++c3)[c1.length]? =some v':=by simp
 rw[this] at hv;obtain rfl:=aTI hv;exact h3
omit hT hH in
theorem aAd {g:Gh}{w:World}{t:Ty}{cs:List Value}: ∀{R:List (Nat×Nat×Ty)}{i:Nat}{x z:t.den},JD t i R (some x)=some z->Rd g w t x cs->(∀q∈R,cs[q.1]? =some (.slice none 0 0))->(∀j,j<R.length->g.cur (i+j) 0=some (.slice none 0 0))->Rd g w t z cs
 |[],i,x,z,h,hR,_,_=>by simp only[JD,aTE] at h;exact h▸hR
 |(o,e,u)::r,i,x,z,h,hR,hc,hg=>by
  simp only[JD] at h;cases hs:rX (.rl e u) (some (i,0)) t x o with
  |none=>rw[hs] at h;cases r<;>simp [JD] at h
  |some x'=>
   rw[hs] at h;refine aAd h (aAc (v:= .slice none 0 0) hs ⟨_,by simpa using hg 0 (by simp),rfl,.inl ⟨rfl,rfl⟩⟩ hR (hc _ aT1)) (fun q hq=>hc q (aTS _ hq)) (fun j hj=> ?_);have:=hg (j+1) (by simpa using hj);rwa [show i+(j+1)=i+1+j by omega] at this
omit hT hH in
theorem aAe {g:Gh}{w:World}{t:Ty}{cs:List Value}{i:Nat}{p:Pl}(hp:g.J i=some p) (hp2:p.2=0): ∀{M:List Nat}{x z:t.den},HC t i M (some x)=some z->Rd g w t x cs->(∀q∈M,cs[q]? =some (.pointer none)/\YF p.3 q)->Rd g w t z cs
 |[],x,z,h,hR,_=>by simp only[HC,aTE] at h;exact h▸hR
 |q::r,x,z,h,hR,hc=>by
  simp only[HC] at h;cases hs:rX .mref (some (i,q)) t x q with
  |none=>rw[hs] at h;cases r<;>simp [HC] at h
  |some x'=>
   rw[hs] at h;exact aAe hp hp2 h (aAc (v:= .pointer none) hs ⟨p,hp,by rw[hp2,aUg];exact(hc _ aT1).2,.inl rfl⟩ hR (hc _ aT1).1) (fun q hq=>hc q (aTS _ hq))
omit hT in
theorem aAf {t:Ty}{y:t.den}{ls:List (Nat×TypeId×Nat)}{base:Nat}{e:pQ}{cs:List Value}{el:TypeId}(hr:SD base el t y ls (EM t ls)=some e) (hf:zM g base e) (hR:Rd g w t y cs) (hn:ls≠[]->wR t cs):
  ∃g',rG g w H e g' (w.alloc (.cells cs.toArray el)) (.pointer (some ⟨w.heap.size,0,none⟩)):=by
 cases hl:EM t ls with
 |false=>rw[hl] at hr;cases hr
 |true=>
  rw[hl] at hr;simp only[SD,Z3] at hr;have cR:=fun q hq=>aJM (o:=0) hR q hq;have cM: ∀q∈SC el t y,cs[q]? =some (.pointer none)/\YF (some (el,cs.length)) q:=by
   intro q hq;unfold SC at hq;split at hq
   ·rename_i hb;have h0:=fun q hq=>aJN (o:=0) hR q hq;have hl:=s0 hR;generalize FR t y 0=M at hq h0;rw[<-hl] at hq;unfold a9o at hq;split at hq
    ·rename_i h2;simp only[aTQ] at hq;subst hq;exact⟨by simpa using(h0 0 (by simp)).2,rfl,el,hb,by rw[h2]⟩
    ·cases hq
   ·cases hq
  generalize EN t y 0=R at hr cR;generalize SC el t y=M at hr cM;cases hz1:JD t (base+1+ls.length) R (some y) with
  |none=>
   rw[hz1] at hr;have:HC t base M none=none:=by cases M<;>rfl
   rw[this] at hr;cases hr
  |some z1=>
   rw[hz1] at hr;cases hz2:HC t base M (some z1) with
   |none=>rw[hz2] at hr;cases hr
   |some z=>
    rw[hz2] at hr;simp only[a9p,Z3] at hr;obtain rfl:=(aTI hr);have hfr: ∀j,base+1<=j->j<base+1+ls.length+R.length->g.J j=none/\∀n,g.cur j n=none:=fun j h1 h2=>hf j (by
     simp only[pH,aTW];right;rw[DI];by_cases h3:j<base+1+ls.length
     ·exact .inr ((OU ls (base+1) j).2 ⟨h1,h3⟩)
     ·exact .inl ((aAb R (base+1+ls.length) j).2 ⟨by omega,h2⟩)) (by omega)
    have hf0:=hf base (by simp [pH]) (aTZ _);obtain⟨g1,k1,k2,k3,k4⟩:=Z0 ls (base+1) g H hH (fun j h1 h2=>(hfr j h1 (by omega)).2);have hfr1: ∀j,base+1+ls.length<=j->j<base+1+ls.length+R.length->∀n,g1.cur j n=none:=by
     intro j h1 h2 n;have:=(k1.gho j (by simp only;rw[OU];omega)).2;rw[this];exact(hfr j (by omega) h2).2 n
    obtain⟨g2,m1,m2,m3,m4⟩:=aAa R (base+1+ls.length) g1 _ k1.heap hfr1;have hJ:(g2.var base w.heap.size (some (el,cs.length))).J base=some ⟨w.heap.size,0,some (el,cs.length)⟩:=by simp [Gh.var]
    have hle:Le g w (g2.var base w.heap.size (some (el,cs.length))) w:=by
     refine((k1.le.trans m1.le).trans ⟨fun _ _ h=>h,fun _ _ _=>rfl,fun i p h=> ?_,fun _ _ _ h=>h⟩);show (if i=base then _ else _)=_;rw[aTG (fun e1=>by rw[e1,m2,k2,hf0.1] at h;cases h)];exact h
    have hRz:Rd (g2.var base w.heap.size (some (el,cs.length))) w t z cs:=aAe hJ rfl hz2 (aAd hz1 (wS hle hR) (fun q hq=>by simpa using(cR q hq).2) (fun j hj=>m3 j hj)) cM;have htk:FW g2 t z cs (BX ls (base+1)):=by
     intro o k hm;obtain⟨q,hq,rfl⟩:=Z1 hm;obtain⟨u,h1,h2⟩:=a9Y (hn (fun e=>by rw[e] at hq;cases hq)) hRz (Z2 hl q hq);exact⟨u,[],_,h1,h2,m1.le.cur _ _ _ (k3 _ _ hm)⟩
    have e3:=rG.newVarJ (side:=[]) (rds:=[]) (base:=base) (toks:=BX ls (base+1)) (e:=el) m1.heap hRz htk (by rw[m2,k2];exact hf0.1) (by rw[m4 base (by omega),k4 base (by omega)];exact funext hf0.2);have e4:=rG.trans (side:=[]) (rds:=[]) k1 m1;exact⟨_,rG.trans (side:=[]) (rds:=[]) e4 (e3.congrH (H':=pX (pX (JE R (base+1+ls.length)) (DA ls (base+1))) H) (by simp only[LR]))⟩
theorem Z4 {t:Ty}{y:t.den}{k:Option Nat}{v:Value}(h:r5 g w (.val t y,k) v):sE g w t y v/\CP g t y v k:=by
 refine⟨h.1,?_⟩;cases k with
 |none=>trivial
 |some k=>exact h.2
theorem aJO {t:TypeId}{x:Operand}(ho:o.op= .box t x) {sx:pD}(hx:r5 g w sx (a.eval x)) {base:Nat}{e:pQ}(hr:XS base t (r7 T t) sx=some e) (hf:zM g base e):qV P o a g w H e:=by
 generalize hst:r7 T t=ot at hr;have hrun:(execOp a.eval o).run P w= .ok (.value (.pointer (some ⟨w.heap.size,0,none⟩))) (w.alloc (.cells (a.eval x).cells.toList.toArray t)):=by
  unfold execOp;rw[ho];simp only[Instr.box,Go.newVar,newRow,aTV,run_newObj,aTO,aT7,aVa];rfl
 have one: ∀{u:Ty}{y:u.den},sE g w u y (a.eval x)->u.isRow=false->(a.eval x).cells.toList=[a.eval x]:=fun hv hrow=>by
  have h1:=B5 (C1 hrow hv) _ (aTQ.2 rfl);cases h:a.eval x<;>first|rfl|(rw[h] at h1;simp [Value.oneCell'] at h1)
 unfold XS at hr;split at hr
 ·rename_i ti u y k;split at hr
  ·obtain⟨hv,hk⟩:=Z4 hT hH hx;have hR:=ER hv;unfold a9q at hr;split at hr
   ·rename_i a' b' y' k' _;have hn:wR (.pair a' b') (a.eval x).cells.toList:=hk;obtain⟨g',h⟩:=aAf (el:=t) hH hr hf hR (fun _=>hn);exact qV.value hrun h
   ·rename_i u' y' k';cases hr;have hfr:=hf base (by simp [pH]) (aTZ _);exact qV.value hrun (rG.newVar hH hR (aJL hT hH hk (one hv rfl)) hfr.1 (funext hfr.2))
   ·cases hr;have hfr:=hf base (by simp [pH]) (aTZ _);exact qV.value hrun (rG.newVar hH hR (fun q k hm=>by cases hm) hfr.1 (funext hfr.2))
  ·cases hr
 ·cases hr
theorem aJP {t:TypeId}(ho:o.op= .alloc t) {base:Nat}{e:pQ}(hr:XR base t (r7 T t)=some e) (hf:zM g base e):qV P o a g w H e:=by
 generalize hst:r7 T t=ot at hr;have run: ∀ti,r7 T t=some ti->(execOp a.eval o).run P w= .ok (.value (.pointer (some ⟨w.heap.size,0,none⟩))) (w.alloc (.cells (sV ti.ty).toArray t)):=by
  intro ti hti;obtain⟨i,hi,hsz,hz⟩:=FY (sD hT hti);have hc:(wD ti.ty).cells=(sV ti.ty).toArray:=by
   have:=ER (OP g w ti.ty);unfold wD;cases h:ti.ty<;>simp [Ty.isRow,sV,Value.cells]
  unfold execOp;rw[ho];simp only[Instr.alloc,zeroValue,typeInfo,Go.newVar,newRow,aTV,aUL,hi,hz,hc,run_newObj,aTO,aT7];rfl
 unfold XR at hr;split at hr
 ·rename_i u el by' ar ls_;cases hr;have hf0:=hf base (by simp [pH]) (aTZ _);have hf1:=hf (base+1) (by simp [pH]) (by omega);have hty:=sD hT hst;have e1:=rG.nilTok (side:=[]) (d:= .val (.list u) []) (rds:=[]) (base:=base+1) (e:=el) (c:=u.cells) (u:=u) hH rfl hf1.2;have hH1:=e1.heap;have htk:FW (g.tok (base+1) 0 (.slice none 0 0)) (.list u) [] [.slice none 0 0] [(0,base+1)]:=by
   intro q kk hm;simp only[aTQ,aUa] at hm;obtain⟨rfl,rfl⟩:=hm;exact⟨u,[],.slice none 0 0,by unfold qK;simp [tI],rfl,by simp [Gh.tok]⟩
  have e2:=rG.newVar (side:=[]) (rds:=[]) (base:=base) (toks:=[(0,base+1)]) (e:=t) hH1 (DG (g.tok (base+1) 0 (.slice none 0 0)) w (.list u)) htk hf0.1 (by
   funext n;show (if base=base+1/\n=0 then _ else _)=_;rw[aTG (by omega)];exact hf0.2 n)
  exact qV.value (run _ hst) (rG.trans (side:=[]) (rds:=[]) e1 e2)
 ·rename_i ti hno;obtain⟨g',h⟩:=aAf (el:=t) hH hr hf (DG g w ti.ty) (fun _=>TH _);exact qV.value (run _ hst) h
 ·cases hr
omit hT hH in
theorem aJQ {t:Ty}{y:t.den}{k:Option Nat}{v:Value}(h:CP g t y v k):CP g t y v (FN t k):=by
 cases t with
 |list u=>exact h
 |_=>trivial
omit hT hH in
theorem aAg {off:Nat}: ∀{l:List (Nat×Nat)}{o k:Nat},(o,k)∈LC off l->∃q,o=off+q/\(q,k)∈l
 |[],_,_,h=>by cases h
 |(q,k')::r,o,k,h=>by
  simp only[LC,aTW,aUa] at h;rcases h with⟨rfl,rfl⟩ |h
  ·exact⟨q,rfl,aT1⟩
  ·obtain⟨q',h1,h2⟩:=aAg h;exact⟨q',h1,aTS _ h2⟩
omit hT hH in
theorem aAh {v t:Ty}{y:t.den}: ∀{u:Ty}{x z:u.den}{o q:Nat}{l:(Ty.list v).den},rX t y u x o=some z->qK (.list v) t y q=some l->q<t.cells->qK (.list v) u z (o+q)=some l:=by
 intro u
 induction u with
 |pair a b iha ihb=>
  intro x z o q l h g hq;by_cases hu:o=0/\t= .pair a b
  ·obtain⟨rfl,rfl⟩:=hu;unfold rX at h;rw[aVS rfl] at h;simp only[tI,aTE] at h;subst h;simpa using g
  ·have keyh:(if o<a.cells then(rX t y a x.1 o).map (fun q=>(q,x.2)) else(rX t y b x.2 (o-a.cells)).map (fun q=>(x.1,q)))=some z:=by
    cases o with
    |zero=>
     unfold rX at h;rw[aVo (fun e=>hu ⟨rfl,e⟩)] at h;simpa using h
    |succ o=>simpa[rX] using h
   have keyg: ∀m,qK (.list v) (.pair a b) z m=(if m<a.cells then qK (.list v) a z.1 m else qK (.list v) b z.2 (m-a.cells)):=by
    intro m;cases m with
    |zero=>
     conv=>lhs;unfold qK
     rw[aVo (by intro e;cases e),Nat.zero_sub]
    |succ m=>simp [qK]
   rw[keyg];by_cases ho:o<a.cells
   ·rw[aTD ho] at keyh;obtain⟨z',hz',rfl⟩:=aTT.1 keyh;have hfit:o+t.cells<=a.cells:=by
     have: ∀{u:Ty}{x z:u.den}{o:Nat},rX t y u x o=some z->o+t.cells<=u.cells:=by
      intro u
      induction u with
      |pair a b iha ihb=>
       intro x z o h;have key: ∀o,(if o<a.cells then(rX t y a x.1 o).map (fun q=>(q,x.2)) else(rX t y b x.2 (o-a.cells)).map (fun q=>(x.1,q)))=some z->o+t.cells<=a.cells+b.cells:=by
        intro o h;by_cases ho:o<a.cells
        ·rw[aTD ho] at h;obtain⟨z',hz',_⟩:=aTT.1 h;have:=iha hz';omega
        ·rw[aTG ho] at h;obtain⟨z',hz',_⟩:=aTT.1 h;have:=ihb hz';omega
       cases o with
       |zero=>
        unfold rX at h;split at h
        ·rename_i e;subst e;simp
        ·exact key 0 (by simpa using h)
       |succ o=>exact key (o+1) (by simpa[rX] using h)
      |_=>
       intro x z o h;cases o with
       |zero=>
        unfold rX at h;split at h
        ·rename_i e;subst e;simp
        ·simp at h
       |succ o=>simp [rX] at h
     exact this hz'
    rw[aTD (by omega)];exact iha hz' g hq
   ·rw[aTG ho] at keyh;obtain⟨z',hz',rfl⟩:=aTT.1 keyh;rw[aTG (by omega),show o+q-a.cells=o-a.cells+q from by omega];exact ihb hz' g hq
 |_=>
  intro x z o q l h g hq;cases o with
  |zero=>
   unfold rX at h;split at h
   ·rename_i e;subst e;simp only[tI,aTE] at h
    try subst h
    simpa using g
   ·simp at h
  |succ o=>simp [rX] at h
omit hT hH in
theorem aAi {v:Ty}: ∀{t:Ty}{x:t.den}{q:Nat}{l:(Ty.list v).den},qK (.list v) t x q=some l->q<t.cells:=by
 intro t
 induction t with
 |pair s t ihs iht=>
  intro x q l g;have key: ∀q,(if q<s.cells then qK (.list v) s x.1 q else qK (.list v) t x.2 (q-s.cells))=some l->q<s.cells+t.cells:=by
   intro q g;by_cases h:q<s.cells
   ·omega
   ·rw[aTG h] at g;have:=iht g;omega
  cases q with
  |zero=>
   unfold qK at g;rw[aVo (by intro e;cases e)] at g;exact key 0 (by simpa using g)
  |succ q=>exact key (q+1) (by simpa[qK] using g)
 |unit=>
  intro x q l g;cases q with
  |zero=>unfold qK at g;rw[aVo (by intro e;cases e)] at g;cases g
  |succ q=>simp [qK] at g
 |_=>
  intro x q l g;cases q with
  |zero=>simp [Ty.cells]
  |succ q=>simp [qK] at g
omit hT in
theorem rG.retok {i:Nat}{u:Ty}{z:u.den}{toks nt:List (Nat×Nat)}{p:Pl}(hb:pG H i=some (.cells u z toks)) (hp:g.J i=some p)
  (hn: ∀cs,Rd g w u z cs->w.rangeAt p.1 p.2 cs->FW g u z cs nt):rG g w H ⟨[],(.any,none),[(i,.cells u z (pX nt toks))],[]⟩ g w undef:=by
 obtain⟨p',cs,hp',hR,hra,hth,hns,htk⟩:=hH.blk i _ hb;rw[hp] at hp';obtain rfl:=aTI hp';have get: ∀j blk,j∈pH [(i,pC.cells u z (pX nt toks))]->pG (pX [(i,pC.cells u z (pX nt toks))] H) j=some blk->j=i/\blk= .cells u z (pX nt toks):=by
  intro j blk hi hg;simp only[pH,aTQ] at hi;subst hi;simp only[pX,pG,aVg,aTE] at hg;exact⟨rfl,hg.symm⟩
 have perm: ∀j blk b o,j∈pH [(i,pC.cells u z (pX nt toks))]->pG (pX [(i,pC.cells u z (pX nt toks))] H) j=some blk->rJ g j blk b o->w.heap.size<=b\/s9 g H (pH [(i,pC.cells u z (pX nt toks))]) b o:=by
  intro j blk b o hi hg ho;obtain⟨rfl,rfl⟩:=get j blk hi hg;exact .inr ⟨j,_,hi,hb,ho⟩
 have le:Le g w g w:=⟨fun _ _ h=>h,fun _ _ _=>rfl,fun _ _ h=>h,fun _ _ _ h=>h⟩;have fr:Fr (s9 g H (pH [(i,pC.cells u z (pX nt toks))])) w w g.S g.S:=⟨rfl,rfl,rfl,aTZ _,fun _ _ _=>rfl,fun _ _ _ _=>⟨rfl,rfl⟩,fun _ _ h=> .inl h,fun _ _ h=> .inl h⟩;refine⟨le,⟨trivial,trivial⟩,hH.upd le fr perm (fun _ _=>⟨rfl,rfl⟩) (fun j blk hi hg=> ?_) (fun i j bi bj b o hi hj hij hgi hgj _ _=>hij ((get i bi hi hgi).1.trans (get j bj hj hgj).1.symm)) (fun b o h=>hH.sl b o h),fr,perm,fun _ _=>⟨rfl,rfl⟩,fun j u' y' us h=> ?_⟩
 ·obtain⟨rfl,rfl⟩:=get j blk hi hg;refine⟨p,cs,hp,hR,hra,hth,hns,fun q kk hm=> ?_⟩;rcases(OV.1 hm) with hm|hm
  ·exact hn cs hR hra q kk hm
  ·exact htk q kk hm
 ·simp only[pX,pG] at h;split at h
  ·rename_i e1;subst e1;simp only[aTE,pC.cells.injEq] at h;obtain⟨rfl,_⟩:=h;exact .inl ⟨z,toks,hb⟩
  ·exact .inl ⟨y',us,h⟩
omit hT hH in
theorem aJR {g:Gh}{t a b:Ty}{y:t.den}{v:Value}{k:Option Nat}(h:k.isSome=true) (ht:t= .pair a b) (hk:CP g t y v k):wR t v.cells.toList:=by
 subst ht;cases k with
 |none=>cases h
 |some k=>exact hk
omit hT hH in
theorem aJS {base i off:Nat}{b:Option pC}{ls:List (Nat×TypeId×Nat)}{t:Ty}{y:t.den}{k:Option Nat}{e:pQ}(h:SK base i off b ls t y k=some e):
  (∃(s:Ty) (x:s.den) (toks:List (Nat×Nat)) (z:s.den),b=some (.cells s x toks)/\rX t y s x off=some z/\k.isSome=true/\(∃a c,t= .pair a c)/\EM t ls=true/\
   e=⟨[],(.any,none),(i,.cells s z (pX (LC off (BX ls base)) (uN toks off t.cells)))::pX (DA ls base) [(i,.cells s z (uN toks off t.cells))],[i]⟩)\/SI t y k i off b=some e:=by
 unfold SK at h;split at h
 ·rename_i q r a c y' k';cases hok:EM (.pair a c) (q::r) with
  |false=>rw[hok] at h;unfold SJ at h;split at h<;>first|cases h|(rename_i h2;cases h2)
  |true=>
   rw[hok] at h;unfold SJ at h;split at h
   ·rename_i s x toks _;cases hset:rX (.pair a c) y' s x off with
    |none=>rw[hset] at h;cases h
    |some z=>
     rw[hset] at h;exact .inl ⟨s,x,toks,z,rfl,hset,rfl,⟨a,c,rfl⟩,rfl,(aTI h).symm⟩
   ·cases h
 ·exact .inr h
theorem aJT {t:TypeId}{x y:Operand}(ho:o.op= .store t x y) {sx sy:pD}(hx:r5 g w sx (a.eval x)) (hy:r5 g w sy (a.eval y)) {base:Nat}{e:pQ}(hr:SM base H (r7 T t) sx sy=some e) (hside: ∀p∈e.side,p) (hf:zM g base e):qV P o a g w H e:=by
 generalize hst:r7 T t=ot at hr;unfold SM at hr;split at hr
 ·rename_i ti i off k kk n k2;generalize hb:pG H i=ob at hr;unfold XX at hr;split at hr
  ·rename_i u el _ _ _ v x' toks;generalize hset:rX (.rl el u) (some (kk,n)) v x' off=oz at hr;cases oz with
   |none=>cases hr
   |some z'=>
    cases hr;have hty:=sD hT hst;obtain⟨p,hp,hv⟩:=AI hx.1;obtain⟨h1,h2⟩:=hy.1;have hR:Rd g w (.rl el u) (some (kk,n)) [a.eval y]:=⟨_,h1,rfl,h2⟩;obtain⟨heff,hth⟩:=rG.store (side:=[]) (rds:=[i]) (k:=none) (v:=a.eval y) hH hb hp hset hR trivial (fun _ _ _=>rfl) (fun _=>rfl);have hce:(a.eval y).cells= #[a.eval y]:=by rcases h2 with⟨h2,_⟩ |⟨_,_,h2,_⟩<;>(rw[h2];rfl)
    refine qV.skip (w':=w.setCells p.1 (p.2+off) [a.eval y]) ?_ heff;obtain⟨inf,hi,hsz,_⟩:=FY hty;have hcells:=run_storeCells_cells (P:=P) p.1 (p.2+off) [a.eval y] 0 w (fun j hj=>by simpa using(hth j hj).1) (fun j hj=>by simpa using(hth j hj).2) (fun v hv=>B5 hR v hv);simp only[aVd] at hcells;have hs2:(a.eval y).cells.size=inf.size:=by rw[hsz,hce];rfl
    have hcl:(a.eval y).cells.toList=[a.eval y]:=by rw[hce]
    simp only[execOp,ho,hv,Instr.storeAt,Instr.sureAddr,storeVar,aTV,aT7,aTO,sizeOf,typeInfo,aUL,hi,hs2,ne_eq,not_true_eq_false,aVU,hcl,hcells]
  ·cases hr
 ·rename_i ti k n c i o' _ u z kk;split at hr
  ·rename_i hu;subst hu;generalize hk:pG H k=ob at hr;unfold SL at hr;split at hr
   ·rename_i e' t' l m;split at hr
    ·rename_i hc;generalize hset:rX ti.ty z t' (pU t' l i) o'=oz at hr;cases oz with
     |none=>cases hr
     |some z'=>
      cases hr;have hnm:=hside _ (aTQ.2 rfl);obtain⟨b,cap,xs,c1,c2,c3,hv,hcur,hown,hF,hl,hi,h0,e1,e2,e3,e4⟩:=a92 hT hH hx.1 hk hnm hc;subst hnm;have hty:=sD hT hst;obtain⟨hvy,hky⟩:=Z4 hT hH hy;have hR:=ER hvy;have hRl:=s0 hR;obtain⟨d1,d2,d3,f1,f2,f3,f4⟩:=TC hR e4 hset;obtain⟨_,_,_,_,hv0,hown0,_,hnone,hseal⟩: ∃(_:True) (_:True) (v0:Value) (xs0:List Value),g.cur k n=some v0/\w.ownsRow 0 e' t'.cells v0 n xs0/\sI (Rd g w t') t'.cells l xs0/\(∀m,n<m->g.cur k m=none)/\∀b,v0.ownBlock=some b->∀o,¬g.S b o:=by
       obtain⟨_,v0,xs0,q1,q2,q3,q4,q5⟩:=hH.blk k _ hk;exact⟨trivial,trivial,v0,xs0,q1,q2,q3,q4,q5⟩
      rw[hcur] at hv0;obtain rfl:=aTI hv0;rcases hown.2 with⟨h5,_⟩ |⟨q,cap',cur,h5,_,hg,hnc,hcm,hcs,htake⟩
      ·cases h5
      simp only[aVN,aTE,Addr.mk.injEq,and_true,true_and] at h5;obtain⟨rfl,rfl⟩:=h5;have hxl:=hown.1;have hnew:=s0 f4;simp only[aTH] at hnew;have hc2l:c2.length=t'.cells:=by rw[e3,hc]
      have hd:d1.length+d2.length+d3.length=t'.cells:=by rw[<-hc2l,f1];simp only[aTH]
      have hx1:c1.length+c2.length+c3.length=n*t'.cells:=by rw[<-hxl,e1];simp only[aTH]
      have hall:cur.toList=(c1++(d1++d2++d3)++c3)++cur.toList.drop (n*t'.cells):=by
       conv=>lhs;rw[<-aU3 (n*t'.cells) cur.toList,htake,e1,f1]
      obtain⟨D,hD⟩: ∃D,D=cur.toList.drop (n*t'.cells):=⟨_,rfl⟩;rw[<-hD] at hall;have hall2:cur.toList=(c1++d1)++(d2++(d3++c3++D)):=by rw[hall];simp only[aTN]
      have hpos:i.toNat*c+o'=(c1++d1).length:=by rw[aTH,e2,f2]
      have hD2:(a.eval y).cells.toList.length=d2.length:=by rw[hRl,f3]
      have hfit:i.toNat*c+o'+0+(a.eval y).cells.toList.length<=cur.size:=by
       have:cur.size=cur.toList.length:=by simp
       rw[this,hall2,aVd,hpos,hD2];simp only[aTH];omega
      have hst2:=run_storeCells_at P b (i.toNat*c+o') e' (a.eval y).cells.toList 0 cur w hg hfit (fun v hv=>B5 hR v hv);have hrow:cur.toList.take (i.toNat*c+o'+0)++(a.eval y).cells.toList++cur.toList.drop (i.toNat*c+o'+0+(a.eval y).cells.toList.length)=(c1++(d1++(a.eval y).cells.toList++d3)++c3)++D:=by
       rw[aVd,hpos,hD2,hall2,aUR,List.drop_append,List.drop_of_length_le (by omega),List.nil_append,aUw,aVn];simp only[aTN]
      rw[hrow] at hst2;obtain⟨inf,hinf,hsz,_⟩:=FY hty;have hs2:(a.eval y).cells.size=inf.size:=by rw[hsz,<-hRl,aUd]
      have hnewlen:((c1++(d1++(a.eval y).cells.toList++d3)++c3)++D).length=cur.size:=by
       have:cur.size=cur.toList.length:=by simp
       rw[this,hall];simp only[aTH];omega
      have hxs':(c1++(d1++(a.eval y).cells.toList++d3)++c3).length=n*t'.cells:=by
       rw[<-hx1];simp only[aTH];rw[f1];simp only[aTH];omega
      have hown':(w.setRow b ((c1++(d1++(a.eval y).cells.toList++d3)++c3)++D).toArray).ownsRow 0 e' t'.cells (.slice (some ⟨b,0,none⟩) n cap) n (c1++(d1++(a.eval y).cells.toList++d3)++c3):=
       ⟨hxs',.inr ⟨b,cap,_,rfl,aUC _,aVB w b cur _ e' _ hg,hnc,hcm,by rw[aUu,hnewlen,hcs],by rw[<-hxs'];exact aUR⟩⟩
      have hF':sI (Rd g w t') t'.cells (l.set i.toNat z') (c1++(d1++(a.eval y).cells.toList++d3)++c3):=by
       obtain⟨q1,q2,q3,r1,r2,r3,r4⟩:=YV hF f4 (s0 f4) hi;have s1:q1=c1/\q2=c2/\q3=c3:=by
        have h6:q1++(q2++q3)=c1++(c2++c3):=by rw[<-aTN,<-r1,e1,aTN]
        obtain⟨h7,h8⟩:=aVK h6 (by rw[r2,e2,hc]);obtain⟨h9,h10⟩:=aVK h8 (by rw[r3,e3,hc]);exact⟨h7,h9,h10⟩
       obtain⟨rfl,rfl,rfl⟩:=s1;exact r4
      have hownk: ∀o,s9 g H [k] b o:=fun o=>⟨k,_,by simp,hk,_,hcur,rfl⟩;refine qV.skip (w':=w.setRow b ((c1++(d1++(a.eval y).cells.toList++d3)++c3)++D).toArray) ?_ (rG.row (v:= .slice (some ⟨b,0,none⟩) n cap) hH (by rw[List.length_set];exact hl) hown' hF' hnone (fun u hu=>by rw[hcur] at hu;exact(aTI hu).symm)
       (.inr ⟨some b,⟨rfl,rfl,rfl,by simp,fun q _ hq=>aVc w b q _ (fun e=>hq (by rw[e]))⟩,fun b' hb' o=>by cases hb';exact hownk o⟩) (fun b' o hS=> ?_) hseal (fun b' hb'=>by cases hb';exact .inr hownk) ⟨trivial,trivial⟩)
      ·simp only[execOp,ho,hv,Instr.storeAt,Instr.sureAddr,storeVar,aTV,aT7,aTO,sizeOf,typeInfo,aUL,hinf,hs2,ne_eq,not_true_eq_false,aVU,hst2]
      ·have hne:b'≠b:=fun e=>hseal b rfl o (e▸hS);exact aT4 (a:=⟨b',o,none⟩) (aVc w b b' _ hne)
    ·cases hr
   ·cases hr
  ·cases hr
 ·rename_i ti i off k u z kk;split at hr
  ·rename_i hu;subst hu;generalize hb:pG H i=ob at hr;have hty:=sD hT hst;obtain⟨p,hp,hv⟩:=AI hx.1;obtain⟨hvy,hky⟩:=Z4 hT hH hy;have hR:=ER hvy;have hone:ti.ty.isRow=false->(a.eval y).cells.toList=[a.eval y]:=fun hrow=>by
    have h1:=B5 (C1 hrow hvy) _ (aTQ.2 rfl);cases h:a.eval y<;>first|rfl|(rw[h] at h1;simp [Value.oneCell'] at h1)
   have hrun:w.there p.1 (p.2+off) (a.eval y).cells.toList.length->(execOp a.eval o).run P w= .ok .skip (w.setCells p.1 (p.2+off) (a.eval y).cells.toList):=by
    intro hth;obtain⟨inf,hi,hsz,_⟩:=FY hty;have hlen:=s0 hR;have hcells:=run_storeCells_cells (P:=P) p.1 (p.2+off) (a.eval y).cells.toList 0 w (fun j hj=>by simpa using(hth j hj).1) (fun j hj=>by simpa using(hth j hj).2) (fun v hv=>B5 hR v hv);simp only[aVd] at hcells;have hs2:(a.eval y).cells.size=inf.size:=by rw[hsz,<-hlen,aUd]
    simp only[execOp,ho,hv,Instr.storeAt,Instr.sureAddr,storeVar,aTV,aT7,aTO,sizeOf,typeInfo,aUL,hi,hs2,ne_eq,not_true_eq_false,aVU,hcells]
   rcases aJS hr with⟨s,x',toks,z',hb',hset,hsome,⟨pa,pb,hpair⟩,hok,rfl⟩ |hr
   ·rw[hb'] at hb;have hn:wR ti.ty (a.eval y).cells.toList:=aJR hsome hpair hky;obtain⟨heff,hth⟩:=rG.store (side:=[]) (rds:=[i]) (k:=none) (v:=undef) hH hb hp hset hR trivial (fun _ _ _=>rfl) (fun h=>by rw[hpair] at h;cases h);have hfr: ∀j,base<=j->j<base+ti.ls.length->∀n,g.cur j n=none:=fun j h1 h2=>(hf j (by
     simp only[pH,aTW];right;rw[DI];exact .inl ((OU _ base j).2 ⟨h1,h2⟩)) h1).2
    obtain⟨g1,k1,k2,k3,k4⟩:=Z0 ti.ls base g _ heff.heap hfr;have e2:=rG.trans (side:=[]) (rds:=[]) heff k1;have hib:i<base:=by
     rcases aUX i base with h|h
     ·exact h
     ·have:=(hf i (by simp [pH]) h).1;rw[hp] at this;cases this
    have hiN:i∉pH (DA ti.ls base):=fun h=>by
     have:=(OU _ base i).1 h;omega
    have hb3:pG (pX (pX (DA ti.ls base) [(i,pC.cells s z' (uN toks off ti.ty.cells))]) H) i=some (.cells s z' (uN toks off ti.ty.cells)):=by
     rw[LR,C0 hiN];simp [pX,pG]
    have hyl:=s0 hR;have e3:=rG.retok (p:=p) (nt:=LC off (BX ti.ls base)) e2.heap hb3 (by rw[k2];exact hp) (fun cs hRz hra o k hm=>by
     obtain⟨q,rfl,hq⟩:=aAg hm;obtain⟨en,he,rfl⟩:=Z1 hq;obtain⟨u,h1,h2⟩:=a9Y hn hR (Z2 hok en he);have hql:en.1<(a.eval y).cells.toList.length:=(aTU.1 h2).1;have h3:=aAh hset h1 (by omega);refine⟨u,[],.slice none 0 0,h3,?_,k3 _ _ hq⟩;have hlen:=s0 hRz;have hlt:=aAi h3;have hc:cs[off+en.1]? =some cs[off+en.1]:=aTM (by omega);have hr1:=hra _ _ hc;have hr2:=aVH p.1 (a.eval y).cells.toList (p.2+off) w (fun j hj=>(hth j hj).1) en.1 hql;rw[aUn] at hr2;rw[hr2] at hr1;rw[hc,<-hr1,<-h2,aTM hql])
    exact qV.skip (w':=w.setCells p.1 (p.2+off) (a.eval y).cells.toList) (hrun hth) (rG.trans (side:=[]) (rds:=[i]) e2 e3)
   ·unfold SI at hr;split at hr
    ·rename_i s q toks _;generalize hset:rX ti.ty z s q off=oz at hr;cases oz with
     |none=>cases hr
     |some z'=>
      cases hr;obtain⟨heff,hth⟩:=rG.store (side:=[]) (rds:=[i]) hH hb hp hset hR (aJQ hky) (fun a b e=>by rw[e];rfl) hone;exact qV.skip (w':=w.setCells p.1 (p.2+off) (a.eval y).cells.toList) (hrun hth) heff
    ·cases hr
  ·cases hr
 ·cases hr
theorem aAj {t:Ty}{n:Nat}{ev:Operand->Value}{ρ:Operand->pD}: ∀(ps:List (Nat×Operand)) (l z:List t.den) (cs:List Value),sI (Rd g w t) t.cells l cs->l.length=n->(∀q∈ps,r5 g w (ρ q.2) (ev q.2))->B0 t n (some l) (tP ρ ps)=some z->
  ∃cs',Instr.fill (fun i=>some (i*t.cells,t.cells)) cs.toArray (ps.map fun q=>(q.1,ev q.2))=some cs'.toArray/\sI (Rd g w t) t.cells z cs'/\z.length=n
 |[],l,z,cs,r,hl,_,h=>by
  simp only[tP,B0,aTE] at h;subst h;exact⟨cs,rfl,r,hl⟩
 |(i,q)::ps,l,z,cs,r,hl,hq,h=>by
  have h0:=hq (i,q) (by simp);generalize hs:ρ q=s at h0;simp only[tP,hs] at h;obtain⟨d,k⟩:=s;cases d with
  |val u y=>
   simp only[B0,a9d] at h;by_cases hc:u=t/\i<n
   ·rw[aVS hc] at h;obtain⟨rfl,hi⟩:=hc;simp only[tI] at h;have hR:=ER h0.1;obtain⟨c1,c2,c3,rfl,h2,h3,h4⟩:=YV (i:=i) r hR (s0 hR) (by omega);obtain⟨cs',k1,k2,k3⟩:=aAj ps (l.set i y) z _ h4 (by simpa using hl) (fun q hq'=>hq q (by simp [hq'])) h;refine⟨cs',?_,k2,k3⟩;simp only[aUS];rw[a9X rfl (by have:=s0 hR;simpa using this) (c1:=c1) (c2:=c2) (c3:=c3) (by simp) h2 h3];exact k1
   ·rw[aVo hc] at h;cases ps with
    |nil=>simp [tP,B0] at h
    |cons p ps=>simp [tP,B0] at h
  |_=>simp [B0] at h
theorem Z5 {t:TypeId}{n:Nat}{ps:Array (Nat×Operand)}(ho:o.op= .buildSlice t n ps) {ρ:Operand->pD}(hρ: ∀q∈ps.toList,r5 g w (ρ q.2) (a.eval q.2)) {u:Ty}{el:TypeId}{by':Nat}{ar:Bool}{ls:List (Nat×TypeId×Nat)}(hst:r7 T t=some ⟨.list u,el,by',ar,ls⟩) {l:List u.den}
  (hb:B0 u n (some (CK u n)) (tP ρ ps.toList)=some l) (hn:n<=16777216/\n*u.cells<=16777216):
  ∃cs':List Value,sI (Rd g w u) u.cells l cs'/\l.length=n/\(execOp a.eval o).run P w= .ok (.value (.slice (some ⟨w.heap.size,0,none⟩) n n)) (w.alloc (.cells cs'.toArray el)):=by
    obtain⟨h2,h3,_⟩:=(sD hT hst).2;obtain⟨ei,hei,hz⟩:=aTT.1 h3;simp only[aUa] at hz;obtain⟨cs',k1,k2,k3⟩:=aAj hT hH ps.toList (CK u n) l _ (a96 n) (a97 u n) hρ hb;refine⟨cs',k2,k3,?_⟩;have hzc:(wD u).cells=(sV u).toArray:=by
     unfold wD;cases h:u<;>simp [Ty.isRow,sV,Value.cells]
    have hmap:(ps.map fun(q:Nat×Operand)=>(q.1,a.eval q.2)).toList=ps.toList.map fun q=>(q.1,a.eval q.2):=by simp
    have hzl:(sV u).length=u.cells:=s0 (DG g w u);have hrow: ∀z:Array Value,(n*u.cells≠0->z=(sV u).toArray)->(Array.range (n*u.cells)).map (fun i=>z[i%z.size]!)=(List.flatten (List.replicate n (sV u))).toArray:=by
     intro z hz0;by_cases h0:n*u.cells=0
     ·rw[h0];have:List.flatten (List.replicate n (sV u))=[]:=aUc (by simp [hzl,h0]);rw[this];simp
     ·rw[hz0 h0];have hpos:0<u.cells:=Nat.pos_of_ne_zero (fun h=>h0 (by rw[h];simp));apply aUP.1;apply List.ext_getElem?;intro j;have key: ∀(m j:Nat),j<m*u.cells->(List.flatten (List.replicate m (sV u)))[j]? =(sV u)[j%u.cells]? :=by
       intro m
       induction m with
       |zero=>intro j h;simp at h
       |succ m ih=>
        intro j h;rw[List.replicate_succ,aVP];by_cases hj:j<u.cells
        ·rw[aTY (by omega),Nat.mod_eq_of_lt hj]
        ·rw[aTP (by omega),hzl,ih (j-u.cells) (by rw[aUJ] at h;omega)];congr 1
         conv=>rhs;rw[<-Nat.sub_add_cancel (Nat.le_of_not_lt hj),Nat.add_mod_right]
      by_cases hj:j<n*u.cells
      ·have hm:j%u.cells<(sV u).length:=by rw[hzl];exact Nat.mod_lt _ hpos
       simp only[Array.toList_map,Array.toList_range,List.getElem?_map,List.getElem?_range hj,Option.map_some,aUu,hzl];rw[key n j hj,aTM hm];simp [getElem!_pos,hm]
      ·rw[aU4 (by simp;omega),aU4 (by simp [hzl];omega)]
    have hlim: ¬(n*u.cells>2^24):=by have:=hn.2;omega
    by_cases h0:n*u.cells=0
    ·simp only[execOp,ho,Instr.buildSlice,aTV,aTX h2,aTO,sizeOf,typeInfo,aUL,hei,hz.1,aT7,aTG hlim,aTD h0];rw[hrow #[] (fun h=>absurd h0 h),hmap,k1];simp only[newRow,aTV,run_newObj,aTO,aT7];rfl
    ·simp only[execOp,ho,Instr.buildSlice,aTV,aTX h2,aTO,sizeOf,typeInfo,aUL,hei,hz.1,aT7,aTG hlim,aTG h0,zeroValue,hz.2.2,hzc];rw[hrow (sV u).toArray (fun _=>rfl),hmap,k1];simp only[newRow,aTV,run_newObj,aTO,aT7];rfl
theorem aJU {t:TypeId}{n:Nat}{ps:Array (Nat×Operand)}(ho:o.op= .buildSlice t n ps) {ρ:Operand->pD}(hρ: ∀q∈ps.toList,r5 g w (ρ q.2) (a.eval q.2)) {base:Nat}{e:pQ}(hr:XV base n (tP ρ ps.toList) (r7 T t)=some e) (hf:zM g base e):qV P o a g w H e:=by
 generalize hst:r7 T t=ot at hr;unfold XV at hr;split at hr
 ·rename_i u el by' ls_;split at hr
  ·rename_i hn0;generalize hb:B0 u n (some (CK u n)) (tP ρ ps.toList)=ol at hr;cases ol with
   |none=>cases hr
   |some l=>
    simp only[a9r] at hr;split at hr
    ·rename_i hn;cases hr;obtain⟨cs',k2,k3,hrun⟩:=Z5 hT hH ho hρ hst hb hn.2;have hfr:=(hf base (by simp [pH]) (aTZ _)).2;have hlen:=HJ k2;have hown:(w.alloc (.cells cs'.toArray el)).ownsRow 0 el u.cells (.slice (some ⟨w.heap.size,0,none⟩) n n) n cs':=⟨by rw[hlen,k3],.inr ⟨w.heap.size,n,cs'.toArray,rfl,aUC _,aVR w _,aTZ _,by unfold maxLen;omega,by simp [hlen,k3],by simp [<-k3,<-hlen]⟩⟩;refine qV.value hrun (rG.row (v:= .slice (some ⟨w.heap.size,0,none⟩) n n) (xs:=cs') hH k3 hown k2 (fun m _=>hfr m) (fun u hu=>by rw[hfr] at hu;cases hu) (.inl (World.grownBy_alloc w _ _)) (fun b o h=>aT4 (a:=⟨b,o,none⟩) (aT9 _ _ _ (hH.sl b o h))) (fun b hb o hs=> ?_) (fun b hb=> ?_) ⟨⟨by simp [Gh.tok],.inr ⟨_,_,rfl,aTZ _⟩⟩,trivial⟩)
     ·cases hb;exact aVI _ (hH.sl _ _ hs)
     ·cases hb;exact .inl (aTZ _)
    ·cases hr
  ·rename_i hn0;generalize hb:B0 u n (some (CK u n)) (tP ρ ps.toList)=ol at hr;cases ol with
   |none=>cases hr
   |some l=>
    simp only[SE] at hr;split at hr
    ·rename_i hn;cases hr;obtain⟨cs',k2,k3,hrun⟩:=Z5 hT hH ho hρ hst hb hn;have hfr:=hf base (by simp [pH]) (aTZ _);exact qV.value (v:= .slice (some ⟨w.heap.size,0,none⟩) n n) (w':=w.alloc (.cells cs'.toArray el)) hrun (rG.lit hH rfl k3 k2 (by unfold maxLen;omega) hfr.2)
    ·cases hr
 ·rename_i u el by' ls_;generalize hb:B0 u n (some (CK u n)) (tP ρ ps.toList)=ol at hr;cases ol with
  |none=>cases hr
  |some l=>
   simp only[SE] at hr;split at hr
   ·rename_i hn;cases hr;obtain⟨cs',k2,k3,hrun⟩:=Z5 hT hH ho hρ hst hb hn;have hfr:=hf base (by simp [pH]) (aTZ _);exact qV.value (v:= .slice (some ⟨w.heap.size,0,none⟩) n n) (w':=w.alloc (.cells cs'.toArray el)) hrun (rG.lit hH rfl k3 k2 (by unfold maxLen;omega) hfr.2)
   ·cases hr
 ·cases hr
theorem aJV {args:Array Operand}{tys:Array TypeId}(ho:o.op= .call ⟨.builtin .append,args,tys⟩) {ρ:Operand->pD}(hρ: ∀x∈args.toList,r5 g w (ρ x) (a.eval x)) {e:pQ}
  {t:TypeId}(htt:tys= #[t,t]) (hr:ST H (r7 T t) (uO ρ args.toList)=some e) (hs: ∀p∈e.side,p):qV P o a g w H e:=by
 subst htt;generalize hst:r7 T t=ot at hr;generalize hss:uO ρ args.toList=ss at hr;unfold ST at hr;split at hr
 ·rename_i u el by' ar ls_ k n _ b1 r _;split at hr
  ·rename_i hbu;subst hbu;generalize hk:pG H k=ob at hr;unfold SS at hr;split at hr
   ·rename_i e' t' l m;split at hr
    ·rename_i hbt;subst hbt;split at hr
     ·rename_i hec;obtain⟨rfl,hpos,hb1⟩:=hec;simp only[tI] at hr;cases hr;have hnm:=hs _ (by simp:(n=m)∈_);subst hnm;have hby:=hs _ (by simp:((n+List.length r)*by'<=140737488355328)∈_);obtain⟨v,vr,hv,hs1,hs2⟩:=TL hT hH hρ hss;obtain⟨h2,h3,_⟩:=(sD hT hst).2;obtain⟨ei,hei,hz⟩:=aTT.1 h3;simp only[aUa] at hz;obtain⟨cs,hx⟩:=FZ (a:=a) hT hH ho;obtain⟨hl,v0,xs,hv0,hown,hF0,hnone,hseal⟩:=hH.blk k _ hk;obtain⟨hcur,hshape⟩:=hs1.1;rw[hv0] at hcur;obtain rfl:=aTI hcur;obtain⟨adr,capr,hvr,hler,hlr⟩:=DH hs2.1;have hlen2:(l++r).length=n+List.length r:=by rw[aTH,hl]
      rw[hlen2];have hownk: ∀q,v0.ownBlock=some q->∀o,s9 g H [k] q o:=fun q hq o=>⟨k,_,by simp,hk,v0,hv0,hq⟩;by_cases hm:List.length r=0
      ·obtain rfl:r=[]:=aUc hm;refine qV.value (v:=v0) (w':=w) ?_ (rG.row (v:=v0) (xs:=xs) hH hlen2 hown (by rw[List.append_nil];exact hF0) hnone (fun u hu=>by
        have h5:g.cur k n=some u:=hu;rw[hv0] at h5;exact(aTI h5).symm) (.inl ⟨rfl,rfl,rfl,aTZ _,fun _ _ _=>rfl⟩) (fun _ _ _=>rfl) hseal (fun q hq=> .inr (hownk q hq)) ⟨⟨by simp [Gh.tok],hshape⟩,trivial⟩)
       obtain⟨adl,capl,hvl,hlel⟩: ∃adl capl,v0= .slice adl n capl/\n<=capl:=by
        rcases hshape with⟨h,rfl⟩ |⟨b,cap,h,h'⟩
        ·exact⟨_,_,h,aTZ _⟩
        ·exact⟨_,_,h,h'⟩
       rw[hx,hv,hvr,hvl];have ha0:(#[Value.slice adl n capl,Value.slice adr (List.length ([]:List b1.den)) capr]:Array Value)[0]? =some (.slice adl n capl):=rfl;have ha1:(#[Value.slice adl n capl,Value.slice adr (List.length ([]:List b1.den)) capr]:Array Value)[1]? =some (.slice adr 0 capr):=rfl;have ht0:(#[t,t]:Array TypeId)[0]? =some t:=rfl;have ht1:(#[t,t]:Array TypeId)[1]? =some t:=rfl;simp only[builtin,Builtin.append_,ht0,ht1,ha0,ha1,aTV,aTX h2,aTO,aT7,sizeOf,typeInfo,aUL,hei];cases adr<;>cases adl<;>simp [Builtin.lenOf,Builtin.firstCells,loadCells,loadCellsFrom,storeCells,hlel]
      ·obtain⟨b,off,rfl,hL⟩: ∃b o,adr=some ⟨b,o,none⟩/\xR (Rd g w b1) w g.S b1.cells b o r:=by
        rcases hlr with rfl|h
        ·exact absurd rfl hm
        ·exact h
       obtain⟨news,hF,hra,_⟩:=LP hL;obtain⟨q,cap,w',hrun,hown',hq,hg,hcap,hcell⟩:=YW (P:=P) w t o.type e' ei (wD b1) b1.cells by' h2 hei hz.2.2 hz.1 hz.2.1 (by
        have:=s0 (ER (OP g w b1));simpa using this) v0 n xs hown ⟨b,off,none⟩ (List.length r) capr news (HJ hF) (fun j u hu=>by rw[aUQ];exact hra j u hu) (OT (fun _ _ h=>B5 h) hF) (by omega)
        (by
         have:=Nat.mul_le_mul_left (n+List.length r) hb1;unfold maxLen;omega) hby
       refine qV.value (v:= .slice (some ⟨q,0,none⟩) (n+List.length r) cap) (w':=w') ?_ (rG.row (v:= .slice (some ⟨q,0,none⟩) (n+List.length r) cap) (xs:=xs++news) hH hlen2 hown' (OL hF0 hF) (fun m hm'=>hnone m (by omega)) (fun u hu=>by
        rw[hnone _ (by omega)] at hu;cases hu) (.inr ⟨v0.ownBlock,hg,fun b hb o=>hownk b hb o⟩) (fun b o hS=>hcell b o (hH.sl b o hS) (fun hb=>absurd hS (hseal b hb o))) (fun b hb o hS=> ?_) (fun b hb=> ?_) ⟨⟨by simp [Gh.tok],.inr ⟨q,cap,rfl,hcap⟩⟩,trivial⟩)
       ·rw[hx,hv,hvr];simp only[builtin,aTV,hrun,aTO,aT7]
       ·cases hb;rcases hq with h|h
        ·rw[h] at hS;exact aVI _ (hH.sl _ _ hS)
        ·exact hseal _ h o hS
       ·cases hb;rcases hq with h|h
        ·exact .inl (aVh h.symm)
        ·exact .inr (hownk _ h)
     ·cases hr
    ·cases hr
   ·cases hr
  ·cases hr
 ·rename_i u el by' ar ls_ a1 l k b1 r k2;split at hr
  ·rename_i hab;obtain⟨rfl,rfl⟩:=hab;simp only[tI] at hr;generalize hk:pG H k=ob at hr;unfold SR at hr;split at hr
   ·rename_i e' c n;split at hr
    ·rename_i hec;obtain⟨rfl,hcc,hpos,hb1⟩:=hec;cases hr;rw[aTH];have hln:=hs _ (by simp:(List.length l=n)∈_);have hby:=hs _ (by simp:((List.length l+List.length r)*by'<=140737488355328)∈_);obtain⟨v,vr,hv,hs1,hs2⟩:=TL hT hH hρ hss;obtain⟨h2,h3,_⟩:=(sD hT hst).2;obtain⟨ei,hei,hz⟩:=aTT.1 h3;simp only[aUa] at hz;obtain⟨cs,hx⟩:=FZ (a:=a) hT hH ho;obtain⟨v0,xs,hv0,hown,hnone,hseal⟩:=hH.blk k _ hk;have hcur:g.cur k (List.length l)=some v:=hs1.2;rw[hln,hv0] at hcur;obtain rfl:=aTI hcur;obtain⟨adr,capr,hvr,hler,hlr⟩:=DH hs2.1;obtain⟨adl,capl,hvl,hlel,hll⟩:=DH hs1.1;by_cases hm:List.length r=0
     ·
      obtain rfl:r=[]:=aUc hm;have hlr:List.length l+List.length ([]:List b1.den)=n:=by rw[hln];rfl
      have hget: ∀i,pG (pX [(k,pC.grow e' c (List.length l+List.length ([]:List b1.den)))] H) i=pG H i:=by
       intro i;simp only[pX,pG];by_cases hi:k=i
       ·subst hi;rw[aTD rfl,hlr];exact hk.symm
       ·rw[aTG hi]
      have hkeep:rG g w H ⟨[List.length l=n,(List.length l+List.length ([]:List b1.den))*by'<=140737488355328],(.val (.list b1) (l++[]),some k),[(k,.grow e' c (List.length l+List.length ([]:List b1.den)))],[k]⟩ g w v0:=by
       refine⟨.refl _ _,?_,⟨fun i b h=>hH.blk i b ((hget i).symm.trans h),fun i j bi bj b o' hij h1 h2=>hH.dis i j bi bj b o' hij ((hget i).symm.trans h1) ((hget j).symm.trans h2),hH.sl,hH.tab.1,fun i blk b o' h ho'=>hH.tab.2 i blk b o' ((hget i).symm.trans h) ho'⟩,.refl _ _ _,fun i blk b o' hi hg ho'=> .inr ⟨i,blk,hi,(hget i).symm.trans hg,ho'⟩,fun _ _=>⟨rfl,rfl⟩,fun i u' y us h=> .inl ⟨y,us,(hget i).symm.trans h⟩⟩;rw[List.append_nil];exact hs1
      refine qV.value (v:=v0) (w':=w) ?_ hkeep;rw[hx,hv,hvr,hvl];have ha0:(#[Value.slice adl (List.length l) capl,Value.slice adr (List.length ([]:List b1.den)) capr]:Array Value)[0]? =some (.slice adl (List.length l) capl):=rfl;have ha1:(#[Value.slice adl (List.length l) capl,Value.slice adr (List.length ([]:List b1.den)) capr]:Array Value)[1]? =some (.slice adr 0 capr):=rfl;have ht0:(#[t,t]:Array TypeId)[0]? =some t:=rfl;have ht1:(#[t,t]:Array TypeId)[1]? =some t:=rfl;simp only[builtin,Builtin.append_,ht0,ht1,ha0,ha1,aTV,aTX h2,aTO,aT7,sizeOf,typeInfo,aUL,hei];cases adr<;>cases adl<;>simp [Builtin.lenOf,Builtin.firstCells,loadCells,loadCellsFrom,storeCells,hlel]
     ·obtain⟨b,off,rfl,hL⟩: ∃b o,adr=some ⟨b,o,none⟩/\xR (Rd g w b1) w g.S b1.cells b o r:=by
       rcases hlr with rfl|h
       ·exact absurd rfl hm
       ·exact h
      obtain⟨news,hF,hra,_⟩:=LP hL;have hxs:sI (Rd g w b1) b1.cells l xs:=by
       by_cases h0:List.length l=0
       ·obtain rfl:l=[]:=aUc h0;have:xs=[]:=aUc (by rw[hown.1,<-hln];simp);exact this
       ·rcases hll with rfl|⟨b0,off0,rfl,hL0⟩
        ·exact absurd rfl h0
        ·obtain⟨ls,hF0,hra0,_⟩:=LP hL0;rcases hown.2 with⟨e1,e2⟩ |⟨q,cap,cur,e1,e2⟩
         ·exact absurd (hln.trans e2) h0
         ·rw[hvl] at e1;simp only[aVN,aTE,Addr.mk.injEq] at e1;obtain⟨⟨rfl,rfl,_⟩,_,rfl⟩:=e1;have hvn:v0= .slice (some ⟨b0,0,none⟩) n capl:=by rw[hvl,hln]
          have hrx:=YX (hvn▸hown);have:ls=xs:=by
           have hl1:=HJ hF0;have hl2:=hown.1;apply List.ext_getElem?;intro j;by_cases hj:j<ls.length
           ·have h1:=hra0 j ls[j] (aTM hj);have hj':j<xs.length:=by rw[hl2,hcc,<-hln,<-hl1];exact hj
            have h2:=hrx j xs[j] (aTM hj');rw[h1] at h2;rw[aTM hj,aTM hj',aTI h2]
           ·rw[aU4 (by omega),aU4 (by rw[hl2,hcc,<-hln,<-hl1];omega)]
          rw[<-this];exact hF0
      obtain⟨q,cap,w',hrun,hown',hq,hg,hcap,hcell⟩:=YW (P:=P) w t o.type e' ei (wD b1) c by' h2 hei hz.2.2 (by rw[hz.1,hcc]) hz.2.1 (by
       have:=s0 (ER (OP g w b1));rw[hcc];simpa using this) v0 n xs hown ⟨b,off,none⟩ (List.length r) capr news (by rw[HJ hF,hcc]) (fun j u hu=>by rw[aUQ];exact hra j u hu) (OT (fun _ _ h=>B5 h) hF) (by omega)
       (by
        have:=Nat.mul_le_mul_left (List.length l+List.length r) hb1;unfold maxLen;omega) (by rw[<-hln];exact hby)
      refine qV.value (v:= .slice (some ⟨q,0,none⟩) (n+List.length r) cap) (w':=w') ?_ (by
       have:=rG.append (side:=[List.length l=n,(List.length l+List.length r)*by'<=140737488355328]) (rds:=[k]) hH hk hcc hln hv0 hown hnone hseal (hcc▸hxs) (hcc▸hF) (by omega) hown' hq hg hcap hcell;rw[hln];rw[hln] at this;exact this)
      rw[hx,hv,hvr];simp only[builtin,aTV,hrun,aTO,aT7]
    ·cases hr
   ·cases hr
  ·cases hr
 ·cases hr
end
def zN:Ty->TypeDesc
 | .int k=> .int k
 | .str=> .string
 |_=> .bool
theorem aAk {P:Program}{t:TypeId}{ti:TI}(h:sM P t ti) (hk:EO ti.ty=true):P.underlying t=some (zN ti.ty):=by
 have h2:=h.2;unfold xU at h2;obtain⟨ty,el,by',ar,ls⟩:=ti;cases ty<;>simp only[EO,aUU] at hk<;>exact h2
theorem aJW {g:Gh}{w:World}{k:Ty}(hk:EO k=true) {a x:k.den}{v u:Value}(ha:sE g w k a v) (hx:sE g w k x u):Instr.sameNow (zN k) v u=some (FT k a x)/\(FT k a x=true->u=v):=by
 cases k with
 |int k=>
  rw[v7 ha,v7 hx];simp only[zN,Instr.sameNow,aVg,FT];refine⟨?_,fun h=> ?_⟩
  ·congr 1
  ·rw[aUm h]
 |str=>
  rw[yB ha,yB hx];simp only[zN,Instr.sameNow,FT];refine⟨?_,fun h=> ?_⟩
  ·congr 1;rw[aUH,MapKept.bytes_beq,aTK];constructor
   ·intro h;have:=aUi (fun z:ByteArray=>z.data.toList) h;simpa using this
   ·intro h;rw[h]
  ·rw[aUm h]
 |bool=>
  rw[wF ha,wF hx];simp only[zN,Instr.sameNow,FT];refine⟨trivial,fun h=> ?_⟩;rw[aVT.1 h]
 |_=>simp [EO] at hk
theorem Z6 {g:Gh}{w:World}{k v:Ty}(hk:EO k=true) {a:k.den}{key:Value}(ha:sE g w k a key): ∀{l:List (k.den×v.den)}{es:List MapEntry}(i:Nat),DD g w k v l es->
  (xA k v l a=false->Instr.findNow (zN k) key es i=some none/\rV k v l a=v.zero/\∀b val born,sE g w v b val->DD g w k v (sL k v a b l) (es++[⟨key,val,born⟩]))/\
  (xA k v l a=true->∃j e,es[j]? =some e/\Instr.findNow (zN k) key es i=some (some (i+j,e.val))/\sE g w v (rV k v l a) e.val/\e.key=key/\∀b val,sE g w v b val->DD g w k v (sL k v a b l) (es.modify j fun e=>{e with key:=key,val:=val}))
 |[],es,i,h=>by
  rw[show es=[] from h];exact⟨fun _=>⟨rfl,rfl,fun b val born hb=>⟨_,[],rfl,ha,hb,rfl⟩⟩,fun h=>by simp [xA] at h⟩
 |(x,y)::l,_,i,⟨e,es',rfl,h1,h2,h3⟩=>by
  obtain⟨s1,s2⟩:=aJW hk ha h1;cases hq:FT k a x with
  |true=>
   rw[hq] at s1;refine⟨fun h=>by simp [xA,hq] at h,fun _=>⟨0,e,rfl,?_,?_,s2 hq,fun b val hb=> ?_⟩⟩
   ·simp only[Instr.findNow,s1,aVd]
   ·simp only[rV,hq,aVg];exact h2
   ·simp only[sL,hq,aVg];exact⟨_,es',rfl,ha,hb,h3⟩
  |false=>
   rw[hq] at s1;obtain⟨f1,f2⟩:=Z6 (v:=v) hk ha (i+1) h3;refine⟨fun h=> ?_,fun h=> ?_⟩
   ·simp only[xA,hq] at h;obtain⟨g1,g2,g3⟩:=f1 (by simpa using h);refine⟨by simp only[Instr.findNow,s1];exact g1,by simp only[rV,hq];simpa using g2,fun b val born hb=> ?_⟩;simp only[sL,hq];exact⟨e,_,rfl,h1,h2,g3 b val born hb⟩
   ·simp only[xA,hq] at h;obtain⟨j,e',g1,g2,g3,g4,g5⟩:=f2 (by simpa using h);refine⟨j+1,e',by simpa using g1,by simp only[Instr.findNow,s1];rw[g2];congr 3;omega,by simp only[rV,hq];simpa using g3,g4,fun b val hb=> ?_⟩;simp only[sL,hq];exact⟨e,_,rfl,h1,h2,g5 b val hb⟩
def TO (ok:Bool) (z:Value):Option (Nat×Value)->Value
 |some (_,v)=>if ok then .tuple #[v,.bool true] else v
 |none=>if ok then .tuple #[z,.bool false] else z
section
variable {P:Program}{o:Oper}{a:Act}{g:Gh}{w:World}{H:rI}{T:rZ}(hT:wE P T) (hH:rT g w H)
include hT hH
theorem rG.newMap {side:List Prop}{rds:List Nat}{base:Nat}{k v:Ty}(hf:g.J base=none) (hc:g.cur base=fun _=>none):
  rG g w H ⟨side,(.val .mp (some base),none),[(base,.map k v [])],rds⟩ (g.var base w.heap.size none) (w.alloc (.map #[] 0)) (.map (some w.heap.size)):=by
 have hJ:(g.var base w.heap.size none).J base=some ⟨w.heap.size,0,none⟩:=by simp [Gh.var]
 have le:Le g w (g.var base w.heap.size none) (w.alloc (.map #[] 0)):=⟨fun _ _ h=>h,fun b o h=>aT4 (a:=⟨b,o,none⟩) (aT9 _ _ _ (hH.sl b o h)),fun i p h=>by
  show (if i=base then _ else _)=_;rw[aTG (fun e1=>by rw[e1,hf] at h;cases h)];exact h,fun _ _ _ h=>h⟩
 have fr:Fr (s9 g H (pH [(base,pC.map k v [])])) w (w.alloc (.map #[] 0)) g.S (g.var base w.heap.size none).S:=
  ⟨rfl,rfl,rfl,by simp,fun b hb _=>aT9 _ _ _ hb,fun b o hb _=>⟨aT4 (a:=⟨b,o,none⟩) (aT9 _ _ _ hb),aUD (a:=⟨b,o,none⟩) (aT9 _ _ _ hb)⟩,fun b o h=> .inl h,fun b s h=> .inl ((DF (aT9 _ _ _ (DE h))).trans h)⟩
 have gho: ∀i,i∉pH [(base,pC.map k v [])]->(g.var base w.heap.size none).J i=g.J i/\(g.var base w.heap.size none).cur i=g.cur i:=fun i hi=>⟨by
  show (if i=base then _ else _)=_;rw[aTG (fun e1=>hi (by simp [pH,e1]))],rfl⟩
 have get: ∀i blk,i∈pH [(base,pC.map k v [])]->pG (pX [(base,pC.map k v [])] H) i=some blk->i=base/\blk= .map k v []:=by
  intro i blk hi hg;simp only[pH,aTQ] at hi;subst hi;simp only[pX,pG,aVg,aTE] at hg;exact⟨rfl,hg.symm⟩
 have perm: ∀i blk b o,i∈pH [(base,pC.map k v [])]->pG (pX [(base,pC.map k v [])] H) i=some blk->rJ (g.var base w.heap.size none) i blk b o->w.heap.size<=b\/s9 g H (pH [(base,pC.map k v [])]) b o:=by
  intro i blk b o hi hg ho;obtain⟨rfl,rfl⟩:=get i blk hi hg;obtain⟨p,hp,h1⟩:=ho;rw[hJ] at hp;obtain rfl:=aTI hp;exact .inl (aVh h1.symm)
 refine⟨le,⟨.inr ⟨rfl,_,hJ,rfl⟩,trivial⟩,hH.upd le fr perm gho (fun i blk hi hg=> ?_) (fun i j bi bj b o hi hj hij hgi hgj _ _=>hij ((get i bi hi hgi).1.trans (get j bj hj hgj).1.symm)) (fun b o h=>aUj (hH.sl b o h) (by simp)),fr,perm,gho,fun i u' y us h=>by
  simp only[pX,pG] at h;split at h
  ·cases h
  ·exact .inl ⟨y,us,h⟩⟩
 obtain⟨rfl,rfl⟩:=get i blk hi hg;refine⟨⟨w.heap.size,0,none⟩,#[],0,hJ,rfl,?_,rfl,fun o hs=>aVI _ (hH.sl _ _ hs)⟩;show (w.heap.push (.map #[] 0))[w.heap.size]? =_;rw[aVG]
theorem aJX {t:TypeId}{r:Option Operand}(ho:o.op= .makeMap t r) {base:Nat}{e:pQ}(hr:Y8 T base (r7 T t) r=some e) (hf:zM g base e):qV P o a g w H e:=by
 generalize hst:r7 T t=ot at hr;unfold Y8 at hr;split at hr
 ·rename_i el fl ar ls_;unfold a9z at hr;split at hr
  ·split at hr
   ·cases hr;have hfr:=hf base (by simp [pH]) (aTZ _);refine qV.value (v:= .map (some w.heap.size)) (w':=w.alloc (.map #[] 0)) ?_ (rG.newMap hT hH hfr.1 (funext hfr.2));unfold execOp;rw[ho];simp only[Instr.makeMap,aTV,run_newObj,aTO,aT7,Option.map_none];rfl
   ·cases hr
  ·cases hr
 ·cases hr
theorem aJY {xt el fl:TypeId}{ok:Bool}{r:Nat}{es:Array MapEntry}{cl:Nat}{key z res:Value}{kd:TypeDesc}(hm:P.underlying xt=some (.map el fl)) (hb:w.heap[r]? =some (.map es cl)) (hkd:P.underlying el=some kd) (hsim: ∀ty,kd≠.interface ty) (hna: ∀n t,kd≠.array n t) (hns: ∀f,kd≠.struct f)
  {q:Option (Nat×Value)}(hq:Instr.findNow kd key es.toList 0=some q) (hz:(zeroValue fl).run P w= .ok z w)
  (hres:res=TO ok z q):(Instr.lookup xt (.map (some r)) key ok).run P w= .ok res w:=by
 have hck: ∀em,(Instr.checkKey em 10000 el key).run P w= .ok () w:=by
  intro em;unfold Instr.checkKey;simp only[aTV,aTX hkd,aTO];cases kd<;>first|rfl|(exact absurd rfl (hsim _)) |(exact absurd rfl (hna _ _)) |(exact absurd rfl (hns _))
 have hfk:(Instr.findKey el key es.toList).run P w= .ok q w:=by
  unfold Instr.findKey;simp only[aTV,aTX hkd,aTO,hq,aT7]
 subst hres;unfold Instr.lookup;simp only[aTV,aTX hm,aTO,MapKept.run_getObj_map hb,aT7,hck,hfk];cases q with
 |none=>cases ok<;>simp [hz,aTV,aTO,TO]
 |some q=>cases ok<;>simp [aTV,aTO,TO]
theorem rG.updMap {side:List Prop}{rds:List Nat}{i:Nat}{k v:Ty}{l l':List (k.den×v.den)}{p:Pl}{es es':Array MapEntry}{cl cl':Nat}(hi:pG H i=some (.map k v l)) (hp:g.J i=some p) (hp0:p.2=0) (hb:w.heap[p.1]? =some (.map es cl)) (hS: ∀o,¬g.S p.1 o) (hM:DD g w k v l' es'.toList):
  rG g w H ⟨side,(.any,none),[(i,.map k v l')],rds⟩ g {w with heap:=w.heap.setIfInBounds p.1 (.map es' cl')} undef:=by
 have hlt:p.1<w.heap.size:=(aT3.1 hb).1;have hoth: ∀b,b≠p.1->(w.heap.setIfInBounds p.1 (.map es' cl'))[b]? =w.heap[b]? :=fun b hne=>by rw[aU0 (Ne.symm hne)]
 have hown: ∀o,s9 g H (pH [(i,pC.map k v l')]) p.1 o:=fun o=>⟨i,_,by simp [pH],hi,p,hp,rfl⟩;have le:Le g w g {w with heap:=w.heap.setIfInBounds p.1 (.map es' cl')}:=⟨fun _ _ h=>h,fun b o h=>aT4 (a:=⟨b,o,none⟩) (hoth b (fun e=>hS o (e▸h))),fun _ _ h=>h,fun _ _ _ h=>h⟩
 have fr:Fr (s9 g H (pH [(i,pC.map k v l')])) w {w with heap:=w.heap.setIfInBounds p.1 (.map es' cl')} g.S g.S:=
  ⟨rfl,rfl,rfl,by simp,fun b _ hn=>hoth b (fun e=>hn 0 (e▸hown 0)),fun b o _ hn=>⟨aT4 (a:=⟨b,o,none⟩) (hoth b (fun e=>hn (e▸hown o))),aUD (a:=⟨b,o,none⟩) (hoth b (fun e=>hn (e▸hown o)))⟩,fun b o h=> .inl h,fun b s h=>(by
   by_cases e:b=p.1
   ·exact .inr fun o=>e▸hown o
   ·exact .inl ((DF (hoth b e)).trans h))⟩
 have get: ∀j blk,j∈pH [(i,pC.map k v l')]->pG (pX [(i,pC.map k v l')] H) j=some blk->j=i/\blk= .map k v l':=by
  intro j blk hj hg;simp only[pH,aTQ] at hj;subst hj;simp only[pX,pG,aVg,aTE] at hg;exact⟨rfl,hg.symm⟩
 have perm: ∀j blk b o,j∈pH [(i,pC.map k v l')]->pG (pX [(i,pC.map k v l')] H) j=some blk->rJ g j blk b o->w.heap.size<=b\/s9 g H (pH [(i,pC.map k v l')]) b o:=by
  intro j blk b o hj hg ho;obtain⟨rfl,rfl⟩:=get j blk hj hg;obtain⟨q,hq,rfl⟩:=ho;rw[hp] at hq;obtain rfl:=aTI hq;exact .inr (hown o)
 refine⟨le,⟨trivial,trivial⟩,hH.upd le fr perm (fun _ _=>⟨rfl,rfl⟩) (fun j blk hj hg=> ?_) (fun j j' bi bj b o hj hj' hij hgi hgj _ _=>hij ((get j bi hj hgi).1.trans (get j' bj hj' hgj).1.symm)) (fun b o h=>by simpa using hH.sl b o h),fr,perm,fun _ _=>⟨rfl,rfl⟩,fun j u' y us h=>by
  simp only[pX,pG] at h;split at h
  ·cases h
  ·exact .inl ⟨y,us,h⟩⟩
 obtain⟨rfl,rfl⟩:=get j blk hj hg;exact⟨p,es',cl',hp,hp0,by simp [aVr,hlt],YI le hM,hS⟩
theorem aAl {i:Nat}{k:Option Nat}{v:Value}(h:r5 g w (.val .mp (some i),k) v): ∃p,g.J i=some p/\v= .map (some p.1):=by
 obtain⟨p,h1,e⟩:=C1 rfl h.1;simp only[aUA,and_true] at e;exact⟨p,h1,e⟩
theorem aAm {k:Ty}:(∀ty,zN k≠.interface ty)/\(∀n t,zN k≠.array n t)/\(∀f,zN k≠.struct f):=by
 cases k<;>exact⟨fun _ h=>by simp [zN] at h,fun _ _ h=>by simp [zN] at h,fun _ h=>by simp [zN] at h⟩
theorem aJZ {t:TypeId}{x y:Operand}{ok:Bool}(ho:o.op= .lookup t x y ok) {sx sy:pD}(hx:r5 g w sx (a.eval x)) (hy:r5 g w sy (a.eval y)) {e:pQ}(hr:T0 T H ok (r7 T t) sx sy=some e):qV P o a g w H e:=by
 generalize hst:r7 T t=ot at hr;unfold T0 at hr;split at hr
 ·rename_i el fl ar ls_ i kk;generalize hk:r7 T el=ok1 at hr;generalize hv:r7 T fl=ok2 at hr;unfold Y9 at hr;split at hr
  ·rename_i kt vt k a' _;split at hr
   ·rename_i hkt;unfold SZ at hr;split at hr
    ·rename_i k' v' l hb;split at hr
     ·rename_i hkv;obtain⟨rfl,rfl⟩:=hkv;split at hr
      ·rename_i hkey;obtain⟨p,es,cl,hp,hp0,hh,hM,hS⟩:=hH.blk i _ hb;obtain⟨p',hp',hxv⟩:=aAl hT hH hx;rw[hp] at hp';obtain rfl:=aTI hp';have hm:=(sD hT hst).2;simp only[xU] at hm;have hkd:=aAk (sD hT hk) (hkt▸hkey);obtain⟨iv,hi1,hi2,hi3⟩:=FY (sD hT hv);have hz:(zeroValue fl).run P w= .ok (wD vt.ty) w:=by
        simp only[zeroValue,typeInfo,aTV,aUL,hi1,hi3,aTO,aT7]
       obtain⟨f1,f2⟩:=Z6 (v:=vt.ty) hkey hy.1 0 hM;rw[<-hkt] at hkd;obtain⟨p1,p2,p3⟩:=aAm hT hH (k:=k);have go: ∀{q res},Instr.findNow (zN k) (a.eval y) es.toList 0=some q->res=TO ok (wD vt.ty) q->(execOp a.eval o).run P w= .ok (.value res) w:=by
        intro q res h1 h2;unfold execOp;rw[ho];simp only[hxv,aTV,aJY hT hH hm hh hkd p1 p2 p3 h1 hz h2,aTO,aT7]
       cases hmh:xA k vt.ty l a' with
       |false=>
        obtain⟨g1,g2,_⟩:=f1 hmh;cases ok with
        |true=>
         cases hr;refine qV.pure hH (v:= .tuple #[wD vt.ty,.bool false]) (go g1 rfl) ?_;simp only[L4,hmh,g2];exact⟨[_,_],rfl,_,[_],rfl,OP g w _,trivial,_,[],rfl,vP g w false,trivial,rfl⟩
        |false=>
         cases hr;refine qV.pure hH (v:=wD vt.ty) (go g1 rfl) ?_;simp only[L4,g2];exact OP g w _
       |true=>
        obtain⟨j,e',g1,g2,g3,g4,g5⟩:=f2 hmh;cases ok with
        |true=>
         cases hr;refine qV.pure hH (v:= .tuple #[e'.val,.bool true]) (go g2 rfl) ?_;simp only[L4,hmh];exact⟨[_,_],rfl,_,[_],rfl,g3,trivial,_,[],rfl,vP g w true,trivial,rfl⟩
        |false=>
         cases hr;refine qV.pure hH (v:=e'.val) (go g2 rfl) ?_;simp only[L4];exact g3
      ·cases hr
     ·cases hr
    ·cases hr
   ·cases hr
  ·cases hr
 ·cases hr
theorem aJ0 {g:Gh}{w:World}{k:Ty}(hk:EO k=true) {x:k.den}{v:Value}(h:sE g w k x v) (n:Nat):Instr.sameBits n v v=true:=by
 cases k with
 |int k=>rw[v7 h];cases n<;>simp [Instr.sameBits]
 |str=>rw[yB h];cases n<;>simp [Instr.sameBits,MapKept.bytes_beq]
 |bool=>rw[wF h];cases n<;>simp [Instr.sameBits]
 |_=>simp [EO] at hk
omit hT hH in
theorem aAn {T:rZ}{ti:Option TI}{s:pD}{v:Value}(h:r5 g w s v):r5 g w (T2 T ti s) v:=by
 unfold T2;split
 ·unfold a9A;split
  ·rename_i f x _;refine⟨.inr ⟨rfl,?_⟩,trivial⟩;rcases h.1 with⟨h1,_⟩ |⟨h1,vs,h2,h3⟩
   ·cases h1
   ·rw[show vs=[] from h2] at h3;exact h3
  ·exact h
 ·exact h
theorem aAo {t:TypeId}{m x y:Operand}(ho:o.op= .mapUpdate t m x y\/o.op= .insert t m x y) {sm sx sy:pD}(hm:r5 g w sm (a.eval m)) (hx:r5 g w sx (a.eval x)) (hy:r5 g w sy (a.eval y)) {e:pQ}(hr:LF T H (r7 T t) sm sx sy=some e):qV P o a g w H e:=by
 generalize hst:r7 T t=ot at hr;unfold LF at hr;split at hr
 ·rename_i el fl ar ls_ i kk;generalize hk:r7 T el=ok1 at hr;unfold T1 at hr;split at hr
  ·rename_i kt k a' _ u b _;split at hr
   ·rename_i hkt;unfold LE at hr;split at hr
    ·rename_i k' v' l hb;split at hr
     ·rename_i hkv;obtain⟨rfl,rfl⟩:=hkv;split at hr
      ·rename_i hkey;cases hr;obtain⟨p,es,cl,hp,hp0,hh,hM,hS⟩:=hH.blk i _ hb;obtain⟨p',hp',hxv⟩:=aAl hT hH hm;rw[hp] at hp';obtain rfl:=aTI hp';have hmt:=(sD hT hst).2;simp only[xU] at hmt;have hkd:=aAk (sD hT hk) (hkt▸hkey);rw[<-hkt] at hkd;obtain⟨p1,p2,p3⟩:=aAm hT hH (k:=k);have hck:(Instr.checkKey false 10000 el (a.eval x)).run P w= .ok () w:=by
        unfold Instr.checkKey;simp only[aTV,aTX hkd,aTO];generalize zN k=kd at p1 p2 p3;cases kd<;>first|rfl|(exact absurd rfl (p1 _)) |(exact absurd rfl (p2 _ _)) |(exact absurd rfl (p3 _))
       have hfk: ∀{q},Instr.findNow (zN k) (a.eval x) es.toList 0=some q->(Instr.findKey el (a.eval x) es.toList).run P w= .ok q w:=by
        intro q hq;unfold Instr.findKey;simp only[aTV,aTX hkd,aTO,hq,aT7]
       obtain⟨f1,f2⟩:=Z6 (v:=u) hkey hx.1 0 hM;cases hmh:xA k u l a' with
       |false=>
        obtain⟨g1,_,g3⟩:=f1 hmh;refine qV.skip (w':={w with heap:=w.heap.setIfInBounds p.1 (.map (es.push ⟨a.eval x,a.eval y,cl⟩) (cl+1))}) ?_ (rG.updMap hT hH hb hp hp0 hh hS ?_)
        ·unfold execOp;rcases ho with ho|ho<;>rw[ho]<;>
          simp only[Instr.mapUpdate,hxv,aTV,aTX hmt,aTO,MapKept.run_getObj_map hh,hck,hfk g1,MapKept.run_setObj_map _ hh,aT7]
        ·simp only[L4,Array.toList_push];exact g3 b _ _ hy.1
       |true=>
        obtain⟨j,e',g1,g2,g3,g4,g5⟩:=f2 hmh;rw[aUg] at g2;refine qV.skip (w':={w with heap:=w.heap.setIfInBounds p.1 (.map (es.modify j fun e=>{e with key:=a.eval x,val:=a.eval y}) cl)}) ?_ (rG.updMap hT hH hb hp hp0 hh hS ?_)
        ·have hj:es[j]? =some e':=by rw[<-aUK];exact g1
         unfold execOp;rcases ho with ho|ho<;>rw[ho]<;>
          simp only[Instr.mapUpdate,hxv,aTV,aTX hmt,aTO,MapKept.run_getObj_map hh,hck,hfk g2,hj,Option.map_some,aU8,g4,Instr.keyThatStays,aJ0 hT hH hkey hx.1,aVg,MapKept.run_setObj_map _ hh,aT7]
        ·simp only[L4,Array.toList_modify];exact g5 b _ hy.1
      ·cases hr
     ·cases hr
    ·cases hr
   ·cases hr
  ·cases hr
 ·cases hr
end
theorem aAp {P:Program}{w:World}{r:Nat}{s:ByteArray}{n:Nat}(hb:w.heap[r]? =some (.stringIter s n)):(getObj r).run P w= .ok (.stringIter s n) w:=by
 simp [getObj,Sem.run,hb]
theorem aJ1 {P:Program}{w:World}{r:Nat}{s:ByteArray}{n:Nat}(o:Obj) (hb:w.heap[r]? =some (.stringIter s n)):(setObj r o).run P w= .ok () {w with heap:=w.heap.setIfInBounds r o}:=by
 simp [setObj,Sem.run,hb]
section
variable {P:Program}{o:Oper}{a:Act}{g:Gh}{w:World}{H:rI}{T:rZ}(hT:wE P T) (hH:rT g w H)
include hT hH
theorem rG.newIter {side:List Prop}{rds:List Nat}{base:Nat}{s:List UInt8}(hf:g.J base=none) (hc:g.cur base=fun _=>none):
  rG g w H ⟨side,(.val .ref (some (base,0)),none),[(base,.iter s 0)],rds⟩ (g.var base w.heap.size none) (w.alloc (.stringIter ⟨s.toArray⟩ 0)) (.pointer (some ⟨w.heap.size,0,none⟩)):=by
 have hJ:(g.var base w.heap.size none).J base=some ⟨w.heap.size,0,none⟩:=by simp [Gh.var]
 have le:Le g w (g.var base w.heap.size none) (w.alloc (.stringIter ⟨s.toArray⟩ 0)):=⟨fun _ _ h=>h,fun b o h=>aT4 (a:=⟨b,o,none⟩) (aT9 _ _ _ (hH.sl b o h)),fun i p h=>by
  show (if i=base then _ else _)=_;rw[aTG (fun e1=>by rw[e1,hf] at h;cases h)];exact h,fun _ _ _ h=>h⟩
 have fr:Fr (s9 g H (pH [(base,pC.iter s 0)])) w (w.alloc (.stringIter ⟨s.toArray⟩ 0)) g.S (g.var base w.heap.size none).S:=
  ⟨rfl,rfl,rfl,by simp,fun b hb _=>aT9 _ _ _ hb,fun b o hb _=>⟨aT4 (a:=⟨b,o,none⟩) (aT9 _ _ _ hb),aUD (a:=⟨b,o,none⟩) (aT9 _ _ _ hb)⟩,fun b o h=> .inl h,fun b s h=> .inl ((DF (aT9 _ _ _ (DE h))).trans h)⟩
 have gho: ∀i,i∉pH [(base,pC.iter s 0)]->(g.var base w.heap.size none).J i=g.J i/\(g.var base w.heap.size none).cur i=g.cur i:=fun i hi=>⟨by
  show (if i=base then _ else _)=_;rw[aTG (fun e1=>hi (by simp [pH,e1]))],rfl⟩
 have get: ∀i blk,i∈pH [(base,pC.iter s 0)]->pG (pX [(base,pC.iter s 0)] H) i=some blk->i=base/\blk= .iter s 0:=by
  intro i blk hi hg;simp only[pH,aTQ] at hi;subst hi;simp only[pX,pG,aVg,aTE] at hg;exact⟨rfl,hg.symm⟩
 have perm: ∀i blk b o,i∈pH [(base,pC.iter s 0)]->pG (pX [(base,pC.iter s 0)] H) i=some blk->rJ (g.var base w.heap.size none) i blk b o->w.heap.size<=b\/s9 g H (pH [(base,pC.iter s 0)]) b o:=by
  intro i blk b o hi hg ho;obtain⟨rfl,rfl⟩:=get i blk hi hg;obtain⟨p,hp,h1⟩:=ho;rw[hJ] at hp;obtain rfl:=aTI hp;exact .inl (aVh h1.symm)
 refine⟨le,⟨.inr ⟨rfl,_,hJ,rfl⟩,trivial⟩,hH.upd le fr perm gho (fun i blk hi hg=> ?_) (fun i j bi bj b o hi hj hij hgi hgj _ _=>hij ((get i bi hi hgi).1.trans (get j bj hj hgj).1.symm)) (fun b o h=>aUj (hH.sl b o h) (by simp)),fr,perm,gho,fun i u' y us h=>by
  simp only[pX,pG] at h;split at h
  ·cases h
  ·exact .inl ⟨y,us,h⟩⟩
 obtain⟨rfl,rfl⟩:=get i blk hi hg;refine⟨⟨w.heap.size,0,none⟩,hJ,rfl,?_,fun o hs=>aVI _ (hH.sl _ _ hs)⟩;show (w.heap.push (.stringIter ⟨s.toArray⟩ 0))[w.heap.size]? =_;rw[aVG]
theorem rG.updIter {side:List Prop}{rds:List Nat}{i:Nat}{s:List UInt8}{n n':Nat}{d:pD}{val:Value}{p:Pl}(hi:pG H i=some (.iter s n)) (hp:g.J i=some p) (hp0:p.2=0) (hb:w.heap[p.1]? =some (.stringIter ⟨s.toArray⟩ n)) (hS: ∀o,¬g.S p.1 o) (hd:r5 g {w with heap:=w.heap.setIfInBounds p.1 (.stringIter ⟨s.toArray⟩ n')} d val):
  rG g w H ⟨side,d,[(i,.iter s n')],rds⟩ g {w with heap:=w.heap.setIfInBounds p.1 (.stringIter ⟨s.toArray⟩ n')} val:=by
 have hlt:p.1<w.heap.size:=(aT3.1 hb).1;have hoth: ∀b,b≠p.1->(w.heap.setIfInBounds p.1 (.stringIter ⟨s.toArray⟩ n'))[b]? =w.heap[b]? :=fun b hne=>by rw[aU0 (Ne.symm hne)]
 have hown: ∀o,s9 g H (pH [(i,pC.iter s n')]) p.1 o:=fun o=>⟨i,_,by simp [pH],hi,p,hp,rfl⟩;have le:Le g w g {w with heap:=w.heap.setIfInBounds p.1 (.stringIter ⟨s.toArray⟩ n')}:=⟨fun _ _ h=>h,fun b o h=>aT4 (a:=⟨b,o,none⟩) (hoth b (fun e=>hS o (e▸h))),fun _ _ h=>h,fun _ _ _ h=>h⟩
 have fr:Fr (s9 g H (pH [(i,pC.iter s n')])) w {w with heap:=w.heap.setIfInBounds p.1 (.stringIter ⟨s.toArray⟩ n')} g.S g.S:=
  ⟨rfl,rfl,rfl,by simp,fun b _ hn=>hoth b (fun e=>hn 0 (e▸hown 0)),fun b o _ hn=>⟨aT4 (a:=⟨b,o,none⟩) (hoth b (fun e=>hn (e▸hown o))),aUD (a:=⟨b,o,none⟩) (hoth b (fun e=>hn (e▸hown o)))⟩,fun b o h=> .inl h,fun b s h=>(by
   by_cases e:b=p.1
   ·exact .inr fun o=>e▸hown o
   ·exact .inl ((DF (hoth b e)).trans h))⟩
 have get: ∀j blk,j∈pH [(i,pC.iter s n')]->pG (pX [(i,pC.iter s n')] H) j=some blk->j=i/\blk= .iter s n':=by
  intro j blk hj hg;simp only[pH,aTQ] at hj;subst hj;simp only[pX,pG,aVg,aTE] at hg;exact⟨rfl,hg.symm⟩
 have perm: ∀j blk b o,j∈pH [(i,pC.iter s n')]->pG (pX [(i,pC.iter s n')] H) j=some blk->rJ g j blk b o->w.heap.size<=b\/s9 g H (pH [(i,pC.iter s n')]) b o:=by
  intro j blk b o hj hg ho;obtain⟨rfl,rfl⟩:=get j blk hj hg;obtain⟨q,hq,rfl⟩:=ho;rw[hp] at hq;obtain rfl:=aTI hq;exact .inr (hown o)
 refine⟨le,hd,hH.upd le fr perm (fun _ _=>⟨rfl,rfl⟩) (fun j blk hj hg=> ?_) (fun j j' bi bj b o hj hj' hij hgi hgj _ _=>hij ((get j bi hj hgi).1.trans (get j' bj hj' hgj).1.symm)) (fun b o h=>by simpa using hH.sl b o h),fr,perm,fun _ _=>⟨rfl,rfl⟩,fun j u' y us h=>by
  simp only[pX,pG] at h;split at h
  ·cases h
  ·exact .inl ⟨y,us,h⟩⟩
 obtain⟨rfl,rfl⟩:=get j blk hj hg;exact⟨p,hp,hp0,by simp [aVr,hlt],hS⟩
theorem aJ2 {t:TypeId}{x:Operand}(ho:o.op= .range t x) {sx:pD}(hx:r5 g w sx (a.eval x)) {base:Nat}{e:pQ}(hr:YB base (r7 T t) sx=some e) (hf:zM g base e):qV P o a g w H e:=by
 generalize hst:r7 T t=ot at hr;unfold YB at hr;split at hr
 ·rename_i el b ar ls s k;cases hr;have hfr:=hf base (by simp [pH]) (aTZ _);have hv:=yB hx.1;have hu:=(sD hT hst).2;simp only[xU] at hu;refine qV.value (v:= .pointer (some ⟨w.heap.size,0,none⟩)) (w':=w.alloc (.stringIter ⟨s.toArray⟩ 0)) ?_ (rG.newIter hT hH hfr.1 (funext hfr.2));unfold execOp;rw[ho];simp only[Instr.range,hv,aTV,aTX hu,run_newObj,aTO,aT7];rfl
 ·cases hr
theorem aJ3 {x:Operand}{b:Bool}(ho:o.op= .next x b) {sx:pD}(hx:r5 g w sx (a.eval x)) {e:pQ}(hr:T3 H b sx=some e):qV P o a g w H e:=by
 unfold T3 at hr;split at hr
 ·rename_i i k;unfold YC at hr;split at hr
  ·rename_i s n hb;cases hr;obtain⟨p,hp,hp0,hh,hS⟩:=hH.blk i _ hb;obtain⟨q,hq,hv⟩:=AI hx.1;rw[hp] at hq;obtain rfl:=aTI hq;rw[hp0] at hv;by_cases hl:n<s.length
   ·have hsz:n<(⟨s.toArray⟩:ByteArray).size:=by simpa[ByteArray.size] using hl
    refine qV.value (v:= .tuple #[.bool true,.int .i64 (n:Int),.int .i32 (u6 s n)]) (w':={w with heap:=w.heap.setIfInBounds p.1 (.stringIter ⟨s.toArray⟩ (zI s n))}) ?_ (rG.updIter hT hH hb hp hp0 hh hS ⟨⟨fun _=>rfl,fun h=>absurd hl (of_decide_eq_false h)⟩,trivial⟩)
    unfold execOp;rw[ho];have hrn:zI s n=n+(Utf8.decode ⟨s.toArray⟩ n).2:=by unfold zI YA;rw[aTD hl]
    simp only[Instr.next,hv,aTV,aAp hh,aTO,hsz,aVg,aJ1 _ hh,aT7,hrn];rfl
   ·have hsz: ¬n<(⟨s.toArray⟩:ByteArray).size:=by simpa[ByteArray.size] using hl
    have hrn:zI s n=n:=by unfold zI;rw[aTG hl]
    have hw:({w with heap:=w.heap.setIfInBounds p.1 (.stringIter ⟨s.toArray⟩ (zI s n))}:World)=w:=by
     rw[hrn];have:w.heap.setIfInBounds p.1 (.stringIter ⟨s.toArray⟩ n)=w.heap:=by
      obtain⟨h1,h2⟩:=aT3.1 hh;apply Array.ext_getElem?;intro j;rw[aVr];split
      ·rename_i hj;subst hj;first|rw[hh] |rw[aTD h1,hh]
      ·rfl
     rw[this]
    refine qV.value (v:= .tuple #[.bool false]) (w':={w with heap:=w.heap.setIfInBounds p.1 (.stringIter ⟨s.toArray⟩ (zI s n))}) ?_ (rG.updIter hT hH hb hp hp0 hh hS ⟨⟨fun h=>absurd (aUm h) hl,fun _=>rfl⟩,trivial⟩)
    rw[hw];unfold execOp;rw[ho];simp only[Instr.next,hv,aTV,aAp hh,aTO,hsz,aVU,aT7]
  ·cases hr
 ·cases hr
end
def pN:Nat->List pC->rI
 |_,[]=>[]
 |c,b::L=>(c,b)::pN (c+1) L
theorem TP: ∀(L:List pC) (c i:Nat),pG (pN c L) i=if c<=i then L[i-c]? else none
 |[],c,i=>by simp [pN,pG]
 |b::L,c,i=>by
  simp only[pN,pG];by_cases h:c=i
  ·subst h;simp
  ·rw[aTG h,TP L (c+1) i];by_cases h2:c<=i
   ·rw[aTD h2,aTD (by omega)];obtain⟨d,hd⟩: ∃d,i-c=d+1:=⟨i-c-1,by omega⟩;rw[hd,aUo];congr 1;omega
   ·rw[aTG h2,aTG (by omega)]
theorem xC (L:List pC) (i:Nat):pG (pN 0 L) i=L[i]? :=by rw[TP];simp
def yW (g:Gh) (H:rI) (b o:Nat):Prop:= ∃i blk,pG H i=some blk/\rJ g i blk b o
def uP (g:Gh) (w:World):List pD->List Value->Prop
 |[],vs=>vs=[]
 |s::ss,vs=> ∃v vs',vs=v::vs'/\r5 g w s v/\uP g w ss vs'
def OW (g:Gh) (w:World):List pD->Value->Prop
 |[s],v=>r5 g w s v
 |l,v=> ∃vs:List Value,v= .tuple vs.toArray/\uP g w l vs
structure JN (g:Gh) (w:World) (L:List pC) (r:pJ) (g':Gh) (w':World) (v:Value):Prop where
 shut: ∀b o,g.S b o->g'.S b o/\w'.cell? ⟨b,o,none⟩=w.cell? ⟨b,o,none⟩
 heap:rT g' w' (pN 0 r.H)
 ret:OW g' w' r.ret v
 fr:Fr (yW g (pN 0 L)) w w' g.S g'.S
 perm: ∀i blk b o,r.H[i]? =some blk->rJ g' i blk b o->w.heap.size<=b\/yW g (pN 0 L) b o
 J: ∀(i:Nat) t x ts,L[i]? =some (.cells t x ts)->g'.J i=g.J i
 ty: ∀(i:Nat) t x ts u y us,L[i]? =some (.cells t x ts)->r.H[i]? =some (.cells u y us)->u=t
 Jt: ∀i p,i<L.length->g.J i=some p->g'.J i=some p
 cur: ∀i n u,i<L.length->g.cur i n=some u->g'.cur i n=some u
def zO (P:Program) (f:FuncId) (C:List pD->List pC->Option pJ):Prop:=
 (∀args w,(callFunc f args).run P w= .ok (.enter f args) w)/\
 ∀(g:Gh) (w:World) (args:List pD) (vals:List Value) (L:List pC) (r:pJ),rT g w (pN 0 L)->uP g w args vals->C args L=some r->(∀p∈r.side,p)->
  Calls P f vals.toArray w (fun e w'=> ∃v g',e= .returned v/\JN g w L r g' w' v)
def TQ (P:Program) (f:FuncId) (F:(t:Ty)->List t.den->Option (List t.den)):Prop:=
 ∀(g:Gh) (w:World) (e:TypeId) (t:Ty) (l l':List t.den) (v:Value) (n:Nat) (xs:List Value),J3 w->w.ownsRow 0 e t.cells v n xs->sI (Rd g w t) t.cells l xs->l.length=n->n<4611686018427387904->F t l=some l'->
  Calls P f #[v] w (fun en w'=>en= .returned (.tuple #[])/\l'.length=n/\∃xs',w'.ownsRow 0 e t.cells v n xs'/\sI (Rd g w t) t.cells l' xs'/\w.grownBy w' v.ownBlock)
def DJ (P:Program) (Γ:tX):Prop:= ∀f s,Γ f=some s->zO P f s.C/\∀F,s.row=some F->TQ P f F
theorem aAq {g:Gh}{w:World}{t:Ty}{x:t.den}{v:Value}{k:Option Nat}(h:r5 g w (.val t x,k) v):r5 g w (.val t x,FN t k) v:=by
 refine⟨h.1,?_⟩;cases t with
 |list u=>exact h.2
 |_=>trivial
theorem TR {g g':Gh}{w:World}(hS:g'.S=g.S) {t:Ty}(hp:t.pure=true) {x:t.den}{v:Value}{k k':Option Nat}(h:r5 g w (.val t x,k) v) (hk: ∀c,k=some c->∃c',k'=some c'/\∀n u,g.cur c n=some u->g'.cur c' n=some u) (hk0:k=none->k'=none):r5 g' w (.val t x,k') v:=by
 have hv:sE g' w t x v:=h.1.imp (fun⟨a,cs,e,q⟩=>⟨a,cs,e,uV hS hp q⟩) (fun⟨a,q⟩=>⟨a,uV hS hp q⟩);refine⟨hv,?_⟩;cases k with
 |none=>rw[hk0 rfl];trivial
 |some c=>
  obtain⟨c',rfl,h2⟩:=hk c rfl;have h1:=h.2;cases t with
  |list u=>exact h2 _ _ h1
  |pair a b=>exact h1
  |_=>exact h1.elim
section
variable {P:Program}{o:Oper}{a:Act}{g:Gh}{w:World}{H:rI}{T:rZ}{Γ:tX}(hT:wE P T) (hΓ:DJ P Γ) (hH:rT g w H)
include hT hΓ hH
theorem Z7 {ti:Option TI}{s:pD}{v:Value}(h:r5 g w s v):r5 g w (NY ti s) v:=by
 unfold NY;split
 ·have:v= .slice none 0 0:=h.1;subst this;exact⟨.inr ⟨rfl,none,0,rfl,aTZ _,.inl rfl⟩,trivial⟩
 ·exact h
theorem aAr {ρ:Operand->pD}: ∀{xs:List Operand}{ts:List TypeId},xs.length=ts.length->(∀x∈xs,r5 g w (ρ x) (a.eval x))->uP g w (FS T ρ xs ts) (xs.map a.eval)
 |[],[],_,_=>rfl
 |x::xs,t::ts,h,hx=>⟨_,_,rfl,Z7 hT hΓ hH (hx x (by simp)),aAr (by simpa using h) (fun y hy=>hx y (by simp [hy]))⟩
theorem aJ4 {l m:List pD}{vs us:List Value}(h:uP g w l vs) (k:uP g w m us):uP g w (l++m) (vs++us):=by
 induction l generalizing vs with
 |nil=>rw[show vs=[] from h];exact k
 |cons s l ih=>
  obtain⟨v,vs',rfl,h1,h2⟩:=h;exact⟨v,_,rfl,h1,ih h2⟩
theorem aAs: ∀{caps:List (Nat×Nat)}{vs:List Value},xB g caps vs->uP g w (Y5 caps) vs
 |[],_,h=>h
 |(i,o)::caps,_,⟨p,vs',h1,h2,h3⟩=>⟨_,_,h2,⟨.inr ⟨rfl,p,h1,rfl⟩,trivial⟩,aAs h3⟩
end
theorem aAt {P:Program}{o:Oper}{a:Act}{f:FuncId}{fop:Operand}{args:Array Operand}{tys:Array TypeId}(ho:o.op= .call ⟨.value fop,args,tys⟩) {caps:List Value}(hf:a.eval fop= .func (.func f) #[] caps.toArray)
  (hen: ∀args w,(callFunc f args).run P w= .ok (.enter f args) w) {w:World}{K:Act->World->Prop}{Q:Exit->Act->World->Prop}
  (h:Calls P f ((args.toList.map a.eval)++caps).toArray w (fun e w'=> ∃v,e= .returned v/\K (a.put o.dst v) w')):o.wp P a w K Q:=by
 unfold Oper.wp;have:(execOp a.eval o).run P w= .ok (.enter f ((args.toList.map a.eval)++caps).toArray) w:=by
  unfold execOp;rw[ho];simp only[resolve,hf,Deferred.ofValue,aTV,aT7,aTO,invoke];rw[hen];congr 2;apply aUP.1;simp
 rw[this];unfold Oper.upon;refine h.mono fun e w' ⟨v,he,hk⟩=> ?_;subst he;exact hk
def v8 (g:Gh):Option qT->Option Pl
 |some (.box i _ _ _ o)=>(g.J i).map fun p=>⟨p.1,p.2+o,p.3⟩
 |some (.tok k)=>g.J k
 |none=>none
def B6 (g:Gh):Option qT->Nat->Option Value
 |some (.tok k),n=>g.cur k n
 |_,_=>none
def uH (g:Gh) (ws:List qT):Gh:=⟨g.S,fun c=>v8 g ws[c]?,fun c n=>B6 g ws[c]? n⟩
def TS (H:rI) (ws:List qT):qT->pC->Prop
 | .box i u x toks o,.cells t y ts=>pG H i=some (.cells u x toks)/\qK t u x o=some y/\∀q n,(q,n)∈ts->∃k,ws[n]? =some (.tok k)/\wC toks (o+q)=some k/\q<t.cells
 | .tok k,.grow e c m=>pG H k=some (.grow e c m)
 | .tok k,.map s t l=>pG H k=some (.map s t l)/\s.pure=true/\t.pure=true
 | .tok k,.row e t l n=>pG H k=some (.row e t l n)/\t.pure=true
 |_,_=>False
structure G0 (H:rI) (ws:List qT) (L:List pC):Prop where
 len:ws.length=L.length
 ok: ∀(c:Nat) wh b,ws[c]? =some wh->L[c]? =some b->TS H ws wh b
 nodup:(rK ws).Nodup
def Z8 (ws:List qT) (t:Ty) (x y:t.den):Prop:=(t.pure=true/\y=x)\/CM ws t x=some y
def TT (H:rI) (ws:List qT):qT->pC->Prop
 | .box i u x toks o,.cells t y ts=>pG H i=some (.cells u x toks)/\(∃y0,qK t u x o=some y0/\Z8 ws t y0 y)/\∀q n,(q,n)∈ts->∃k,ws[n]? =some (.tok k)/\wC toks (o+q)=some k/\q<t.cells
 | .tok k,.grow e c m=>pG H k=some (.grow e c m)
 | .tok k,.map s t l=>pG H k=some (.map s t l)/\s.pure=true/\t.pure=true
 | .tok k,.row e t l n=>pG H k=some (.row e t l n)/\t.pure=true
 |_,_=>False
theorem TU {i o:Nat}: ∀{ws:List qT}{c0:Nat}{c q:Nat},FP i o ws c0=some (c,q)->∃d u x toks oc,c=c0+d/\ws[d]? =some (.box i u x toks oc)/\o=oc+q
 |[],_,_,_,h=>by simp [FP] at h
 | .box j u x toks oc::r,c0,c,q,h=>by
  simp only[FP] at h;split at h
  ·rename_i hc;simp only[aTE,aUa] at h;obtain⟨rfl,rfl⟩:=h;obtain⟨rfl,h2⟩:=hc;exact⟨0,u,x,toks,oc,rfl,rfl,by omega⟩
  ·obtain⟨d,u',x',toks',oc',h1,h2,h3⟩:=TU h;exact⟨d+1,u',x',toks',oc',by omega,by simpa using h2,h3⟩
 | .tok k::r,c0,c,q,h=>by
  simp only[FP] at h;obtain⟨d,u',x',toks',oc',h1,h2,h3⟩:=TU h;exact⟨d+1,u',x',toks',oc',by omega,by simpa using h2,h3⟩
theorem LS {i:Nat}: ∀{ws:List qT}{c0 c:Nat},vE i ws c0=some c->∃d,c=c0+d/\ws[d]? =some (.tok i)
 |[],_,_,h=>by simp [vE] at h
 | .tok j::r,c0,c,h=>by
  simp only[vE] at h;split at h
  ·rename_i hc;simp only[aTE] at h;subst h;subst hc;exact⟨0,rfl,rfl⟩
  ·obtain⟨d,h1,h2⟩:=LS h;exact⟨d+1,by omega,by simpa using h2⟩
 | .box _ _ _ _ _::r,c0,c,h=>by
  simp only[vE] at h;obtain⟨d,h1,h2⟩:=LS h;exact⟨d+1,by omega,by simpa using h2⟩
theorem Z9 {α β:Type}{a:Option α}{b:Option β}{p:α×β}(h:J8 a b=some p):a=some p.1/\b=some p.2:=by
 cases a<;>cases b<;>simp [J8] at h
 subst h;exact⟨rfl,rfl⟩
theorem aJ5 {x y:Option (Nat×List (Nat×Nat))}(h:NZ x=some y):y=x/\∀f l,x=some (f,l)->l=[]:=by
 unfold NZ at h;split at h
 ·cases h;exact⟨rfl,fun _ _ h=>by cases h⟩
 ·cases h;exact⟨rfl,fun _ _ h=>by cases h;rfl⟩
 ·cases h
theorem aJ6 {g g':Gh}{x:Option (Nat×List (Nat×Nat))}{cs:List Value}(hx: ∀f l,x=some (f,l)->l=[]) (h:OI g x cs):OI g' x cs:=by
 cases x with
 |none=>exact h
 |some q=>
  obtain⟨f,l⟩:=q;obtain rfl:=hx f l rfl;exact h
theorem TV {g g':Gh}{w:World}(hS:g'.S=g.S) (f:(t:Ty)->t.den->Option t.den)
  (hp: ∀a b x,f (.pair a b) x=J8 (if a.pure=true then some x.1 else f a x.1) (if b.pure=true then some x.2 else f b x.2))
  (hl: ∀t x,f (.list t) x=if t.pure=true then some x else none) (hb: ∀x,f .bool x=some x) (hi: ∀k x,f (.int k) x=some x) (hs: ∀x,f .str x=some x) (hu: ∀x,f .unit x=some x) (hfn: ∀x,f .fn x=some x) (hrl: ∀e t x y cs,f (.rl e t) x=some y->HI g x cs->HI g' y cs) (hmr: ∀x y cs,f .mref x=some y->OJ g x cs->OJ g' y cs)
  (hr: ∀x y cs,f .ref x=some y->OH g x cs->OH g' y cs) (hm: ∀x y cs,f .mp x=some y->LL g x cs->LL g' y cs) (hc: ∀x,f .clo x=NZ x):
  ∀{t:Ty}{x y:t.den}{cs:List Value},Rd g w t x cs->f t x=some y->Rd g' w t y cs
 | .bool,_,_,_,r,h=>by rw[hb] at h;cases h;exact r
 | .int _,_,_,_,r,h=>by rw[hi] at h;cases h;exact r
 | .str,_,_,_,r,h=>by rw[hs] at h;cases h;exact r
 | .unit,_,_,_,r,h=>by rw[hu] at h;cases h;exact r
 | .rl e t,x,y,_,r,h=>hrl e t x y _ h r
 | .fn,_,_,_,r,h=>by rw[hfn] at h;cases h;exact r
 | .mref,x,y,_,r,h=>hmr x y _ h r
 | .list t,x,y,_,r,h=>by
  rw[hl] at h;split at h
  ·rename_i hpu;cases h;exact uV hS (t:= .list t) (by simpa[Ty.pure] using hpu) r
  ·cases h
 | .ref,x,y,_,r,h=>hr x y _ h r
 | .clo,x,y,_,r,h=>by
  rw[hc] at h;obtain⟨rfl,h2⟩:=aJ5 h;exact aJ6 h2 r
 | .mp,x,y,_,r,h=>hm x y _ h r
 | .pair a b,x,y,_,⟨c1,c2,e,r1,r2⟩,h=>by
  rw[hp] at h;obtain⟨h1,h2⟩:=Z9 h;refine⟨c1,c2,e,?_,?_⟩
  ·split at h1
   ·rename_i hpu;exact(aTI h1)▸uV hS hpu r1
   ·exact TV hS f hp hl hb hi hs hu hfn hrl hmr hr hm hc r1 h1
  ·split at h2
   ·rename_i hpu;exact(aTI h2)▸uV hS hpu r2
   ·exact TV hS f hp hl hb hi hs hu hfn hrl hmr hr hm hc r2 h2
theorem ZA (f:(t:Ty)->t.den->Option t.den)
  (hp: ∀a b x,f (.pair a b) x=J8 (if a.pure=true then some x.1 else f a x.1) (if b.pure=true then some x.2 else f b x.2))
  (hl: ∀t x,f (.list t) x=if t.pure=true then some x else none) {u:Ty}: ∀{t:Ty}{x y:t.den}{o:Nat}{l:List u.den},f t x=some y->qK (.list u) t x o=some l->qK (.list u) t y o=some l:=by
 intro t
 induction t with
 |pair a b iha ihb=>
  intro x y o l h hg;rw[hp] at h;obtain⟨h1,h2⟩:=Z9 h;have key: ∀z:(Ty.pair a b).den,∀q,qK (.list u) (.pair a b) z q=if q<a.cells then qK (.list u) a z.1 q else qK (.list u) b z.2 (q-a.cells):=by
   intro z q;cases q with
   |zero=>
    conv=>lhs;unfold qK
    rw[aVo (by intro e;cases e),Nat.zero_sub]
   |succ q=>simp [qK]
  rw[key] at hg⊢;split
  ·rename_i ho;rw[aTD ho] at hg;split at h1
   ·rw[<-aTI h1];exact hg
   ·exact iha h1 hg
  ·rename_i ho;rw[aTG ho] at hg;split at h2
   ·rw[<-aTI h2];exact hg
   ·exact ihb h2 hg
 |list v=>
  intro x y o l h hg;rw[hl] at h;split at h
  ·cases h;exact hg
  ·cases h
 |_=>
  intro x y o l h hg;cases o with
  |zero=>
   unfold qK at hg;split at hg
   ·rename_i e;cases e
   ·cases hg
  |succ o=>simp [qK] at hg
theorem aJ7 {g:Gh}{w:World}{ws:List qT}{t:Ty}{x y:t.den}{cs:List Value}(r:Rd g w t x cs) (h:CM ws t x=some y):Rd (uH g ws) w t y cs:=by
 refine TV (g:=g) (g':=uH g ws) rfl (CM ws) (fun a b x=>rfl) (fun t x=>rfl) (fun _=>rfl) (fun _ _=>rfl) (fun _=>rfl) (fun _=>rfl) (fun _=>rfl) (fun _ _ x y cs h r=> ?_) (fun x y cs h r=> ?_) (fun x y cs h r=> ?_) (fun x y cs h r=> ?_) (fun _=>rfl) r h
 ·cases x with
  |none=>cases h;exact r
  |some q=>
   obtain⟨k,n⟩:=q;simp only[CM,a9f] at h;cases hc:vE k ws 0 with
   |none=>rw[hc] at h;cases h
   |some c=>
    rw[hc] at h;cases h;obtain⟨d,rfl,h2⟩:=LS hc;obtain⟨v,hv,hs⟩:=r;refine⟨v,?_,hs⟩;show B6 g ws[0+d]? n=_;rw[aUg,h2];exact hv
 ·cases x with
  |none=>cases h;exact r
  |some q=>
   obtain⟨i,o⟩:=q;simp only[CM,S4] at h;cases hc:FP i o ws 0 with
   |none=>rw[hc] at h;cases h
   |some q=>
    obtain⟨c,q⟩:=q;rw[hc] at h;cases h;obtain⟨d,u,x,toks,oc,rfl,h2,rfl⟩:=TU hc;obtain⟨p,hp,hv⟩:=r;refine⟨⟨p.1,p.2+oc,p.3⟩,?_,by have:=hv.1;rwa [<-aUn] at this,hv.2.imp id fun hv=>by rw[hv];simp [aUn]⟩;show v8 g ws[0+d]? =_;rw[aUg,h2];simp [v8,hp]
 ·cases x with
  |none=>cases h;exact r
  |some q=>
   obtain⟨i,o⟩:=q;simp only[CM,S4] at h;cases hc:FP i o ws 0 with
   |none=>rw[hc] at h;cases h
   |some q=>
    obtain⟨c,q⟩:=q;rw[hc] at h;cases h;obtain⟨d,u,x,toks,oc,rfl,h2,rfl⟩:=TU hc;obtain⟨p,hp,hv⟩:=r;refine⟨⟨p.1,p.2+oc,p.3⟩,?_,by rw[hv];simp [aUn]⟩;show v8 g ws[0+d]? =_;rw[aUg,h2];simp [v8,hp]
 ·cases x with
  |none=>cases h;exact r
  |some i=>
   simp only[CM,a9e] at h;cases hc:vE i ws 0 with
   |none=>rw[hc] at h;cases h
   |some c=>
    rw[hc] at h;cases h;obtain⟨d,rfl,h2⟩:=LS hc;obtain⟨p,hp,hv⟩:=r;refine⟨p,?_,hv⟩;show v8 g ws[0+d]? =_;rw[aUg,h2];exact hp
theorem aJ8 {g:Gh}{w:World}{ws:List qT}{t:Ty}{x y:t.den}{cs:List Value}(h:Z8 ws t x y) (r:Rd g w t x cs):Rd (uH g ws) w t y cs:=by
 rcases h with⟨hp,rfl⟩ |h
 ·exact uV (g:=g) (g':=uH g ws) rfl hp r
 ·exact aJ7 r h
theorem aJ9 {ws:List qT}{t u:Ty}{x y:t.den}{o:Nat}{l:List u.den}(h:Z8 ws t x y) (hg:qK (.list u) t x o=some l):qK (.list u) t y o=some l:=by
 rcases h with⟨_,rfl⟩ |h
 ·exact hg
 ·exact ZA (CM ws) (fun _ _ _=>rfl) (fun _ _=>rfl) h hg
structure OX (H:rI) (ws:List qT) (L:List pC):Prop where
 len:ws.length=L.length
 ok: ∀(c:Nat) wh b,ws[c]? =some wh->L[c]? =some b->TT H ws wh b
 nodup:(rK ws).Nodup
theorem ZB: ∀(ws:List qT) (c:Nat),(rK ws)[c]? =(ws[c]?).map qT.id
 |[],c=>by simp [rK]
 |w::ws,0=>rfl
 |w::ws,c+1=>by simpa[rK] using ZB ws c
theorem HK: ∀ws ws':List qT,rK (ws++ws')=rK ws++rK ws'
 |[],_=>rfl
 |w::ws,ws'=>by simp [rK,HK ws ws']
theorem JO: ∀{i:Nat}{l:List Nat},CL i l=true↔i∈l
 |i,[]=>by simp [CL]
 |i,j::r=>by
  simp only[CL,aTW];by_cases h:i=j
  ·simp [h]
  ·rw[aTG h,JO];simp [h]
theorem TW {ws:List qT}(h:(rK ws).Nodup) {c c':Nat}{x y:qT}(hx:ws[c]? =some x) (hy:ws[c']? =some y) (he:x.id=y.id):c=c':=by
 have h1:(rK ws)[c]? =some x.id:=by rw[ZB,hx];rfl
 have h2:(rK ws)[c']? =some x.id:=by rw[ZB,hy,he];rfl
 obtain⟨l1,e1⟩:=aTU.1 h1;obtain⟨l2,e2⟩:=aTU.1 h2;have hp:=aU1.1 h;rcases Nat.lt_trichotomy c c' with h3|h3|h3
 ·exact absurd (e1.trans e2.symm) (hp c c' l1 l2 h3)
 ·exact h3
 ·exact absurd (e2.trans e1.symm) (hp c' c l2 l1 h3)
theorem aAu: ∀{toks:List (Nat×Nat)}{q k:Nat},wC toks q=some k->(q,k)∈toks
 |[],_,_,h=>by simp [wC] at h
 |(q',k')::r,q,k,h=>by
  simp only[wC] at h;split at h
  ·rename_i e;subst e;simp only[aTE] at h;subst h;simp
  ·exact aTS _ (aAu h)
theorem aKa {v t:Ty}: ∀{u:Ty}{x:u.den}{o q:Nat}{y:t.den}{l:(Ty.list v).den},qK t u x o=some y->qK (.list v) u x (o+q)=some l->q<t.cells->qK (.list v) t y q=some l:=by
 intro u
 induction u with
 |pair a b iha ihb=>
  intro x o q y l h g hq;by_cases hu:o=0/\t= .pair a b
  ·obtain⟨rfl,rfl⟩:=hu;unfold qK at h;rw[aVS rfl] at h;simp only[tI,aTE] at h;subst h;simpa using g
  ·have keyh:(if o<a.cells then qK t a x.1 o else qK t b x.2 (o-a.cells))=some y:=by
    cases o with
    |zero=>
     unfold qK at h;rw[aVo (fun e=>hu ⟨rfl,e.symm⟩)] at h;simpa using h
    |succ o=>simpa[qK] using h
   have keyg: ∀z,qK (.list v) (.pair a b) x z=(if z<a.cells then qK (.list v) a x.1 z else qK (.list v) b x.2 (z-a.cells)):=by
    intro z;cases z with
    |zero=>
     conv=>lhs;unfold qK
     rw[aVo (by intro e;cases e),Nat.zero_sub]
    |succ z=>simp [qK]
   rw[keyg] at g;by_cases ho:o<a.cells
   ·rw[aTD ho] at keyh;have hfit:o+t.cells<=a.cells:=by
     have: ∀{u:Ty}{x:u.den}{o:Nat}{y:t.den},qK t u x o=some y->o+t.cells<=u.cells:=by
      intro u
      induction u with
      |pair a b iha ihb=>
       intro x o y h;have key: ∀o,(if o<a.cells then qK t a x.1 o else qK t b x.2 (o-a.cells))=some y->o+t.cells<=a.cells+b.cells:=by
        intro o h;by_cases ho:o<a.cells
        ·rw[aTD ho] at h;have:=iha h;omega
        ·rw[aTG ho] at h;have:=ihb h;omega
       cases o with
       |zero=>
        unfold qK at h;split at h
        ·rename_i e;subst e;simp
        ·exact key 0 (by simpa using h)
       |succ o=>exact key (o+1) (by simpa[qK] using h)
      |_=>
       intro x o y h;cases o with
       |zero=>
        unfold qK at h;split at h
        ·rename_i e;subst e;simp
        ·simp at h
       |succ o=>simp [qK] at h
     exact this keyh
    rw[aTD (by omega)] at g;exact iha keyh g hq
   ·rw[aTG ho] at keyh;rw[aTG (by omega),show o+q-a.cells=o-a.cells+q from by omega] at g;exact ihb keyh g hq
 |_=>
  intro x o q y l h g hq;cases o with
  |zero=>
   unfold qK at h;split at h
   ·rename_i e;subst e;simp only[tI,aTE] at h
    try subst h
    simpa using g
   ·simp at h
  |succ o=>simp [qK] at h
theorem aKb {g:Gh}{w:World}{H:rI}{ws:List qT}{L:List pC}(hH:rT g w H) (hm:OX H ws L):rT (uH g ws) w (pN 0 L):=by
 have wsL: ∀c b,pG (pN 0 L) c=some b->∃wh,ws[c]? =some wh/\TT H ws wh b:=by
  intro c b h;rw[xC] at h;have hlt:c<ws.length:=hm.len▸(aTU.1 h).1;exact⟨ws[c],aTM hlt,hm.ok c _ b (aTM hlt) h⟩
 have own: ∀c b wh,ws[c]? =some wh->TT H ws wh b->∀bb oo,rJ (uH g ws) c b bb oo->∃blk,pG H wh.id=some blk/\rJ g wh.id blk bb oo:=by
  intro c b wh hwh hw bb oo ho;cases wh with
  |box i u x toks off=>
   cases b with
   |cells t y ts=>
    obtain⟨h1,⟨y0,h2,h3⟩,h4⟩:=hw;obtain⟨p,hp,e1,e2,e3⟩:=ho;have hp':v8 g ws[c]? =some p:=hp;rw[hwh] at hp';obtain⟨p0,hp0,rfl⟩:=aTT.1 hp';obtain⟨p1,cs,hp1,hR,_⟩:=hH.blk i _ h1;obtain⟨c1,c2,c3,hcs,hl,hR2⟩:=EQ hR h2;have l1:=s0 hR;have l2:=s0 hR2;rw[hcs] at l1;simp only[aTH] at l1;exact⟨_,h1,p0,hp0,e1,by simp at e2;omega,by simp at e3;omega⟩
   |_=>exact hw.elim
  |tok k=>
   cases b with
   |grow e cc m=>
    obtain⟨v,hv,hb⟩:=ho;have hv':B6 g ws[c]? m=some v:=hv;rw[hwh] at hv';exact⟨_,hw,v,hv',hb⟩
   |map s t l=>
    obtain⟨p,hp,hb⟩:=ho;have hp':v8 g ws[c]? =some p:=hp;rw[hwh] at hp';exact⟨_,hw.1,p,hp',hb⟩
   |row e t l m=>
    obtain⟨v,hv,hb⟩:=ho;have hv':B6 g ws[c]? m=some v:=hv;rw[hwh] at hv';exact⟨_,hw.1,v,hv',hb⟩
   |_=>exact hw.elim
 refine⟨fun c b h=> ?_,fun c c' b b' bb oo hne h1 h2 o1 o2=> ?_,hH.sl,hH.tab.1,fun c b bb oo h ho=> ?_⟩
 rotate_right
 ·obtain⟨wh,hwh,hw⟩:=wsL c b h;obtain⟨k1,g1,p1⟩:=own c b wh hwh hw bb oo ho;exact hH.tab.2 _ _ bb oo g1 p1
 ·obtain⟨wh,hwh,hw⟩:=wsL c b h;cases wh with
  |box i u x toks off=>
   cases b with
   |cells t y ts=>
    obtain⟨h1,⟨y0,h2,h3⟩,h4⟩:=hw;obtain⟨p,cs,hp,hR,hra,hth,hns,htk⟩:=hH.blk i _ h1;obtain⟨c1,c2,c3,rfl,rfl,hR2⟩:=EQ hR h2;have l1:=s0 hR;have l2:=s0 hR2;simp only[aTH] at l1;refine⟨⟨p.1,p.2+c1.length,p.3⟩,c2,?_,aJ8 h3 hR2,fun j v hv=> ?_,⟨fun j hj=> ?_,fun h0 s hs=>hth.2 (by omega) s hs⟩,fun j hj hs=> ?_,fun q n hm'=> ?_⟩
    ·show v8 g ws[c]? =_;rw[hwh];simp [v8,hp]
    ·have:=hra (c1.length+j) v (by
      have hj':=(aTU.1 hv).1;rw[aTN,aTP (by omega),aUw,aTY hj'];exact hv)
     rw[aUn];exact this
    ·have:=hth.1 (c1.length+j) (by omega);rw[aUn];exact this
    ·exact hns (c1.length+j) (by omega) (by rw[<-aUn];exact hs)
    ·obtain⟨k,k1,k2,k3⟩:=h4 q n hm';have hmem:(c1.length+q,k)∈toks:=aAu k2;obtain⟨u',l,v,g1,g2,g3⟩:=htk _ _ hmem;refine⟨u',l,v,aJ9 h3 (aKa h2 g1 k3),?_,?_⟩
     ·rw[aTN,aTP (by omega),aUw,aTY (by omega)] at g2;exact g2
     ·show B6 g ws[n]? _=_;rw[k1];exact g3
   |_=>exact hw.elim
  |tok k=>
   cases b with
   |grow e cc m=>
    have e1:(uH g ws).cur c=g.cur k:=by
     funext n;show B6 g ws[c]? n=_;rw[hwh];rfl
    obtain⟨v,xs,hv,hr,hn,hs⟩:=hH.blk k _ hw;exact⟨v,xs,by rw[e1];exact hv,hr,fun m hm'=>by rw[e1];exact hn m hm',hs⟩
   |map s t l=>
    obtain⟨p,es,cl,hp,hp0,hh,hM,hS⟩:=hH.blk k _ hw.1;refine⟨p,es,cl,?_,hp0,hh,OK (g:=g) (g':=uH g ws) rfl hw.2.1 hw.2.2 hM,hS⟩;show v8 g ws[c]? =_;rw[hwh];exact hp
   |row e t l m=>
    have e1:(uH g ws).cur c=g.cur k:=by
     funext n;show B6 g ws[c]? n=_;rw[hwh];rfl
    obtain⟨hl,v,xs,hv,hr,hF,hn,hs⟩:=hH.blk k _ hw.1;exact⟨hl,v,xs,by rw[e1];exact hv,hr,CQ (fun _ _ h=>uV (g:=g) (g':=uH g ws) rfl hw.2 h) hF,fun m hm'=>by rw[e1];exact hn m hm',hs⟩
   |_=>exact hw.elim
 ·obtain⟨wh,hwh,hw⟩:=wsL c b h1;obtain⟨wh',hwh',hw'⟩:=wsL c' b' h2;obtain⟨k1,g1,p1⟩:=own c b wh hwh hw bb oo o1;obtain⟨k2,g2,p2⟩:=own c' b' wh' hwh' hw' bb oo o2;exact hH.dis wh.id wh'.id k1 k2 bb oo (fun e=>hne (TW hm.nodup hwh hwh' e)) g1 g2 p1 p2
end Go.Proofs.YtbbpilohihldiaaGreatDoor.Vc
