/- Packed by a program of mine (wip/tools/pack.py): the same texts with short names and few blanks. -/
import Derived.Below
import Derived.Calls
import Derived.Deep.MidRow
import Derived.Deep.Upon
import Derived.Laws.AppendOwn
import Derived.Laws.BitsLemmas
import Derived.Laws.OwnMore
import Derived.MapKept
import Derived.Shelf.Unicode.DecodeSlow
import Derived.Still
import Derived.WalkKit
set_option linter.unusedVariables false
set_option linter.unusedSimpArgs false
set_option linter.unusedSectionVars false
set_option maxRecDepth 100000
set_option maxHeartbeats 4000000
set_option linter.defProp false
namespace Go.Proofs
def aRf:=@_root_.Option.bind_some
def aRg:=@_root_.Option.some.injEq
def aRh:=@_root_.List.length_append
def aRi:=@_root_.Option.isSome_iff_exists
def aRj:=@_root_.List.length_cons
def aRk:=@_root_.decide_eq_true_eq
def aRl:=@_root_.Option.some.inj
def aRm:=@_root_.Bool.and_eq_true
def aRn:=@_root_.List.getElem?_eq_getElem
def aRo:=@_root_.List.append_assoc
def aRp:=@_root_.Go.Result.andThen_ok
def aRq:=@_root_.List.getElem?_append_right
def aRr:=@_root_.List.mem_singleton
def aRs:=@_root_.List.length_nil
def aRt:=@_root_.List.mem_cons_of_mem
def aRu:=@_root_.List.getElem?_eq_some_iff
def aRv:=@_root_.List.mem_cons
def aRw:=@_root_.Go.Sem.run_bind
def aRx:=@_root_.Option.map_eq_some_iff
def aRy:=@_root_.List.length_drop
def aRz:=@_root_.List.getElem?_append_left
def aRA:=@_root_.Go.run_underlying
def aRB:=@_root_.List.mem_cons_self
def aRC:=@_root_.List.drop_eq_getElem_cons
def aRD:=@_root_.List.getD_eq_getElem?_getD
def aRE:=@_root_.Array.getElem?_eq_some_iff
def aRF:=@_root_.Go.World.cell?_of_block
def aRG:=@_root_.Go.Sem.run_pure
def aRH:=@_root_.List.length_take
def aRI:=@_root_.Prod.mk.injEq
def aRJ:=@_root_.List.eq_nil_of_length_eq_zero
def aRK:=@_root_.Bool.not_eq_true'
def aRL:=@_root_.Go.RowKit.Below.heap_alloc
def aRM:=@_root_.List.getElem?_cons_zero
def aRN:=@_root_.congrArg
def aRO:=@_root_.List.mem_append
def aRP:=@_root_.Array.length_toList
def aRQ:=@_root_.Array.getD_eq_getD_getElem?
def aRR:=@_root_.Nat.zero_add
def aRS:=@_root_.List.flatten_cons
def aRT:=@_root_.List.findIdx?_eq_some_iff_getElem
def aRU:=@_root_.decide_eq_false_iff_not
def aRV:=@_root_.Bool.false_ne_true
def aRW:=@_root_.List.all_eq_true
def aRX:=@_root_.Nat.lt_of_lt_of_le
def aRY:=@_root_.Int.toNat_natCast
def aRZ:=@_root_.of_decide_eq_true
def aR0:=@_root_.Nat.add_assoc
def aR1:=@_root_.Nat.add_sub_cancel_left
def aR2:=@_root_.List.map_cons
def aR3:=@_root_.List.getElem?_cons_succ
def aR4:=@_root_.List.singleton_append
def aR5:=@_root_.List.length_singleton
def aR6:=@_root_.List.any_eq_false
def aR7:=@_root_.List.cons.injEq
def aR8:=@_root_.List.size_toArray
def aR9:=@_root_.List.reverse_cons
def aSa:=@_root_.List.getElem_mem
def aSb:=@_root_.List.drop_length
def aSc:=@_root_.Bool.not_eq_true
def aSd:=@_root_.decide_eq_true
def aSe:=@_root_.Nat.le_trans
def aSf:=@_root_.Bool.false_eq_true
def aSg:=@_root_.Nat.zero_le
def aSh:=@_root_.List.length_eq_zero_iff
def aSi:=@_root_.Int.le_refl
def aSj:=@_root_.Go.World.frozen?_of_block
def aSk:=@_root_.List.drop_zero
def aSl:=@_root_.Go.IntKind.wrap_i64
def aSm:=@_root_.List.pairwise_iff_getElem
def aSn:=@_root_.List.findIdx?_eq_none_iff
def aSo:=@_root_.Bool.or_eq_false_iff
def aSp:=@_root_.Go.run_program
def aSq:=@_root_.List.length_map
def aSr:=@_root_.Nat.succ_mul
def aSs:=@_root_.List.take_append_drop
def aSt:=@_root_.Array.getElem?_toList
def aSu:=@_root_.Bool.or_eq_true
def aSv:=@_root_.Array.toList_inj
def aSw:=@_root_.Nat.lt_or_ge
def aSx:=@_root_.Nat.le_of_ble_eq_true
def aSy:=@_root_.List.getElem?_eq_none
def aSz:=@_root_.Bool.eq_iff_iff
def aSA:=@_root_.List.pairwise_append
def aSB:=@_root_.List.findIdx?_cons
def aSC:=@_root_.Bool.not_eq_false'
def aSD:=@_root_.Go.Addr.add_mid
def aSE:=@_root_.List.take_left
def aSF:=@_root_.List.drop_drop
def aSG:=@_root_.Nat.add_zero
def aSH:=@_root_.List.length_eq_one_iff
def aSI:=@_root_.List.length_pos_iff
def aSJ:=@_root_.List.flatMap_cons
def aSK:=@_root_.Array.getElem?_setIfInBounds_ne
def aSL:=@_root_.Go.World.cell?_alloc_new
def aSM:=@_root_.Go.IntKind.wrap_u8
def aSN:=@_root_.Array.getElem?_modify
def aSO:=@_root_.Option.getD_some
def aSP:=@_root_.List.take_append_of_le_length
def aSQ:=@_root_.Array.toArray_toList
def aSR:=@_root_.Go.World.cell?_setCells_in
def aSS:=@_root_.List.pairwise_singleton
def aST:=@_root_.Go.setRow_other
def aSU:=@_root_.List.mem_range
def aSV:=@_root_.if_true
def aSW:=@_root_.Nat.le_of_eq
def aSX:=@_root_.Classical.choose_spec
def aSY:=@_root_.Bool.and_eq_false_iff
def aSZ:=@_root_.List.drop_left
def aS0:=@_root_.beq_iff_eq
def aS1:=@_root_.List.getElem_of_mem
def aS2:=@_root_.List.drop_succ_cons
def aS3:=@_root_.List.range'_succ
def aS4:=@_root_.dif_neg
def aS5:=@_root_.List.pairwise_cons
def aS6:=@_root_.List.getElem?_take
def aS7:=@_root_.Array.getElem?_setIfInBounds
def aS8:=@_root_.Go.wpIn_mono
def aS9:=@_root_.Go.Addr.add_lit
def aTa:=@_root_.Nat.lt_irrefl
def aTb:=@_root_.Int.tmod_eq_emod_of_nonneg
def aTc:=@_root_.Nat.mul_le_mul_right
def aTd:=@_root_.Bool.false_and
def aTe:=@_root_.Array.getElem?_eq_getElem
def aTf:=@_root_.decide_eq_decide
def aTg:=@_root_.List.not_mem_nil
def aTh:=@_root_.List.mem_toArray
def aTi:=@_root_.Go.setRow_heap
def aTj:=@_root_.Nat.sub_self
def aTk:=@_root_.List.getElem?_take_of_lt
def aTl:=@_root_.Array.getElem?_push_size
def aTm:=@_root_.List.append_inj
def aTn:=@_root_.Array.foldl_toList
def aTo:=@_root_.Go.Value.slice.injEq
def aTp:=@_root_.Nat.mul_one
def aTq:=@_root_.Array.size_append
def aTr:=@_root_.if_false
def aTs:=@_root_.Go.heap_alloc_new
def aTt:=@_root_.dif_pos
end Go.Proofs
namespace Go.Proofs.YtbbpilohihldiaaGreatDoor.Vc
def NG:Nat:=6
def a7Q:Nat:=106
def a7R:List (Nat×Nat×Value):=[(5,15,.int .u8 4)]
def aG9 (w:World):Prop:= ∀x∈a7R,x.1<NG/\w.cell? ⟨x.1,x.2.1,none⟩=some x.2.2
def IK (w:World):Prop:=NG<=w.heap.size/\Lib.Utf8Tabs 1 2 w/\(∃m,w.cell? ⟨0,0,none⟩=some (.int .i64 m))/\aG9 w
theorem NT {w w':World}(h:IK w) (hs:w.heap.size<=w'.heap.size) (hb: ∀b,b<NG->w'.heap[b]? =w.heap[b]?):IK w':=by
 obtain⟨h0,⟨h1,h2⟩,⟨m,h3⟩,h4⟩:=h;have hc: ∀b o,b<NG->w'.cell? ⟨b,o,none⟩=w.cell? ⟨b,o,none⟩:=fun b o h=>aRF (a:=⟨b,o,none⟩) (hb b h);refine⟨aSe h0 hs,⟨fun c hc'=> ?_,fun i hi=>⟨?_,?_⟩⟩,⟨m,?_⟩,fun x hx=>⟨(h4 x hx).1,(hc _ _ (h4 x hx).1).trans (h4 x hx).2⟩⟩
 ·rw[hc _ _ (by decide)];exact h1 c hc'
 ·rw[hc _ _ (by decide)];exact(h2 i hi).1
 ·rw[hc _ _ (by decide)];exact(h2 i hi).2
 ·rw[hc _ _ (by decide)];exact h3
attribute [go_sem] a7Q
inductive Ty where
 |bool|int (k:IntKind) |str|list (t:Ty) |unit|pair (a b:Ty) |ref|clo|mp|rl (e:Nat) (t:Ty) |mref|fn
 deriving DecidableEq
abbrev Ty.den:Ty->Type
 | .bool=>Bool
 | .int _=>Int
 | .str=>List UInt8
 | .list t=>List t.den
 | .unit=>Unit
 | .pair a b=>a.den×b.den
 | .ref=>Option (Nat×Nat)
 | .clo=>Option (Nat×List (Nat×Nat))
 | .mp=>Option Nat
 | .rl _ _=>Option (Nat×Nat)
 | .fn=>Option Nat
 | .mref=>Option (Nat×Nat)
@[go_sem] def Ty.cells:Ty->Nat
 | .unit=>0
 | .pair a b=>a.cells+b.cells
 | .bool| .int _| .str| .list _| .ref| .clo| .mp| .rl _ _| .mref| .fn=>1
@[go_sem] def Ty.zero:(t:Ty)->t.den
 | .bool=>false
 | .int _=>(0:Int)
 | .str=>[]
 | .list _=>[]
 | .unit=>()
 | .pair a b=>(a.zero,b.zero)
 | .ref=>none
 | .clo=>none
 | .mp=>none
 | .rl _ _=>none
 | .fn=>none
 | .mref=>none
@[go_sem] def Ty.isRow:Ty->Bool
 | .unit| .pair _ _=>true
 | .bool| .int _| .str| .list _| .ref| .clo| .mp| .rl _ _| .mref| .fn=>false
@[go_sem] def Ty.pure:Ty->Bool
 | .ref| .clo| .mp| .rl _ _| .mref=>false
 | .list t=>t.pure
 | .pair a b=>a.pure&&b.pure
 | .bool| .int _| .str| .unit| .fn=>true
def qD (t:Ty) (l:List t.den) (i:Int):t.den:=l.getD i.toNat t.zero
def qC (l:List UInt8) (i:Int):Int:=((l.getD i.toNat 0).toNat:Int)
def tV {t u:Ty}(h:t=u) (x:t.den):u.den:=h▸x
@[go_sem] theorem KV {t:Ty}(x:t.den):tV (rfl:t=t) x=x:=rfl
@[go_sem] def qO (u:Ty):(t:Ty)->t.den->Nat->Option u.den
 |t,x,0=>if h:t=u then some (tV h x) else match t,x with
  | .pair a b,x=>if 0<a.cells then qO u a x.1 0 else qO u b x.2 0
  |_,_=>none
 | .pair a b,x,o+1=>if o+1<a.cells then qO u a x.1 (o+1) else qO u b x.2 (o+1-a.cells)
 |_,_,_=>none
@[go_sem] def sF (u:Ty) (y:u.den):(t:Ty)->t.den->Nat->Option t.den
 |t,x,0=>if h:u=t then some (tV h y) else match t,x with
  | .pair a b,x=>if 0<a.cells then(sF u y a x.1 0).map (fun z=>(z,x.2)) else(sF u y b x.2 0).map (fun z=>(x.1,z))
  |_,_=>none
 | .pair a b,x,o+1=>if o+1<a.cells then(sF u y a x.1 (o+1)).map (fun z=>(z,x.2)) else(sF u y b x.2 (o+1-a.cells)).map (fun z=>(x.1,z))
 |_,_,_=>none
@[go_sem] def Ty.proj:(t:Ty)->t.den->Nat->Option (Σ u:Ty,u.den)
 | .pair a _,x,0=>some ⟨a,x.1⟩
 | .pair _ b,x,i+1=>b.proj x.2 i
 |_,_,_=>none
@[go_sem] def Ty.offs:Ty->Nat->Option Nat
 | .pair _ _,0=>some 0
 | .pair a b,i+1=>(b.offs i).map fun o=>a.cells+o
 |_,_=>none
@[go_sem] def Ty.fld:Ty->Nat->Option Ty
 | .pair a _,0=>some a
 | .pair _ b,i+1=>b.fld i
 |_,_=>none
@[go_sem] def Ty.setPart (u:Ty) (y:u.den):(t:Ty)->t.den->Nat->Option t.den
 | .pair a b,x,0=>if h:u=a then some (tV h y,x.2) else none
 | .pair a b,x,i+1=>(Ty.setPart u y b x.2 i).map fun z=>(x.1,z)
 |_,_,_=>none
inductive DV where
 |any
 |nilS
 |val (t:Ty) (x:t.den)
 |at (t:Ty) (x:t.den)
 |tup (l:List ((Σ t:Ty,t.den)×Option Nat))
 |cond (p:Bool) (d:DV)
 |flag (p q:Prop)
 |own (k n:Nat)
 |elt (k n c:Nat) (i:Int) (o:Nat)
 |nxt (b:Bool) (p c:Int)
abbrev pR:=DV×Option Nat
inductive pQ where
 |cells (t:Ty) (x:t.den) (toks:List (Nat×Nat))
 |grow (e:TypeId) (c:Nat) (n:Nat)
 |row (e:TypeId) (t:Ty) (l:List t.den) (n:Nat)
 |map (k v:Ty) (l:List (k.den×v.den))
 |iter (s:List UInt8) (p:Nat)
 |dead
structure St where
 env:List (Nat×pR)
 H:List (Nat×pQ)
 nb:Nat
 N:Nat
 np:Nat:=0
@[go_sem] def lk:List (Nat×pR)->Nat->pR
 |[],_=>(.any,none)
 |(k,s)::r,t=>if k=t then s else lk r t
@[go_sem] def pT:List (Nat×pQ)->Nat->Option pQ
 |[],_=>none
 |(k,s)::r,t=>if k=t then some s else pT r t
structure TI where
 ty:Ty
 elem:TypeId:=0
 bytes:Nat:=0
 arr:Bool:=false
 ls:List (Nat×TypeId×Nat):=[]
abbrev sG:=List (Nat×TI)
@[go_sem] def rF:sG->TypeId->Option TI
 |[],_=>none
 |(k,s)::r,t=>if k=t then some s else rF r t
inductive PK where
 |v|own|p (t:Ty) (os:List Nat) |m|r|f (ks:List (Ty×List Nat))
structure pX where
 side:List Prop
 ret:List pR
 H:List pQ
structure qS where
 ps:List PK
 C:List pR->List pQ->Option pX
 gs:List (Nat×Nat×PK):=[]
 same:List Nat:=[]
 row:Option ((t:Ty)->List t.den->Option (List t.den)):=none
abbrev tW:=Nat->Option qS
structure pY where
 side:List Prop
 slot:pR
 upd:List (Nat×pQ)
 rds:List Nat
@[go_sem] def GS:List Nat->Bool
 |[]=>false
 |i::_=>if i=1000000000 then true else false
@[go_sem] def orE:Option pY->Option pY->Option pY
 |some r,_=>some r
 |none,r=>r
@[go_sem] def A6:Option (List Prop×DV)->Option pY
 |some (p,d)=>some ⟨p,(d,none),[],[]⟩
 |none=>none
@[go_sem] def WS:Value->DV
 | .bool b=> .val .bool b
 | .int k n=> .val (.int k) n
 | .string s=> .val .str s.data.toList
 | .slice none 0 0=> .nilS
 | .pointer none=> .val .ref none
 | .nilFunc=> .val .clo none
 | .map none=> .val .mp none
 |_=> .any
@[go_sem] def tH (env:List (Nat×pR)):Operand->pR
 | .tmp t=>lk env t
 | .const v=>(WS v,none)
 | .func f=>(.val .clo (some (f,[])),none)
 | .global _=>(.any,none)
@[go_sem] def NU:Option TI->pR->pR
 |some ⟨.list t,_,_,_,_⟩,(.nilS,_)=>(.val (.list t) [],none)
 |_,s=>s
@[go_sem] def IL:IntKind->Int->List Prop×DV
 | .i64,n=>([-9223372036854775808<=n/\n<=9223372036854775807],.val (.int .i64) n)
 |k,n=>([],.val (.int k) (k.wrap n))
@[go_sem] def qG {α:Type}:List α->List α->List α
 |[],m=>m
 |x::l,m=>x::qG l m
@[go_sem] def B4:(t:Ty)->t.den->t.den->Option Bool
 | .bool,a,b=>some (a==b)
 | .int _,a,b=>some (decide ((a:Int)=b))
 | .str,a,b=>some (decide ((a:List UInt8)=b))
 | .unit,_,_=>some true
 | .pair s t,a,b=>eqAnd (B4 s a.1 b.1) (B4 t a.2 b.2)
 |_,_,_=>none
where
 eqAnd:Option Bool->Option Bool->Option Bool
  |some x,some y=>some (x&&y)
  |_,_=>none
attribute [go_sem] B4.eqAnd
@[go_sem] def WT (k:IntKind) (a b:Int):BinOp->Option (List Prop×DV)
 | .add=>some (IL k (a+b))
 | .sub=>some (IL k (a-b))
 | .mul=>some (IL k (a*b))
 | .eql=>some ([],.val .bool (decide (a=b)))
 | .neq=>some ([],.val .bool (!decide (a=b)))
 | .lss=>some ([],.val .bool (decide (a<b)))
 | .leq=>some ([],.val .bool (decide (a<=b)))
 | .gtr=>some ([],.val .bool (decide (b<a)))
 | .geq=>some ([],.val .bool (decide (b<=a)))
 | .quo=>some ([b≠0],.val (.int k) (k.wrap (Int.tdiv a b)))
 | .rem=>some ([b≠0],.val (.int k) (Int.tmod a b))
 | .and=>some ([],.val (.int k) (bits .and k a b))
 | .or=>some ([],.val (.int k) (bits .or k a b))
 | .xor=>some ([],.val (.int k) (bits .xor k a b))
 | .andNot=>some ([],.val (.int k) (bits .andNot k a b))
 |_=>none
def WU (k:IntKind) (a b:Int):Int:=k.wrap (a*2^min b.toNat k.bits)
def xI (k:IntKind) (a b:Int):Int:=a.fdiv (2^min b.toNat k.bits)
@[go_sem] def a7T (k:IntKind) (a:Int) (k':IntKind) (b:Int):BinOp->Option (List Prop×DV)
 | .shl=>some ([0<=b],.val (.int k) (WU k a b))
 | .shr=>some ([0<=b],.val (.int k) (xI k a b))
 |op=>if k=k' then WT k a b op else none
@[go_sem] def WV (a b:List UInt8):BinOp->Option (List Prop×DV)
 | .add=>some ([((a++b).length:Int)<=9223372036854775807],.val .str (a++b))
 | .eql=>some ([],.val .bool (decide (a=b)))
 | .neq=>some ([],.val .bool (!decide (a=b)))
 | .lss=>some ([],.val .bool (Op.bytesLess a b))
 | .leq=>some ([],.val .bool (Op.bytesLess a b||decide (a=b)))
 | .gtr=>some ([],.val .bool (!(Op.bytesLess a b||decide (a=b))))
 | .geq=>some ([],.val .bool (!Op.bytesLess a b))
 |_=>none
@[go_sem] def a7U:BinOp->Option Bool->Option (List Prop×DV)
 | .eql,some r=>some ([],.val .bool r)
 | .neq,some r=>some ([],.val .bool (!r))
 |_,_=>none
@[go_sem] def RC (op:BinOp):pR->pR->Option (List Prop×DV)
 |(.val (.int k) a,_),(.val (.int k') b,_)=>a7T k a k' b op
 |(.val .str a,_),(.val .str b,_)=>WV a b op
 |_,_=>none
@[go_sem] def a7V (u:Ty) (b:Nat) (op:BinOp) (t t':Ty) (x:t.den) (y:t'.den):Option (List Prop×DV):=
 if h:t'=t then(if t=u/\(t= .bool\/(t.isRow=true/\b=1)) then a7U op (B4 t x (tV h y)) else none) else none
@[go_sem] def RD {α:Type}(l:List α):BinOp->Option (List Prop×DV)
 | .eql=>some ([],.flag (l=[]) True)
 | .neq=>some ([],.flag True (l=[]))
 |_=>none
@[go_sem] def WW:Option TI->BinOp->pR->pR->Option (List Prop×DV)
 |some ⟨.list _,_,_,_,_⟩,op,(.val (.list _) l,_),(.nilS,_)=>RD l op
 |some ⟨.list _,_,_,_,_⟩,op,(.nilS,_),(.val (.list _) l,_)=>RD l op
 |some ⟨u,_,b,_,_⟩,op,(.val t x,_),(.val t' y,_)=>a7V u b op t t' x y
 |_,_,_,_=>none
@[go_sem] def a7W:Option (List Prop×DV)->Option (List Prop×DV)->Option (List Prop×DV)
 |some r,_=>some r
 |none,r=>r
@[go_sem] def WX:UnOp->pR->Option (List Prop×DV)
 | .not,(.val .bool b,_)=>some ([],.val .bool (!b))
 | .neg,(.val (.int k) n,_)=>some (IL k (-(n:Int)))
 |_,_=>none
def sI (l:List Int):List UInt8:=l.map fun n=>UInt8.ofNat n.toNat
def s5 (s:List UInt8):List Int:=s.map fun b=>(b.toNat:Int)
@[go_sem] def RE:Option TI->Option TI->pR->Option (List Prop×DV)
 |some _,some ⟨.int k,_,_,_,_⟩,(.val (.int _) n,_)=>some ([],.val (.int k) (k.wrap n))
 |some _,some ⟨.str,_,_,_,_⟩,(.val .str s,_)=>some ([],.val .str s)
 |_,_,_=>none
@[go_sem] def a7X (l:List Int):Option TI->Option (List Prop×DV)
 |some ⟨.int .u8,_,_,_,_⟩=>some ([],.val .str (sI l))
 |_=>none
@[go_sem] def WY (T:sG):Option TI->Option TI->pR->Option (List Prop×DV)
 |some ⟨.list (.int .u8),e,_,_,_⟩,some ⟨.str,_,_,_,_⟩,(.val (.list (.int .u8)) l,_)=>a7X l (rF T e)
 |_,_,_=>none
def q7 {α:Type}(l:List α) (lo hi:Int):List α:=(l.drop lo.toNat).take (hi.toNat-lo.toNat)
@[go_sem] def CK:Option pR->Int->Option Int
 |none,d=>some d
 |some (.val (.int _) n,_),_=>some n
 |_,_=>none
@[go_sem] def RF (t:Ty) (n:Nat) (f:Int->Int->t.den):Option Int->Option Int->Option (List Prop×DV)
 |some a,some b=>some ([0<=a/\a<=b/\b<=(n:Int)],.val t (f a b))
 |_,_=>none
@[go_sem] def WZ:Option TI->pR->Option pR->Option pR->Option (List Prop×DV)
 |some ⟨.str,_,_,_,_⟩,(.val .str l,_),lo,hi=>RF .str (List.length l) (q7 l) (CK lo 0) (CK hi (List.length l))
 |some ⟨.list u,_,_,_,_⟩,(.val (.list t) l,_),lo,hi=>if t=u then RF (.list t) (List.length l) (q7 l) (CK lo 0) (CK hi (List.length l)) else none
 |_,_,_,_=>none
@[go_sem] def RG (t:Ty) (x:t.den) (i:Nat):Option Ty->Option t.den
 |some (.list u)=>Ty.setPart (.list u) [] t x i
 |_=>none
@[go_sem] def zQ (t:Ty):Option t.den->List (Nat×pR)->Option t.den
 |some x,[]=>some x
 |some x,(i,(.val u y,_))::r=>zQ t (Ty.setPart u y t x i) r
 |some x,(i,(.nilS,_))::r=>zQ t (RG t x i (t.fld i)) r
 |_,_=>none
@[go_sem] def BT (t:Ty):Nat->List t.den
 |0=>[]
 |n+1=>t.zero::BT t n
@[go_sem] def a7Y (t:Ty) (n:Nat) (l:List t.den) (i:Nat) (u:Ty) (y:u.den):Option (List t.den):=if h:u=t/\i<n then some (l.set i (tV h.1 y)) else none
@[go_sem] def A7 (t:Ty) (n:Nat):Option (List t.den)->List (Nat×pR)->Option (List t.den)
 |some l,[]=>some l
 |some l,(i,(.val u y,_))::r=>A7 t n (a7Y t n l i u y) r
 |_,_=>none
attribute [go_sem] List.set_cons_zero List.set_cons_succ
@[go_sem] def IM:List pR->Option (List (Nat×Nat))
 |[]=>some []
 |(.val .ref (some p),_)::r=>(IM r).map (p:: ·)
 |_=>none
@[go_sem] def wV:List (Nat×Nat)->Nat->Option Nat
 |[],_=>none
 |(o,k)::r,a=>if o=a then some k else wV r a
@[go_sem] def x9:Option Nat->Nat->List (Nat×Nat)
 |some k,o=>[(o,k)]
 |none,_=>[]
@[go_sem] def uZ:List (Nat×Nat)->Nat->Nat->List (Nat×Nat)
 |[],_,_=>[]
 |(q,k)::r,o,n=>if o<=q/\q<o+n then uZ r o n else(q,k)::uZ r o n
@[go_sem] def F1:Ty->Option Nat->Option Nat
 | .list _,k=>k
 |_,_=>none
@[go_sem] def yJ {α:Type}:List α->List α->List α
 |[],acc=>acc
 |x::l,acc=>yJ l (x::acc)
inductive qR where
 |box (id:Nat) (u:Ty) (x:u.den) (toks:List (Nat×Nat)) (o:Nat)
 |tok (id:Nat)
@[go_sem] def qR.id:qR->Nat
 | .box i _ _ _ _=>i
 | .tok k=>k
@[go_sem] def BU:Nat->List Nat->Bool
 |_,[]=>false
 |i,j::r=>if i=j then true else BU i r
@[go_sem] def rW:List qR->List Nat
 |[]=>[]
 |w::r=>w.id::rW r
structure sM where
 args:List pR
 H:List pQ
 ws:List qR
 n:Nat
@[go_sem] def IN:List Nat->Nat->List (Nat×Nat)
 |[],_=>[]
 |q::qs,n=>(q,n)::IN qs (n+1)
@[go_sem] def B5 (k:Nat):Option pQ->Option sM->Option sM
 |some (.grow e c m),some a=>if BU k (rW a.ws)=true then none else some ⟨a.args,.grow e c m::a.H,.tok k::a.ws,a.n+1⟩
 |_,_=>none
@[go_sem] def yK (H:List (Nat×pQ)):Option Nat->Option sM->Option sM
 |some k,a=>B5 k (pT H k) a
 |none,_=>none
@[go_sem] def xW (H:List (Nat×pQ)) (toks:List (Nat×Nat)) (o:Nat):List Nat->Option sM->Option sM
 |[],a=>a
 |q::qs,a=>xW H toks o qs (yK H (wV toks (o+q)) a)
@[go_sem] def KW (n:Nat):List Nat->Bool
 |[]=>true
 |q::qs=>decide (q<n)&&KW n qs
@[go_sem] def DK (H:List (Nat×pQ)) (t:Ty) (os:List Nat) (i o:Nat) (u:Ty) (x:u.den) (toks:List (Nat×Nat)) (a:sM):Option t.den->Option sM
 |some y=>if (KW t.cells os&& !BU i (rW a.ws))=true then xW H toks o os (some ⟨(.val .ref (some (a.n,0)),none)::a.args,.cells t y (IN os (a.n+1))::a.H,.box i u x toks o::a.ws,a.n+1⟩) else none
 |none=>none
@[go_sem] def vG (H:List (Nat×pQ)) (t:Ty) (os:List Nat) (i o:Nat) (a:sM):Option pQ->Option sM
 |some (.cells u x toks)=>DK H t os i o u x toks a (qO t u x o)
 |_=>none
@[go_sem] def B6 (t:Ty) (x:t.den) (k:Nat) (a:sM):Option pQ->Option sM
 |some (.grow e c m)=>if (t.pure&& !BU k (rW a.ws))=true then some ⟨(.val t x,some a.n)::a.args,.grow e c m::a.H,.tok k::a.ws,a.n+1⟩ else none
 |_=>none
@[go_sem] def RH (t:Ty) (x:t.den) (a:sM):Option sM:=
 if t.pure=true then some ⟨(.val t x,none)::a.args,a.H,a.ws,a.n⟩ else none
@[go_sem] def RI (f:FuncId) (a:sM):Option sM:=some ⟨(.val .clo (some (f,[])),none)::a.args,a.H,a.ws,a.n⟩
@[go_sem] def B7 (i:Nat) (a:sM):Option pQ->Option sM
 |some (.map k v l)=>if (k.pure&&v.pure&& !BU i (rW a.ws))=true then some ⟨(.val .mp (some a.n),none)::a.args,.map k v l::a.H,.tok i::a.ws,a.n+1⟩ else none
 |_=>none
@[go_sem] def B8 (k n:Nat) (a:sM):Option pQ->Option sM
 |some (.row e t l m)=>if (t.pure&& !BU k (rW a.ws))=true then some ⟨(.own a.n n,none)::a.args,.row e t l m::a.H,.tok k::a.ws,a.n+1⟩ else none
 |_=>none
@[go_sem] def xA (H:List (Nat×pQ)) (f:FuncId) (args:List pR):List (Ty×List Nat)->List (Nat×Nat)->List (Nat×Nat)->Option sM->Option sM
 |[],[],ids,some a=>some ⟨(.val .clo (some (f,yJ ids [])),none)::args,a.H,a.ws,a.n⟩
 |(t,os)::ks,(i,o)::cs,ids,some a=>xA H f args ks cs ((a.n,0)::ids) (vG H t os i o a (pT H i))
 |_,_,_,_=>none
@[go_sem] def xJ (H:List (Nat×pQ)) (a:sM):PK->pR->Option sM
 | .v,(.val .clo (some (f,[])),_)=>RI f a
 | .v,(.val t x,_)=>RH t x a
 | .own,(.val t x,some k)=>B6 t x k a (pT H k)
 | .p t os,(.val .ref (some (i,o)),_)=>vG H t os i o a (pT H i)
 | .m,(.val .mp (some i),_)=>B7 i a (pT H i)
 | .r,(.own k n,_)=>B8 k n a (pT H k)
 | .f ks,(.val .clo (some (f,cs)),_)=>xA H f a.args ks cs [] (some a)
 |_,_=>none
@[go_sem] def xB (H:List (Nat×pQ)):List PK->List pR->Option sM->Option sM
 |_,_,none=>none
 |[],[],some a=>some a
 |p::ps,s::ss,some a=>xB H ps ss (xJ H a p s)
 |_,_,some _=>none
@[go_sem] def aHa:Option (Option (Nat×Nat))->pR
 |some (some p)=>(.val .ref (some p),none)
 |_=>(.any,none)
@[go_sem] def aHb:Option (Option Nat)->pR
 |some (some i)=>(.val .mp (some i),none)
 |_=>(.any,none)
@[go_sem] def aHc:Option (Option (Nat×Nat))->pR
 |some (some (k,n))=>(.own k n,none)
 |_=>(.any,none)
@[go_sem] def F2:(t:Ty)->t.den->Nat->Option (Option (Nat×Nat))
 | .rl _ _,x,0=>some x
 | .pair a b,x,o=>if o<a.cells then F2 a x.1 o else F2 b x.2 (o-a.cells)
 |_,_,_=>none
@[go_sem] def IP (q:Nat):PK->Option pQ->pR
 | .r,some (.cells t y _)=>aHc (F2 t y q)
 | .p _ _,some (.cells t y _)=>aHa (qO .ref t y q)
 | .m,some (.cells t y _)=>aHb (qO .mp t y q)
 |_,_=>(.any,none)
@[go_sem] def GT:List pQ->Nat->Option pQ
 |[],_=>none
 |b::_,0=>some b
 |_::r,n+1=>GT r n
@[go_sem] def KX (l:List pR):Option sM->Option sM
 |some a=>some ⟨l,a.H,a.ws,a.n⟩
 |none=>none
@[go_sem] def A8 (H:List (Nat×pQ)):List (Nat×Nat×PK)->Option sM->Option sM
 |_,none=>none
 |[],some a=>some a
 |(c,q,pk)::r,some a=>A8 H r (KX a.args (xJ H a pk (IP q pk (GT a.H (a.n-1-c)))))
@[go_sem] def F3 (i o:Nat):List qR->Nat->Option (Nat×Nat)
 |[],_=>none
 | .box j _ _ _ oc::r,c=>if j=i/\oc<=o then some (c,o-oc) else F3 i o r (c+1)
 | .tok _::r,c=>F3 i o r (c+1)
@[go_sem] def vT (i:Nat):List qR->Nat->Option Nat
 |[],_=>none
 | .tok j::r,c=>if j=i then some c else vT i r (c+1)
 | .box _ _ _ _ _::r,c=>vT i r (c+1)
@[go_sem] def IQ {α β:Type}:Option α->Option β->Option (α×β)
 |some a,some b=>some (a,b)
 |_,_=>none
@[go_sem] def RJ (W:List qR):Option (Nat×Nat)->Option (Option (Nat×Nat))
 |none=>some none
 |some (i,o)=>(F3 i o W 0).map some
@[go_sem] def a7Z (W:List qR):Option Nat->Option (Option Nat)
 |none=>some none
 |some i=>(vT i W 0).map some
@[go_sem] def a71 (W:List qR):Option (Nat×Nat)->Option (Option (Nat×Nat))
 |none=>some none
 |some (k,n)=>(vT k W 0).map fun c=>some (c,n)
@[go_sem] def NV:Option (Nat×List (Nat×Nat))->Option (Option (Nat×List (Nat×Nat)))
 |none=>some none
 |some (f,[])=>some (some (f,[]))
 |_=>none
@[go_sem] def BV (W:List qR):(t:Ty)->t.den->Option t.den
 | .ref,x=>RJ W x
 | .clo,x=>NV x
 | .mp,x=>a7Z W x
 | .pair a b,x=>IQ (if a.pure=true then some x.1 else BV W a x.1) (if b.pure=true then some x.2 else BV W b x.2)
 | .list t,x=>if t.pure=true then some x else none
 | .bool,x=>some x
 | .int _,x=>some x
 | .str,x=>some x
 | .unit,x=>some x
 | .rl _ _,x=>a71 W x
 | .fn,x=>some x
 | .mref,x=>RJ W x
@[go_sem] def X0:Option pQ->Option (List pQ)->Option (List pQ)
 |some b,some l=>some (b::l)
 |_,_=>none
@[go_sem] def aHd (t:Ty) (ts:List (Nat×Nat)):Option t.den->Option pQ
 |some y=>some (.cells t y ts)
 |none=>none
@[go_sem] def RK (W:List qR):pQ->Option pQ
 | .cells t y ts=>if t.pure=true then some (.cells t y ts) else aHd t ts (BV W t y)
 |b=>some b
@[go_sem] def GU (W:List qR):List pQ->Option (List pQ)
 |[]=>some []
 |b::r=>X0 (RK W b) (GU W r)
@[go_sem] def zR:List qR->Nat->Option qR
 |[],_=>none
 |w::_,0=>some w
 |_::r,n+1=>zR r n
@[go_sem] def KY (n:Nat) (c:Nat):Option qR->Bool
 |some _=>false
 |none=>decide (c<n)
@[go_sem] def zS (base n c:Nat):Option qR->Option Nat
 |some (.box _ _ _ _ _)=>none
 |some (.tok k)=>some k
 |none=>if c<n then some (base+c) else none
@[go_sem] def a73 (base n c o:Nat):Option qR->pR
 |some (.box i _ _ _ o')=>(.val .ref (some (i,o'+o)),none)
 |wh=>if KY n c wh=true then(.val .ref (some (base+c,o)),none) else(.any,none)
@[go_sem] def IR (base n:Nat) (W:List qR):Option Nat->Option Nat
 |some c=>zS base n c (zR W c)
 |none=>none
@[go_sem] def aHe (m:Nat):Option Nat->pR
 |some k=>(.own k m,none)
 |none=>(.any,none)
@[go_sem] def aHf:Option Nat->pR
 |some k=>(.val .mp (some k),none)
 |none=>(.any,none)
@[go_sem] def X1 (base n c o:Nat):Option qR->Option (Nat×Nat)
 |some (.box i _ _ _ o')=>some (i,o'+o)
 |wh=>if KY n c wh=true then some (base+c,o) else none
@[go_sem] def aHg:Option (Nat×Nat)->Option (List (Nat×Nat))->Option (List (Nat×Nat))
 |some p,some l=>some (p::l)
 |_,_=>none
@[go_sem] def KZ (base n:Nat) (W:List qR):List (Nat×Nat)->Option (List (Nat×Nat))
 |[]=>some []
 |(c,o)::r=>aHg (X1 base n c o (zR W c)) (KZ base n W r)
@[go_sem] def aHh (f:Nat):Option (List (Nat×Nat))->pR
 |some l=>(.val .clo (some (f,l)),none)
 |none=>(.any,none)
@[go_sem] def RL (base n:Nat) (W:List qR):pR->pR
 |(.own c m,_)=>aHe m (IR base n W (some c))
 |(.val .ref (some (c,o)),_)=>a73 base n c o (zR W c)
 |(.val .ref none,_)=>(.val .ref none,none)
 |(.val .mp (some c),_)=>aHf (IR base n W (some c))
 |(.val .clo (some (f,cs)),_)=>aHh f (KZ base n W cs)
 |(.val t x,k)=>if t.pure=true then(.val t x,IR base n W (F1 t k)) else(.any,none)
 |_=>(.any,none)
@[go_sem] def aHi (q:Nat):Option Nat->List (Nat×Nat)->List (Nat×Nat)
 |some k,r=>(q,k)::r
 |none,r=>r
@[go_sem] def CL (base n:Nat) (W:List qR) (o:Nat):List (Nat×Nat)->List (Nat×Nat)
 |[]=>[]
 |(q,c)::r=>aHi (o+q) (zS base n c (zR W c)) (CL base n W o r)
@[go_sem] def IS (base n:Nat) (W:List qR):Option (Nat×Nat)->Option (Option (Nat×Nat))
 |none=>some none
 |some (c,o)=>back2 c o (zR W c)
where
 back2 (c o:Nat):Option qR->Option (Option (Nat×Nat))
  |some (.box i _ _ _ o')=>some (some (i,o'+o))
  |wh=>if KY n c wh=true then some (some (base+c,o)) else none
attribute [go_sem] IS.back2
@[go_sem] def a74 (base n:Nat) (W:List qR):Option Nat->Option (Option Nat)
 |none=>some none
 |some c=>(zS base n c (zR W c)).map some
@[go_sem] def a77 (base n:Nat) (W:List qR):Option (Nat×Nat)->Option (Option (Nat×Nat))
 |none=>some none
 |some (c,q)=>(zS base n c (zR W c)).map fun k=>some (k,q)
@[go_sem] def B9 (base n:Nat) (W:List qR):(t:Ty)->t.den->Option t.den
 | .ref,x=>IS base n W x
 | .clo,x=>NV x
 | .mp,x=>a74 base n W x
 | .pair a b,x=>IQ (if a.pure=true then some x.1 else B9 base n W a x.1) (if b.pure=true then some x.2 else B9 base n W b x.2)
 | .list t,x=>if t.pure=true then some x else none
 | .bool,x=>some x
 | .int _,x=>some x
 | .str,x=>some x
 | .unit,x=>some x
 | .rl _ _,x=>a77 base n W x
 | .fn,x=>some x
 | .mref,x=>IS base n W x
@[go_sem] def RM (i o:Nat) (u t:Ty) (toks ts:List (Nat×Nat)):Option u.den->Option (Nat×pQ)
 |some z=>some (i,.cells u z (qG ts (uZ toks o t.cells)))
 |none=>none
@[go_sem] def a78 (i:Nat) (t:Ty) (ts:List (Nat×Nat)):Option t.den->Option (Nat×pQ)
 |some y=>some (i,.cells t y ts)
 |none=>none
@[go_sem] def CM (base n c:Nat) (W:List qR):pQ->Option (Nat×pQ)
 | .cells t y ts=>if t.pure=true then some (base+c,.cells t y (CL base n W 0 ts)) else a78 (base+c) t (CL base n W 0 ts) (B9 base n W t y)
 | .grow e m k=>some (base+c,.grow e m k)
 | .row e t l n=>if t.pure=true then some (base+c,.row e t l n) else none
 | .map k v l=>if (k.pure&&v.pure)=true then some (base+c,.map k v l) else none
 | .iter _ _=>none
 | .dead=>some (base+c,.dead)
@[go_sem] def z6 (k:Nat):pQ->Option (Nat×pQ)
 | .cells _ _ _=>none
 | .grow e m n=>some (k,.grow e m n)
 | .row e t l n=>if t.pure=true then some (k,.row e t l n) else none
 | .map s v l=>if (s.pure&&v.pure)=true then some (k,.map s v l) else none
 | .iter _ _=>none
 | .dead=>some (k,.dead)
@[go_sem] def a79 (i o:Nat) (u t:Ty) (toks ts:List (Nat×Nat)) (x:u.den):Option t.den->Option (Nat×pQ)
 |some y=>RM i o u t toks ts (sF t y u x o)
 |none=>none
@[go_sem] def xC (base n i o:Nat) (W:List qR) (u:Ty) (x:u.den) (toks:List (Nat×Nat)):pQ->Option (Nat×pQ)
 | .cells t y ts=>if t.pure=true then RM i o u t toks (CL base n W o ts) (sF t y u x o) else a79 i o u t toks (CL base n W o ts) x (B9 base n W t y)
 | .dead=>some (i,.dead)
 | .grow _ _ _=>none
 | .row _ _ _ _=>none
 | .map _ _ _=>none
 | .iter _ _=>none
@[go_sem] def NW:Option (Nat×pQ)->Option (List (Nat×pQ))->Option (List (Nat×pQ))
 |some q,some r=>some (q::r)
 |_,_=>none
@[go_sem] def A9 (base n:Nat) (W:List qR):Nat->List qR->List pQ->Option (List (Nat×pQ))
 |_,[],[]=>some []
 |c,[],b::L=>NW (CM base n c W b) (A9 base n W (c+1) [] L)
 |c,.box i u x toks o::ws,b::L=>NW (xC base n i o W u x toks b) (A9 base n W (c+1) ws L)
 |c,.tok k::ws,b::L=>NW (z6 k b) (A9 base n W (c+1) ws L)
 |_,_::_,[]=>none
@[go_sem] def IT:List pR->Option (List ((Σ t:Ty,t.den)×Option Nat))
 |[]=>some []
 |(.val t x,k)::r=>(IT r).map ((⟨t,x⟩,k):: ·)
 |_=>none
@[go_sem] def aHj:Option (List ((Σ t:Ty,t.den)×Option Nat))->pR
 |some q=>(.tup q,none)
 |none=>(.any,none)
@[go_sem] def L1:List pR->Option pR
 |[]=>some (.tup [],none)
 |[s]=>some s
 |s::s'::l=>some (aHj (IT (s::s'::l)))
@[go_sem] def X2 (W:List qR):List Nat->List Nat
 |[]=>[]
 |c::r=>sameId (zR W c) (X2 W r)
where
 sameId:Option qR->List Nat->List Nat
  |some w,r=>w.id::r
  |none,r=>r
attribute [go_sem] X2.sameId
@[go_sem] def NX (side:List Prop) (rds:List Nat):Option (List (Nat×pQ))->Option pR->Option pY
 |some H,some s=>some ⟨side,s,H,rds⟩
 |_,_=>none
@[go_sem] def NY (base n:Nat) (W:List qR):List pR->List pR
 |[]=>[]
 |s::r=>RL base n W s::NY base n W r
@[go_sem] def qK:List pQ->Nat
 |[]=>0
 |_::r=>qK r+1
@[go_sem] def RN (base:Nat) (W:List qR) (sm:List Nat):Option pX->Option pY
 |some r=>NX r.side (qG (rW W) (X2 W sm)) (A9 base (qK r.H) W 0 W r.H) (L1 (NY base (qK r.H) W r.ret))
 |none=>none
@[go_sem] def RO (C:List pR->List pQ->Option pX) (sm:List Nat) (base:Nat) (W:List qR) (args:List pR):Option (List pQ)->Option pY
 |some L=>RN base W sm (C args L)
 |none=>none
@[go_sem] def NZ (C:List pR->List pQ->Option pX) (sm:List Nat) (base:Nat):Option sM->Option pY
 |some a=>RO C sm base (yJ a.ws []) (yJ a.args []) (GU (yJ a.ws []) (yJ a.H []))
 |none=>none
@[go_sem] def F4 (H:List (Nat×pQ)) (base:Nat) (args:List pR):Option qS->Option pY
 |some g=>NZ g.C g.same base (A8 H g.gs (xB H g.ps args (some ⟨[],[],[],0⟩)))
 |none=>none
@[go_sem] def O0:List PK->List pR->Option Nat
 | .r::ps,_::ss=>O0 ps ss
 |_::_,(.own k _,_)::_=>some k
 |_::ps,_::ss=>O0 ps ss
 |_,_=>none
@[go_sem] def a8a (k:Nat) (t:Ty) (l:List t.den):pR->pR
 |(.own j m,x)=>if j=k then(.val (.list t) l,none) else(.own j m,x)
 |s=>s
@[go_sem] def O1 (k:Nat) (t:Ty) (l:List t.den):List pR->List pR
 |[]=>[]
 |s::r=>a8a k t l s::O1 k t l r
@[go_sem] def IU (k n:Nat):List pR->List Prop
 |[]=>[]
 |(.own j m,_)::r=>(j=k->m=n)::IU k n r
 |_::r=>IU k n r
@[go_sem] def GV:Ty->Bool
 | .list _=>false
 | .pair a b=>GV a&&GV b
 | .bool| .int _| .str| .unit| .fn=>true
 | .ref| .clo| .mp| .rl _ _| .mref=>false
@[go_sem] def pU:List (Nat×pQ)->List Nat
 |[]=>[]
 |(i,_)::r=>i::pU r
@[go_sem] def L2:List (Nat×pQ)->Bool
 |[]=>true
 |(_,.cells t _ [])::r=>GV t&&L2 r
 |_=>false
@[go_sem] def X3 (sd:List Prop) (k:Nat):Option pY->Option pY
 |some ⟨side,(.val t x,_),U,rds⟩=>if (GV t&&L2 U&& !BU k (pU U))=true then some ⟨qG sd side,(.val t x,none),U,k::rds⟩ else none
 |_=>none
@[go_sem] def O2 (H:List (Nat×pQ)) (base:Nat) (args:List pR) (g:qS) (k:Nat):Option pQ->Option pY
 |some (.row _ t l m)=>X3 (IU k m args) k (F4 ((k,.dead)::H) base (O1 k t l args) (some g))
 |_=>none
@[go_sem] def a8b (H:List (Nat×pQ)) (base:Nat) (args:List pR) (g:qS):Option Nat->Option pY
 |some k=>O2 H base args g k (pT H k)
 |none=>F4 H base args (some g)
@[go_sem] def a8c (k n m e:Nat) (t:Ty):Option (List t.den)->Option pY
 |some l=>some ⟨[n=m,m<4611686018427387904],(.tup [],none),[(k,.row e t l m)],[k]⟩
 |none=>none
@[go_sem] def X4 (F:(t:Ty)->List t.den->Option (List t.den)) (k n:Nat):Option pQ->Option pY
 |some (.row e t l m)=>a8c k n m e t (F t l)
 |_=>none
@[go_sem] def RQ (H:List (Nat×pQ)) (F:(t:Ty)->List t.den->Option (List t.den)):List pR->Option pY
 |[(.own k n,_)]=>X4 F k n (pT H k)
 |_=>none
@[go_sem] def X5 (base:Nat):Option TI->pR->Option pY
 |some ⟨.list u,e,_,true,_⟩,(.nilS,_)=>some ⟨[],(.own base 0,none),[(base,.row e u [] 0)],[]⟩
 |some ⟨.list u,e,_,false,_⟩,(.nilS,_)=>some ⟨[],(.val (.list u) [],some base),[(base,.grow e u.cells 0)],[]⟩
 |_,(.nilS,_)=>none
 |_,s=>some ⟨[],s,[],[]⟩
@[go_sem] def DL:Ty->Nat->Bool
 | .list _,0=>true
 | .pair a b,o=>if o<a.cells then DL a o else DL b (o-a.cells)
 |_,_=>false
@[go_sem] def DM (t:Ty):List (Nat×TypeId×Nat)->Bool
 |[]=>true
 |(o,_,_)::r=>DL t o&&DM t r
@[go_sem] def BA:List (Nat×TypeId×Nat)->Nat->List (Nat×Nat)
 |[],_=>[]
 |(o,_,_)::r,i=>(o,i)::BA r (i+1)
@[go_sem] def CN:List (Nat×TypeId×Nat)->Nat->List (Nat×pQ)
 |[],_=>[]
 |(_,e,c)::r,i=>qG (CN r (i+1)) [(i,.grow e c 0)]
@[go_sem] def X6 (e:Nat):Bool:=if e=84 then true else if e=a7Q then true else false
@[go_sem] def X7 (e:Nat) (u:Ty) (o:Nat):Option (Nat×Nat)->List (Nat×Nat×Ty)
 |none=>[(o,e,u)]
 |some _=>[]
@[go_sem] def DN:(t:Ty)->t.den->Nat->List (Nat×Nat×Ty)
 | .rl e u,x,o=>X7 e u o x
 | .pair a b,x,o=>qG (DN a x.1 o) (DN b x.2 (o+a.cells))
 |_,_,_=>[]
@[go_sem] def X8 (o:Nat):Option (Nat×Nat)->List Nat
 |none=>[o]
 |some _=>[]
@[go_sem] def F5:(t:Ty)->t.den->Nat->List Nat
 | .mref,x,o=>X8 o x
 | .pair a b,x,o=>qG (F5 a x.1 o) (F5 b x.2 (o+a.cells))
 |_,_,_=>[]
@[go_sem] def a8d:Nat->List Nat->List Nat
 |2,[0]=>[0]
 |_,_=>[]
@[go_sem] def RT (el:Nat) (t:Ty) (y:t.den):List Nat:=if X6 el=true then a8d t.cells (F5 t y 0) else[]
@[go_sem] def IV (t:Ty):Nat->List (Nat×Nat×Ty)->Option t.den->Option t.den
 |_,[],x=>x
 |i,(o,e,u)::r,some x=>IV t (i+1) r (sF (.rl e u) (some (i,0)) t x o)
 |_,_::_,none=>none
@[go_sem] def GW (t:Ty) (i:Nat):List Nat->Option t.den->Option t.den
 |[],x=>x
 |q::r,some x=>GW t i r (sF .mref (some (i,q)) t x q)
 |_::_,none=>none
@[go_sem] def IW:List (Nat×Nat×Ty)->Nat->List (Nat×pQ)
 |[],_=>[]
 |(_,e,u)::r,i=>qG (IW r (i+1)) [(i,.row e u [] 0)]
@[go_sem] def O3 {α:Type}:List α->Nat
 |[]=>0
 |_::r=>O3 r+1
@[go_sem] def a8e (base:Nat) (t:Ty) (ls:List (Nat×TypeId×Nat)) (R:List (Nat×Nat×Ty)):Option t.den->Option pY
 |some z=>some ⟨[],(.val .ref (some (base,0)),none),(base,.cells t z (BA ls (base+1)))::qG (IW R (base+1+O3 ls)) (CN ls (base+1)),[]⟩
 |none=>none
@[go_sem] def RU (base el:Nat) (t:Ty) (y:t.den) (ls:List (Nat×TypeId×Nat)):Bool->Option pY
 |true=>a8e base t ls (DN t y 0) (GW t base (RT el t y) (IV t (base+1+O3 ls) (DN t y 0) (some y)))
 |false=>none
@[go_sem] def a8f (base el:Nat) (ls:List (Nat×TypeId×Nat)):(t:Ty)->t.den->Option Nat->Option pY
 | .pair a b,y,some _=>RU base el (.pair a b) y ls (DM (.pair a b) ls)
 | .list u,y,k=>some ⟨[],(.val .ref (some (base,0)),none),[(base,.cells (.list u) y (x9 k 0))],[]⟩
 |t,y,_=>some ⟨[],(.val .ref (some (base,0)),none),[(base,.cells t y [])],[]⟩
@[go_sem] def X9 (base el:Nat):Option TI->Option pY
 |some ⟨.list u,e,_,_,_⟩=>some ⟨[],(.val .ref (some (base,0)),none),[(base,.cells (.list u) [] [(0,base+1)]),(base+1,.grow e u.cells 0)],[]⟩
 |some ti=>RU base el ti.ty ti.ty.zero ti.ls (DM ti.ty ti.ls)
 |none=>none
@[go_sem] def XA (base el:Nat):Option TI->pR->Option pY
 |some ti,(.val t y,k)=>if t=ti.ty then a8f base el ti.ls t y k else none
 |_,_=>none
@[go_sem] def L3:Ty->Bool
 | .list _=>true
 | .pair a b=>L3 a||L3 b
 | .bool| .int _| .str| .unit| .ref| .clo| .mp| .rl _ _| .mref| .fn=>false
@[go_sem] def AA:List (Nat×pR)->Bool
 |[]=>true
 |(_,(.nilS,_))::r=>AA r
 |(_,(.val u _,_))::r=> !L3 u&&AA r
 |_=>false
@[go_sem] def XB:Ty->Bool->Option Nat
 | .pair _ _,true=>some 0
 |_,_=>none
@[go_sem] def aHk (t:Ty) (k:Option Nat):Option t.den->Option pY
 |some x=>some ⟨[],(.val t x,k),[],[]⟩
 |none=>none
@[go_sem] def XC (sl:List (Nat×pR)):Option TI->Option pY
 |some ti=>if ti.ty.isRow=true then aHk ti.ty (XB ti.ty (AA sl)) (zQ ti.ty (some ti.ty.zero) sl) else none
 |none=>none
@[go_sem] def RV (base e c n:Nat) (t:Ty):Option (List t.den)->Option pY
 |some l=>if n<=16777216/\n*c<=16777216 then some ⟨[],(.val (.list t) l,some base),[(base,.grow e c n)],[]⟩ else none
 |none=>none
@[go_sem] def a8g (base e n:Nat) (t:Ty):Option (List t.den)->Option pY
 |some l=>if t.pure=true/\n<=16777216/\n*t.cells<=16777216 then some ⟨[],(.own base n,none),[(base,.row e t l n)],[]⟩ else none
 |none=>none
@[go_sem] def XD (base n:Nat) (sl:List (Nat×pR)):Option TI->Option pY
 |some ⟨.list u,e,_,true,_⟩=>if n=0 then a8g base e n u (A7 u n (some (BT u n)) sl) else RV base e u.cells n u (A7 u n (some (BT u n)) sl)
 |some ⟨.list u,e,_,false,_⟩=>RV base e u.cells n u (A7 u n (some (BT u n)) sl)
 |_=>none
@[go_sem] def a8h (t:Ty) (k:Option Nat) (i:Nat):Option t.den->Option pY
 |some y=>some ⟨[],(.val t y,k),[],[i]⟩
 |none=>none
@[go_sem] def O4 (t:Ty) (i off:Nat):Option pQ->Option pY
 |some (.cells u x toks)=>a8h t (F1 t (wV toks off)) i (qO t u x off)
 |_=>none
@[go_sem] def a8i (u:Ty) (k n m:Nat):Option u.den->Option pY
 |some y=>some ⟨[n=m],(.val u y,none),[],[k]⟩
 |none=>none
@[go_sem] def O5 (u:Ty) (k n c:Nat) (i:Int) (o:Nat):Option pQ->Option pY
 |some (.row _ t l m)=>if c=t.cells then a8i u k n m (qO u t (qD t l i) o) else none
 |_=>none
@[go_sem] def XE (i:Nat):Option (Option (Nat×Nat))->Option pY
 |some (some (k,n))=>some ⟨[],(.own k n,none),[],[i]⟩
 |_=>none
@[go_sem] def RW (i off:Nat):TI->Option pQ->Option pY
 |⟨.list u,e,_,_,_⟩,some (.cells v x _)=>XE i (qO (.rl e u) v x off)
 |_,_=>none
@[go_sem] def XF (k:Nat) (u0:Ty) (l:List u0.den) (e:Nat) (u:Ty):Option (Nat×Nat)-> Σ t:Ty,t.den
 |some (j,n)=>if j=k/\u=u0 then⟨.list u0,l⟩ else⟨.rl e u,some (j,n)⟩
 |none=>⟨.rl e u,none⟩
@[go_sem] def zT (k:Nat) (u0:Ty) (l:List u0.den):(t:Ty)->t.den-> Σ t:Ty,t.den
 | .rl e u,x=>XF k u0 l e u x
 | .pair a b,x=>if (Ty.pair a b).pure=true then⟨.pair a b,x⟩ else⟨.pair (zT k u0 l a x.1).1 (zT k u0 l b x.2).1,((zT k u0 l a x.1).2,(zT k u0 l b x.2).2)⟩
 |t,x=>⟨t,x⟩
@[go_sem] def aHl (k n:Nat):Option (Nat×Nat)->Prop
 |some (j,m)=>j=k->m=n
 |none=>True
@[go_sem] def O6 (k n:Nat):(t:Ty)->t.den->Prop
 | .rl _ _,x=>aHl k n x
 | .pair a b,x=>O6 k n a x.1/\O6 k n b x.2
 |_,_=>True
@[go_sem] def XG:Option (Nat×Nat)->Option (Nat×Nat)->Option (Nat×Nat)
 |some p,_=>some p
 |none,q=>q
@[go_sem] def AB:(t:Ty)->t.den->Option (Nat×Nat)
 | .rl _ _,x=>x
 | .pair a b,x=>XG (AB a x.1) (AB b x.2)
 |_,_=>none
@[go_sem] def XH (u0:Ty) (l:List u0.den) (u:Ty):Option (Nat×Nat)->Option (Σ t:Ty,t.den)
 |some _=>if u=u0 then some ⟨.list u0,l⟩ else none
 |none=>none
@[go_sem] def IX (a b:Ty) (x:a.den) (y:b.den):Option (Nat×Nat)->Option (Σ t:Ty,t.den)->Option (Σ t:Ty,t.den)->Option (Σ t:Ty,t.den)
 |some _,some ⟨a',x'⟩,_=>some ⟨.pair a' b,(x',y)⟩
 |some _,none,_=>none
 |none,_,some ⟨b',y'⟩=>some ⟨.pair a b',(x,y')⟩
 |none,_,none=>none
@[go_sem] def yM (u0:Ty) (l:List u0.den):(t:Ty)->t.den->Option (Σ t:Ty,t.den)
 | .rl _ u,x=>XH u0 l u x
 | .pair a b,x=>IX a b x.1 x.2 (AB a x.1) (yM u0 l a x.1) (yM u0 l b x.2)
 |_,_=>none
@[go_sem] def XI (t:Ty) (i k:Nat) (sd:Prop) (e:TypeId) (c n:Nat) (v:Ty) (x:v.den):Option t.den->Option pY
 |some y=>some ⟨[sd],(.val t y,none),[(i,.cells v x []),(k,.grow e c n)],[1000000000,i,k]⟩
 |none=>none
@[go_sem] def XJ (t:Ty) (i off k:Nat) (sd:Prop) (e:TypeId) (c n:Nat):Option (Σ t:Ty,t.den)->Option pY
 |some ⟨v,x⟩=>XI t i k sd e c n v x (qO t v x off)
 |none=>none
@[go_sem] def RX (t:Ty) (i off k n0:Nat) (v:Ty) (x:v.den):Option pQ->Option pY
 |some (.row e u0 l m)=>XJ t i off k (n0=m) e u0.cells (List.length l) (yM u0 l v x)
 |_=>none
@[go_sem] def RY (H:List (Nat×pQ)) (t:Ty) (i off:Nat) (v:Ty) (x:v.den):Option (Nat×Nat)->Option pY
 |some (k,n0)=>RX t i off k n0 v x (pT H k)
 |none=>none
@[go_sem] def GX (H:List (Nat×pQ)) (t:Ty) (i off:Nat):Option pQ->Option pY
 |some (.cells v x _)=>RY H t i off v x (AB v x)
 |_=>none
@[go_sem] def orS (H:List (Nat×pQ)) (t:Ty) (i off:Nat) (b:Option pQ):Option pY->Option pY
 |some r=>some r
 |none=>GX H t i off b
@[go_sem] def RZ (H:List (Nat×pQ)):Option TI->pR->Option pY
 |some ti,(.elt k n c i o,_)=>O5 ti.ty k n c i o (pT H k)
 |some ti,(.at u x,_)=>if u=ti.ty then some ⟨[],(.val u x,none),[],[]⟩ else none
 |some ti,(.val .ref (some (i,off)),_)=>orS H ti.ty i off (pT H i) (orE (O4 ti.ty i off (pT H i)) (RW i off ti (pT H i)))
 |_,_=>none
@[go_sem] def S0 (u:Ty) (i:Nat) (toks:List (Nat×Nat)):Option u.den->Option pY
 |some z=>some ⟨[],(.any,none),[(i,.cells u z toks)],[i]⟩
 |none=>none
@[go_sem] def S1 (t:Ty) (y:t.den) (k:Option Nat) (i off:Nat):Option pQ->Option pY
 |some (.cells u x toks)=>S0 u i (qG (x9 (F1 t k) off) (uZ toks off t.cells)) (sF t y u x off)
 |_=>none
@[go_sem] def L4 (off:Nat):List (Nat×Nat)->List (Nat×Nat)
 |[]=>[]
 |(o,k)::r=>(off+o,k)::L4 off r
@[go_sem] def a8k (u:Ty) (i:Nat) (nt toks:List (Nat×Nat)) (bs:List (Nat×pQ)):Option u.den->Option pY
 |some z=>some ⟨[],(.any,none),(i,.cells u z (qG nt toks))::qG bs [(i,.cells u z toks)],[i]⟩
 |none=>none
@[go_sem] def S2 (t:Ty) (y:t.den) (ls:List (Nat×TypeId×Nat)) (base i off:Nat):Option pQ->Bool->Option pY
 |some (.cells u x toks),true=>a8k u i (L4 off (BA ls base)) (uZ toks off t.cells) (CN ls base) (sF t y u x off)
 |_,_=>none
@[go_sem] def S3 (base i off:Nat) (b:Option pQ):List (Nat×TypeId×Nat)->(t:Ty)->t.den->Option Nat->Option pY
 |q::r,.pair a c,y,some _=>S2 (.pair a c) y (q::r) base i off b (DM (.pair a c) (q::r))
 |_,t,y,k=>S1 t y k i off b
@[go_sem] def a8l (k n m:Nat) (e:TypeId) (t:Ty) (l:List t.den) (i:Int):Option t.den->Option pY
 |some z=>some ⟨[n=m],(.any,none),[(k,.row e t (l.set i.toNat z) m)],[k]⟩
 |none=>none
@[go_sem] def S4 (u:Ty) (y:u.den) (k n c:Nat) (i:Int) (o:Nat):Option pQ->Option pY
 |some (.row e t l m)=>if c=t.cells then a8l k n m e t l i (sF u y t (qD t l i) o) else none
 |_=>none
@[go_sem] def XK (b:Ty) (y:b.den):Option (Σ t:Ty,t.den)->Option (Σ t:Ty,t.den)
 |some ⟨a,x⟩=>some ⟨.pair a b,(x,y)⟩
 |none=>none
@[go_sem] def XL (a:Ty) (x:a.den):Option (Σ t:Ty,t.den)->Option (Σ t:Ty,t.den)
 |some ⟨b,y⟩=>some ⟨.pair a b,(x,y)⟩
 |none=>none
@[go_sem] def xK (e:Nat) (u:Ty) (kn:Option (Nat×Nat)):(t:Ty)->t.den->Nat->Option (Σ t:Ty,t.den)
 | .list v,_,0=>if v=u then some ⟨.rl e u,kn⟩ else none
 | .pair a b,x,o=>if o<a.cells then XK b x.2 (xK e u kn a x.1 o) else XL a x.1 (xK e u kn b x.2 (o-a.cells))
 |_,_,_=>none
@[go_sem] def XM (i:Nat):Option (Σ t:Ty,t.den)->Option pY
 |some ⟨v,z⟩=>some ⟨[],(.any,none),[(i,.cells v z [])],[1000000000,i]⟩
 |none=>none
@[go_sem] def orO (i off k n e:Nat) (u v:Ty) (x:v.den):Option pY->Option pY
 |some r=>some r
 |none=>XM i (xK e u (some (k,n)) v x off)
@[go_sem] def XN (i off k n:Nat):TI->Option pQ->Option pY
 |⟨.list u,e,_,_,_⟩,some (.cells v x toks)=>orO i off k n e u v x (S0 v i (uZ toks off 1) (sF (.rl e u) (some (k,n)) v x off))
 |_,_=>none
@[go_sem] def S5 (base:Nat) (H:List (Nat×pQ)):Option TI->pR->pR->Option pY
 |some ti,(.val .ref (some (i,off)),_),(.own k n,_)=>XN i off k n ti (pT H i)
 |some ti,(.elt k n c i o,_),(.val t y,_)=>if t=ti.ty then S4 t y k n c i o (pT H k) else none
 |some ti,(.val .ref (some (i,off)),_),(.val t y,k)=>if t=ti.ty then S3 base i off (pT H i) ti.ls t y k else none
 |_,_,_=>none
@[go_sem] def XO:pR->Option pY
 |(.val .ref (some p),_)=>some ⟨[],(.val .ref (some p),none),[],[]⟩
 |(.at t x,_)=>some ⟨[],(.at t x,none),[],[]⟩
 |(.elt k n c i o,_)=>some ⟨[],(.elt k n c i o,none),[],[]⟩
 |_=>none
@[go_sem] def a8n (f:FuncId):Option (List (Nat×Nat))->Option pY
 |some l=>some ⟨[],(.val .clo (some (f,l)),none),[],[]⟩
 |none=>none
@[go_sem] def aHm (f:FuncId) (l:Option (List (Nat×Nat))):List Operand->Option pY
 |[]=>a8n f l
 |_=>none
@[go_sem] def S6 (side:List Prop):Option (Σ t:Ty,t.den)->Option pY
 |some ⟨t,x⟩=>if 0<t.cells then some ⟨side,(.at t x,none),[],[]⟩ else none
 |none=>none
@[go_sem] def S7 (side:List Prop) (i off:Nat):Option Nat->Option Ty->Option pY
 |some o,some u=>if 0<u.cells then some ⟨side,(.val .ref (some (i,off+o)),none),[],[]⟩ else none
 |_,_=>none
@[go_sem] def a8o (k n c:Nat) (i:Int) (o:Nat):Option Nat->Option Ty->Option pY
 |some q,some u=>if 0<u.cells then some ⟨[],(.elt k n c i (o+q),none),[],[]⟩ else none
 |_,_=>none
@[go_sem] def XP (f:Nat):Option TI->pR->Option pY
 |some ⟨t,_,_,false,_⟩,(.elt k n c i o,_)=>a8o k n c i o (t.offs f) (t.fld f)
 |some ⟨t,_,_,false,_⟩,(.at u y,_)=>if u=t then S6 [] (u.proj y f) else none
 |some ⟨t,_,_,false,_⟩,(.val .ref (some (i,off)),_)=>S7 [] i off (t.offs f) (t.fld f)
 |_,_=>none
@[go_sem] def aHn:Option (Σ t:Ty,t.den)->Option pY
 |some ⟨t,x⟩=>some ⟨[],(.val t x,none),[],[]⟩
 |none=>none
@[go_sem] def XQ (f:Nat):Option TI->pR->Option pY
 |some ⟨t,_,_,false,_⟩,(.val u y,_)=>if u=t then aHn (u.proj y f) else none
 |_,_=>none
@[go_sem] def XR:Option TI->pR->pR->Option pY
 |some ⟨.list t',_,_,_,_⟩,(.own k n,_),(.val (.int _) i,_)=>if 0<t'.cells then some ⟨[0<=i/\i<(n:Int)],(.elt k n t'.cells i 0,none),[],[]⟩ else none
 |some ⟨.list t',_,_,_,_⟩,(.val (.list t) l,_),(.val (.int _) i,_)=>if t=t' then some ⟨[0<=i/\i<(List.length l:Int)],(.at t (qD t l i),none),[],[]⟩ else none
 |some ⟨.pair a b,_,_,true,_⟩,(.val .ref (some (i,off)),_),(.val (.int _) n,_)=>S7 [(0:Int)<=n] i off ((Ty.pair a b).offs (Int.toNat n)) ((Ty.pair a b).fld (Int.toNat n))
 |some ⟨.pair a b,_,_,true,_⟩,(.at u x,_),(.val (.int _) n,_)=>if u= .pair a b then S6 [(0:Int)<=n] (u.proj x (Int.toNat n)) else none
 |_,_,_=>none
@[go_sem] def XS:Option TI->pR->pR->Option pY
 |some ⟨.str,_,_,_,_⟩,(.val .str l,_),(.val (.int _) i,_)=>some ⟨[0<=i/\i<(List.length l:Int)],(.val (.int .u8) (qC l i),none),[],[]⟩
 |_,_,_=>none
@[go_sem] def S8:List ((Σ t:Ty,t.den)×Option Nat)->Nat->Option pY
 |[],_=>none
 |(⟨t,x⟩,k)::_,0=>some ⟨[],(.val t x,k),[],[]⟩
 |_::r,n+1=>S8 r n
@[go_sem] def a8p (b:Bool) (p c:Int):Nat->Option pY
 |0=>some ⟨[],(.val .bool b,none),[],[]⟩
 |1=>some ⟨[b=true],(.val (.int .i64) p,none),[],[]⟩
 |2=>some ⟨[b=true],(.val (.int .i32) c,none),[],[]⟩
 |_=>none
@[go_sem] def XT (i:Nat):pR->Option pY
 |(.tup l,_)=>S8 l i
 |(.nxt b p c,_)=>a8p b p c i
 |_=>none
@[go_sem] def S9 (i:Nat):Option pQ->Option pY
 |some (.map _ _ l)=>some ⟨[],(.val (.int .i64) (List.length l:Int),none),[],[i]⟩
 |_=>none
@[go_sem] def XU (H:List (Nat×pQ)):Option TI->List pR->Option pY
 |some ⟨.mp,_,_,_,_⟩,[(.val .mp (some i),_)]=>S9 i (pT H i)
 |some ⟨.str,_,_,_,_⟩,[(.val .str l,_)]=>some ⟨[],(.val (.int .i64) (List.length l:Int),none),[],[]⟩
 |some ⟨.list _,_,_,_,_⟩,[(.val (.list _) l,_)]=>some ⟨[],(.val (.int .i64) (List.length l:Int),none),[],[]⟩
 |some ⟨.list _,_,_,_,_⟩,[(.own _ n,_)]=>some ⟨[],(.val (.int .i64) (n:Int),none),[],[]⟩
 |_,_=>none
@[go_sem] def SA (a:Ty) (l r:List a.den) (k e' by':Nat):Option pQ->Option pY
 |some (.grow e c n)=>if e=e'/\c=a.cells/\0<c/\0<by' then some ⟨[List.length l=n,(List.length l+List.length r)*by'<=140737488355328],(.val (.list a) (l++r),some k),[(k,.grow e c (List.length (l++r)))],[k]⟩ else none
 |_=>none
@[go_sem] def SB (b:Ty) (r:List b.den) (k n e' by':Nat):Option pQ->Option pY
 |some (.row e t l m)=>if h:b=t then(if e=e'/\0<t.cells/\0<by' then some ⟨[n=m,(n+List.length r)*by'<=140737488355328],(.own k (List.length (l++tV (t:= .list b) (u:= .list t) (by rw[h]) r)),none),[(k,.row e t (l++tV (t:= .list b) (u:= .list t) (by rw[h]) r) (List.length (l++tV (t:= .list b) (u:= .list t) (by rw[h]) r)))],[k]⟩ else none) else none
 |_=>none
@[go_sem] def SC (H:List (Nat×pQ)):Option TI->List pR->Option pY
 |some ⟨.list u,e,by',_,_⟩,[(.own k n,_),(.val (.list b) r,_)]=>if b=u then SB b r k n e by' (pT H k) else none
 |some ⟨.list u,e,by',_,_⟩,[(.val (.list a) l,some k),(.val (.list b) r,_)]=>if h:b=a/\a=u then SA a l (tV (t:= .list b) (u:= .list a) (by rw[h.1]) r) k e by' (pT H k) else none
 |_,_=>none
@[go_sem] def SD (mx:Bool):List pR->Option (List Prop×DV)
 |[(.val (.int k) a,_),(.val (.int k') b,_)]=>if k=k' then some ([],.val (.int k) (if mx then max (a:Int) b else min (a:Int) b)) else none
 |_=>none
@[go_sem] def XV:List (Nat×Nat)->List pR
 |[]=>[]
 |c::r=>(.val .ref (some c),none)::XV r
@[go_sem] def SE (H:List (Nat×pQ)) (base:Nat) (args:List pR) (g:qS):Option ((t:Ty)->List t.den->Option (List t.den))->Option pY
 |some F=>RQ H F args
 |none=>a8b H base args g (O0 g.ps args)
@[go_sem] def IY (H:List (Nat×pQ)) (base:Nat) (args:List pR):Option qS->Option pY
 |some g=>SE H base args g g.row
 |none=>none
@[go_sem] def L5 (Γ:tW) (H:List (Nat×pQ)) (base:Nat) (args:List pR):pR->Option pY
 |(.val .clo (some (f,caps)),_)=>IY H base (args++XV caps) (Γ f)
 |(.val .fn (some f),_)=>IY H base args (Γ f)
 |_=>none
@[go_sem] def F6 (T:sG) (ρ:Operand->pR):List Operand->List TypeId->List pR
 |x::xs,t::ts=>NU (rF T t) (ρ x)::F6 T ρ xs ts
 |_,_=>[]
@[go_sem] def v6 (ρ:Operand->pR):List Operand->List pR
 |[]=>[]
 |x::xs=>ρ x::v6 ρ xs
@[go_sem] def tZ (ρ:Operand->pR):List (Nat×Operand)->List (Nat×pR)
 |[]=>[]
 |(i,x)::xs=>(i,ρ x)::tZ ρ xs
@[go_sem] def yN (ρ:Operand->pR):Option Operand->Option pR
 |some x=>some (ρ x)
 |none=>none
@[go_sem] def SF (T:sG) (H:List (Nat×pQ)) (ss:List pR):List TypeId->Option pY
 |t::_=>XU H (rF T t) ss
 |[]=>none
@[go_sem] def SG (l:List Int) (s:List UInt8) (k e':Nat):Option pQ->Option pY
 |some (.grow e c n)=>if e=e'/\c=1 then some ⟨[List.length l=n,List.length l+List.length s<=140737488355328],(.val (.list (.int .u8)) (l++s5 s),some k),[(k,.grow e c (List.length (l++s5 s)))],[k]⟩ else none
 |_=>none
@[go_sem] def XW (H:List (Nat×pQ)):Option TI->Option TI->List pR->Option pY
 |some ⟨.list (.int .u8),e,1,_,_⟩,some ⟨.str,_,_,_,_⟩,[(.val (.list (.int .u8)) l,some k),(.val .str s,_)]=>SG l s k e (pT H k)
 |_,_,_=>none
@[go_sem] def SH (T:sG) (H:List (Nat×pQ)) (ss:List pR):List TypeId->Option pY
 |[t,u]=>if t=u then SC H (rF T t) ss else XW H (rF T t) (rF T u) ss
 |_=>none
@[go_sem] def IZ:List Operand->List TypeId->Bool
 |[],[]=>true
 |_::xs,_::ts=>IZ xs ts
 |_,_=>false
@[go_sem] def XX (T:sG) (Γ:tW) (ρ:Operand->pR) (base:Nat) (H:List (Nat×pQ)) (args:List Operand) (tys:List TypeId) (f:pR):Bool->Option pY
 |true=>L5 Γ H base (F6 T ρ args tys) f
 |false=>none
@[go_sem] def J0 (T:sG) (Γ:tW) (ρ:Operand->pR) (base:Nat) (H:List (Nat×pQ)) (args:Array Operand) (tys:Array TypeId):Callee->Option pY
 | .builtin .len=>SF T H (v6 ρ args.toList) tys.toList
 | .builtin .append=>SH T H (v6 ρ args.toList) tys.toList
 | .builtin .max=>A6 (SD true (v6 ρ args.toList))
 | .builtin .min=>A6 (SD false (v6 ρ args.toList))
 | .value f=>XX T Γ ρ base H args.toList tys.toList (ρ f) (IZ args.toList tys.toList)
 |_=>none
@[go_sem] def DO:Ty->Bool
 | .int _| .str| .bool=>true
 |_=>false
def F7:(k:Ty)->k.den->k.den->Bool
 | .int _,a,b=>decide ((a:Int)=b)
 | .str,a,b=>decide ((a:List UInt8)=b)
 | .bool,a,b=>a==b
 |_,_,_=>false
def sV (k v:Ty):List (k.den×v.den)->k.den->v.den
 |[],_=>v.zero
 |(x,y)::r,a=>if F7 k a x=true then y else sV k v r a
def DP (k v:Ty):List (k.den×v.den)->k.den->Bool
 |[],_=>false
 |(x,_)::r,a=>if F7 k a x=true then true else DP k v r a
def v7 (k v:Ty) (a:k.den) (b:v.den):List (k.den×v.den)->List (k.den×v.den)
 |[]=>[(a,b)]
 |(x,y)::r=>if F7 k a x=true then(a,b)::r else(x,y)::v7 k v a b r
@[go_sem] def a8q (base:Nat):Option TI->Option TI->Option pY
 |some k,some v=>if DO k.ty=true then some ⟨[],(.val .mp (some base),none),[(base,.map k.ty v.ty [])],[]⟩ else none
 |_,_=>none
@[go_sem] def XY (T:sG) (base:Nat):Option TI->Option Operand->Option pY
 |some ⟨.mp,e,f,_,_⟩,none=>a8q base (rF T e) (rF T f)
 |_,_=>none
@[go_sem] def SJ (k:Ty) (a:k.den) (u:Ty) (i:Nat) (ok:Bool):Option pQ->Option pY
 |some (.map k' v l)=>if h:k=k'/\v=u then(if DO k=true then(match ok with
   |true=>some ⟨[],(.tup [(⟨v,sV k' v l (tV h.1 a)⟩,none),(⟨.bool,DP k' v l (tV h.1 a)⟩,none)],none),[],[i]⟩
   |false=>some ⟨[],(.val v (sV k' v l (tV h.1 a)),none),[],[i]⟩) else none) else none
 |_=>none
@[go_sem] def XZ (H:List (Nat×pQ)) (ok:Bool) (i:Nat):Option TI->Option TI->pR->Option pY
 |some kt,some vt,(.val k a,_)=>if k=kt.ty then SJ k a vt.ty i ok (pT H i) else none
 |_,_,_=>none
@[go_sem] def SK (T:sG) (H:List (Nat×pQ)) (ok:Bool):Option TI->pR->pR->Option pY
 |some ⟨.mp,e,f,_,_⟩,(.val .mp (some i),_),s=>XZ H ok i (rF T e) (rF T f) s
 |_,_,_=>none
@[go_sem] def L6 (k:Ty) (a:k.den) (u:Ty) (b:u.den) (i:Nat):Option pQ->Option pY
 |some (.map k' v l)=>if h:k=k'/\u=v then(if DO k=true then some ⟨[],(.any,none),[(i,.map k' v (v7 k' v (tV h.1 a) (tV h.2 b) l))],[i]⟩ else none) else none
 |_=>none
@[go_sem] def SL (H:List (Nat×pQ)) (i:Nat):Option TI->pR->pR->Option pY
 |some kt,(.val k a,_),(.val u b,_)=>if k=kt.ty then L6 k a u b i (pT H i) else none
 |_,_,_=>none
@[go_sem] def a8r:Option TI->pR->pR
 |some ⟨.fn,_,_,_,_⟩,(.val .clo (some (f,[])),_)=>(.val .fn (some f),none)
 |_,s=>s
@[go_sem] def SM (T:sG):Option TI->pR->pR
 |some ⟨.mp,_,f,_,_⟩,s=>a8r (rF T f) s
 |_,s=>s
@[go_sem] def L7 (T:sG) (H:List (Nat×pQ)):Option TI->pR->pR->pR->Option pY
 |some ⟨.mp,e,_,_,_⟩,(.val .mp (some i),_),s,x=>SL H i (rF T e) s x
 |_,_,_,_=>none
def wW (s:List UInt8) (p:Nat):Int:=((Utf8.decode ⟨s.toArray⟩ p).1:Int)
def Y0 (s:List UInt8) (p:Nat):Nat:=(Utf8.decode ⟨s.toArray⟩ p).2
def zU (s:List UInt8) (p:Nat):Nat:=if p<s.length then p+Y0 s p else p
@[go_sem] def Y1 (base:Nat):Option TI->pR->Option pY
 |some ⟨.str,_,_,_,_⟩,(.val .str s,_)=>some ⟨[],(.val .ref (some (base,0)),none),[(base,.iter s 0)],[]⟩
 |_,_=>none
@[go_sem] def Y2 (i:Nat):Option pQ->Option pY
 |some (.iter s p)=>some ⟨[],(.nxt (decide (p<List.length s)) ((p:Nat):Int) (wW s p),none),[(i,.iter s (zU s p))],[i]⟩
 |_=>none
@[go_sem] def SN (H:List (Nat×pQ)):Bool->pR->Option pY
 |true,(.val .ref (some (i,0)),_)=>Y2 i (pT H i)
 |_,_=>none
@[go_sem] def tX (T:sG) (Γ:tW) (ty:TypeId) (ρ:Operand->pR) (base:Nat) (H:List (Nat×pQ)):Op->Option pY
 | .move x| .assign x=>X5 base (rF T ty) (ρ x)
 | .alloc e=>X9 base e (rF T e)
 | .box e x=>XA base e (rF T e) (NU (rF T e) (ρ x))
 | .build t ps=>XC (tZ ρ ps.toList) (rF T t)
 | .buildSlice t n ps=>XD base n (tZ ρ ps.toList) (rF T t)
 | .load t a=>RZ H (rF T t) (ρ a)
 | .store t a x=>S5 base H (rF T t) (ρ a) (NU (rF T t) (ρ x))
 | .nilCheck x=>XO (ρ x)
 | .binOp op t x y _=>A6 (a7W (RC op (ρ x) (ρ y)) (WW (rF T t) op (ρ x) (ρ y)))
 | .unOp op _ x=>A6 (WX op (ρ x))
 | .convert src dst x=>A6 (a7W (RE (rF T src) (rF T dst) (ρ x)) (WY T (rF T src) (rF T dst) (ρ x)))
 | .makeFunc (.func f) first caps=>aHm f (IM (v6 ρ caps.toList)) first.toList
 | .slice t x lo hi none=>A6 (WZ (rF T t) (ρ x) (yN ρ lo) (yN ρ hi))
 | .fieldAddr t x f=>XP f (rF T t) (ρ x)
 | .field t x f=>XQ f (rF T t) (ρ x)
 | .indexAddr t x ix=>XR (rF T t) (ρ x) (ρ ix)
 | .index t x ix=>XS (rF T t) (ρ x) (ρ ix)
 | .extract x i=>XT i (ρ x)
 | .makeMap t r=>XY T base (rF T t) r
 | .range t x=>Y1 base (rF T t) (ρ x)
 | .next x b=>SN H b (ρ x)
 | .lookup t x i ok=>SK T H ok (rF T t) (ρ x) (ρ i)
 | .mapUpdate t m k x=>L7 T H (rF T t) (ρ m) (ρ k) (SM T (rF T t) (ρ x))
 | .insert t m k x=>L7 T H (rF T t) (ρ m) (ρ k) (SM T (rF T t) (ρ x))
 | .call c=>J0 T Γ ρ base H c.args c.argTypes c.callee
 |_=>none
@[go_sem] def xD:pR->pR
 |(.cond _ d,_)=>(d,none)
 |s=>s
@[go_sem] def y7 (G:Bool):List pR->List Prop
 |[]=>[]
 |(.cond p _,_)::r=>(G=true->p=true)::y7 G r
 |_::r=>y7 G r
@[go_sem] def a8s (b:Bool):pR->Option Bool
 |(.val .bool c,_)=>some (c==b)
 |(.cond p (.val .bool c),_)=>some (p&&(c==b))
 |_=>none
@[go_sem] def CO:List Oper->Nat->Option Tmp
 |[],_=>none
 |o::_,0=>o.dst
 |_::r,n+1=>CO r n
@[go_sem] def F8 (env:List (Nat×pR)) (b:Bool):Option Tmp->Option Bool
 |some t=>a8s b (lk env t)
 |none=>none
@[go_sem] theorem aPG (x y:Bool):cond x y false=(x&&y):=by cases x<;>rfl
@[go_sem] theorem aPH (x y:Bool):cond x true y=(x||y):=by cases x<;>rfl
@[go_sem] def a8t (x:Bool):pR->pR->Option pY
 |(.val .bool y,_),(.val .bool z,_)=>some ⟨[],(.val .bool (cond x y z),none),[],[]⟩
 |(.cond p (.val .bool y),_),(.val .bool z,_)=>some ⟨[x=true->p=true],(.val .bool (cond x y z),none),[],[]⟩
 |(.val .bool y,_),(.cond p (.val .bool z),_)=>some ⟨[x=false->p=true],(.val .bool (cond x y z),none),[],[]⟩
 |(.cond q (.val .bool y),_),(.cond p (.val .bool z),_)=>some ⟨[x=true->q=true,x=false->p=true],(.val .bool (cond x y z),none),[],[]⟩
 |_,_=>none
@[go_sem] def O7:pR->pR->pR->Option pY
 |(.val .bool x,_),a,b=>a8t x a b
 |_,_,_=>none
@[go_sem] def s8:Op->List Operand
 | .move x| .assign x| .box _ x| .load _ x| .nilCheck x| .unOp _ _ x| .convert _ _ x| .fieldAddr _ x _| .field _ x _| .extract x _=>[x]
 | .build _ ps| .buildSlice _ _ ps=>parts ps.toList
 | .store _ a v| .binOp _ _ a v _| .indexAddr _ a v| .index _ a v=>[a,v]
 | .lookup _ a v _=>[a,v]
 | .range _ x| .next x _=>[x]
 | .mapUpdate _ m k x=>[m,k,x]
 | .insert _ m k x=>[m,k,x]
 | .makeFunc _ _ caps=>caps.toList
 | .slice _ x l h _=>x::qG (opt l) (opt h)
 | .call ⟨.value f,args,_⟩=>f::args.toList
 | .call ⟨_,args,_⟩=>args.toList
 |_=>[]
where
 parts:List (Nat×Operand)->List Operand
  |[]=>[]
  |(_,x)::r=>x::parts r
 opt:Option Operand->List Operand
  |some x=>[x]
  |none=>[]
attribute [go_sem] s8.parts s8.opt
@[go_sem] def L8 (l:List Prop):Option pY->Option pY
 |some e=>some ⟨qG l e.side,e.slot,e.upd,e.rds⟩
 |none=>none
@[go_sem] def O8 (G:Bool):List Prop->List Prop
 |[]=>[]
 |p::r=>(G=true->p)::O8 G r
@[go_sem] def GY (G:Bool) (l:List Prop):Option pY->Option pY
 |some ⟨side,(d,_),[],rds⟩=>some ⟨qG l (O8 G side),(.cond G d,none),[],rds⟩
 |some ⟨side,s,u::us,rds⟩=>some ⟨(G=true)::qG l (O8 G side),s,u::us,rds⟩
 |none=>none
@[go_sem] def BB (env:List (Nat×pR)):List Operand->List pR
 |[]=>[]
 |x::r=>tH env x::BB env r
@[go_sem] def L9 (T:sG) (Γ:tW) (o:Oper) (s:St):Option Bool->Op->Option pY
 |some G,.pick c a b=>GY G (y7 G [tH s.env c]) (O7 (xD (tH s.env c)) (tH s.env a) (tH s.env b))
 |some G,op=>GY G (y7 G (BB s.env (s8 op))) (tX T Γ o.type (fun x=>xD (tH s.env x)) s.nb s.H op)
 |none,_=>none
@[go_sem] def LA (T:sG) (Γ:tW) (o:Oper) (s:St):Op->Option pY
 | .pick c a b=>O7 (tH s.env c) (tH s.env a) (tH s.env b)
 |op=>L8 (y7 true (BB s.env (s8 op))) (tX T Γ o.type (fun x=>xD (tH s.env x)) s.nb s.H op)
@[go_sem] def GZ (np:Nat):List (Nat×pQ)->Bool
 |[]=>true
 |(i,.cells _ _ _)::r=>if np<=i then GZ np r else false
 |_::r=>GZ np r
@[go_sem] def a8u (np:Nat) (e:pY):Bool->Option pY
 |true=>if GZ np e.upd=true then some e else none
 |false=>some e
@[go_sem] def Y3 (np:Nat):Option pY->Option pY
 |some e=>a8u np e (GS e.rds)
 |none=>none
@[go_sem] def LB (T:sG) (Γ:tW) (ops:List Oper) (o:Oper) (s:St):Option pY:=
 match o.guard with
 |none=>LA T Γ o s o.op
 |some (j,b)=>L9 T Γ o s (F8 s.env b (CO ops j)) o.op
@[go_sem] def DQ (T:sG) (Γ:tW) (ops:List Oper) (o:Oper) (s:St):Option pY:=Y3 s.np (LB T Γ ops o s)
@[go_sem] def sX:Option Tmp->pR->List (Nat×pR)->List (Nat×pR)
 |some d,s,env=>(d,s)::env
 |none,_,env=>env
structure vU where
 s:St
 side:List Prop
 es:List pY
@[go_sem] def H0 (N:Nat):Option Tmp->Bool
 |some d=>decide (d<N)
 |none=>true
@[go_sem] def H4 (n:Nat):List (Nat×pQ)->Bool
 |[]=>true
 |(i,_)::r=>decide (i<n)&&H4 n r
@[go_sem] def CP (i:Nat):List Nat->Bool
 |[]=>false
 |j::r=>if j=i then BU i r else CP i r
@[go_sem] def J1 (H U:List (Nat×pQ)) (rds:List Nat):List (Nat×pQ)->List Prop
 |[]=>[]
 |(i,_)::r=>if CP i rds=true then(pT U i=pT H i)::J1 H U rds r else J1 H U rds r
@[go_sem] def LC (rds:List Nat):List (Nat×pQ)->List (Nat×pQ)
 |[]=>[]
 |(i,b)::r=>if CP i rds=true then LC rds r else(i,b)::LC rds r
@[go_sem] def BW (e:pY):List (Nat×pQ):=LC e.rds e.upd
@[go_sem] def Y4 (o:Oper) (a:vU):Option pY->Option vU
 |some e=>if (H0 a.s.N o.dst&&H4 (a.s.nb+32) e.upd)=true then some ⟨⟨sX o.dst e.slot a.s.env,qG e.upd a.s.H,a.s.nb+32,a.s.N,a.s.np⟩,qG a.side (qG (J1 a.s.H e.upd e.rds e.upd) e.side),e::a.es⟩ else none
 |none=>none
@[go_sem] def vV (T:sG) (Γ:tW) (ops:List Oper):List Oper->Option vU->Option vU
 |[],a=>a
 |o::r,some a=>vV T Γ ops r (Y4 o a (DQ T Γ ops o a.s))
 |_::_,none=>none
@[go_sem] def O9:List (Nat×pQ)->List Nat->Bool
 |[],_=>false
 |(i,_)::r,l=>l.contains i||O9 r l
@[go_sem] def F9 (a b:pY):Bool:= !O9 (BW a) (qG b.rds (pU b.upd))&& !O9 (BW b) a.rds
def J2 (lo:Nat):List (Nat×pQ)->Bool
 |[]=>true
 |(i,_)::r=>(decide (i<lo)||decide (lo+32<=i))&&J2 lo r
def SO (ops:Array Oper) (bs:List Nat) (nb i:Nat) (o:Oper) (e:pY):List Oper->List pY->Nat->Bool
 |p::ps,f::fs,j=>((bs.getD j 0).testBit i||(o.apart ops p&&F9 e f&&J2 (nb+32*i) f.upd))&&SO ops bs nb i o e ps fs (j+1)
 |_,_,_=>true
def SP (ops:Array Oper) (bs:List Nat) (nb:Nat):List Oper->List pY->Nat->Bool
 |o::os,e::es,i=>SO ops bs nb i o e os es (i+1)&&SP ops bs nb os es (i+1)
 |_,_,_=>true
def SQ:List Oper->Nat->Bool
 |[],_=>true
 |o::r,i=>o.after.toList.all (fun e=> !Region.binds .any e||decide (e.on<i))&&SQ r (i+1)
def DR (ops:Array Oper) (nb:Nat) (es:List pY):Bool:=SQ ops.toList 0&&SP ops (Region.before ops).toList nb ops.toList es 0
@[go_sem] def a8v (ops:Array Oper) (nb:Nat):Option vU->Option vU
 |some a=>if DR ops nb a.es.reverse then some a else none
 |none=>none
@[go_sem] def OA (T:sG) (Γ:tW) (ops:Array Oper) (s:St):Bool->Option vU
 |true=>a8v ops s.nb (vV T Γ ops.toList ops.toList (some ⟨s,[],[]⟩))
 |false=>vV T Γ ops.toList ops.toList (some ⟨s,[],[]⟩)
inductive Ex where
 |normal|exit (id:Nat) |ret
structure vK where
 slots:List Nat
 ids:List (Nat×Nat):=[]
@[go_sem] def wG:List (Nat×Nat)->Nat->Option Nat
 |[],_=>none
 |(n,o)::r,k=>if o=k then some n else wG r k
@[go_sem] def a8w (m:List (Nat×Nat)):Option (Nat×Nat)->Option (Nat×Nat)
 |some (i,o)=>(wG m i).map fun j=>(j,o)
 |none=>none
@[go_sem] def BC (m:List (Nat×Nat)):List (Nat×Nat)->Option (List (Nat×Nat))
 |[]=>some []
 |(i,o)::r=>renCons (wG m i) o (BC m r)
where
 renCons:Option Nat->Nat->Option (List (Nat×Nat))->Option (List (Nat×Nat))
  |some j,o,some r=>some ((j,o)::r)
  |_,_,_=>none
attribute [go_sem] BC.renCons
@[go_sem] def a8x (m:List (Nat×Nat)):Option Nat->Option Nat
 |some k=>wG m k
 |none=>none
@[go_sem] def aHo (n:Nat):Option Nat->pR
 |some k=>(.own k n,none)
 |none=>(.any,none)
@[go_sem] def a8y (m:List (Nat×Nat)):Option (Nat×List (Nat×Nat))->Option (Option (Nat×List (Nat×Nat)))
 |none=>some none
 |some (f,l)=>(BC m l).map fun l'=>some (f,l')
@[go_sem] def SR (m:List (Nat×Nat)):Option (Nat×Nat)->Option (Option (Nat×Nat))
 |none=>some none
 |some (i,o)=>(wG m i).map fun j=>some (j,o)
@[go_sem] def a8z (m:List (Nat×Nat)):Option Nat->Option (Option Nat)
 |none=>some none
 |some i=>(wG m i).map some
@[go_sem] def a8A (m:List (Nat×Nat)):Option (Nat×Nat)->Option (Option (Nat×Nat))
 |none=>some none
 |some (k,n)=>(wG m k).map fun j=>some (j,n)
@[go_sem] def yO (m:List (Nat×Nat)):(t:Ty)->t.den->Option t.den
 | .ref,x=>SR m x
 | .clo,x=>a8y m x
 | .mp,x=>a8z m x
 | .pair a b,x=>IQ (if a.pure=true then some x.1 else yO m a x.1) (if b.pure=true then some x.2 else yO m b x.2)
 | .list t,x=>if t.pure=true then some x else none
 | .bool,x=>some x
 | .int _,x=>some x
 | .str,x=>some x
 | .unit,x=>some x
 | .rl _ _,x=>a8A m x
 | .fn,x=>some x
 | .mref,x=>SR m x
@[go_sem] def z7 (m:List (Nat×Nat)):pR->pR
 |(.own k n,_)=>aHo n (wG m k)
 |(.val .ref none,_)=>(.val .ref none,none)
 |(.val .ref (some p),_)=>refSlot (a8w m (some p))
 |(.val .clo (some (f,l)),_)=>cloSlot f (BC m l)
 |(.val .mp (some i),_)=>mpSlot (wG m i)
 |(.val t x,k)=>if t.pure then(.val t x,a8x m (F1 t k)) else valSlot t (yO m t x)
 |(.at t x,_)=>if t.pure then(.at t x,none) else(.any,none)
 |_=>(.any,none)
where
 refSlot:Option (Nat×Nat)->pR
  |some p=>(.val .ref (some p),none)
  |none=>(.any,none)
 cloSlot (f:Nat):Option (List (Nat×Nat))->pR
  |some l=>(.val .clo (some (f,l)),none)
  |none=>(.any,none)
 valSlot (t:Ty):Option t.den->pR
  |some y=>(.val t y,none)
  |none=>(.any,none)
 mpSlot:Option Nat->pR
  |some j=>(.val .mp (some j),none)
  |none=>(.any,none)
attribute [go_sem] z7.refSlot z7.cloSlot z7.mpSlot z7.valSlot
@[go_sem] def SS (q j:Nat):List (Nat×Nat)->List (Nat×Nat)
 |[]=>[(q,j)]
 |(a,b)::r=>if q<=a then(q,j)::(a,b)::r else(a,b)::SS q j r
@[go_sem] def J3 (m:List (Nat×Nat)):List (Nat×Nat)->List (Nat×Nat)
 |[]=>[]
 |(q,k)::r=>renTok1 q (wG m k) (J3 m r)
where
 renTok1 (q:Nat):Option Nat->List (Nat×Nat)->List (Nat×Nat)
  |some j,r=>SS q j r
  |none,r=>r
attribute [go_sem] J3.renTok1
@[go_sem] def Y5 (t:Ty) (toks:List (Nat×Nat)):Option t.den->pQ
 |some y=> .cells t y toks
 |none=> .dead
@[go_sem] def H5 (m:List (Nat×Nat)):Option pQ->pQ
 |some (.cells t x toks)=>if t.pure then .cells t x (J3 m toks) else Y5 t (J3 m toks) (yO m t x)
 |some (.grow e c n)=> .grow e c n
 |some (.row e t l n)=>if t.pure then .row e t l n else .dead
 |some (.map k v l)=>if k.pure&&v.pure then .map k v l else .dead
 |some (.iter s p)=> .iter s p
 |_=> .dead
@[go_sem] def OB (m:List (Nat×Nat)) (env:List (Nat×pR)):List Nat->List (Nat×pR)
 |[]=>[]
 |t::r=>(t,z7 m (lk env t))::OB m env r
@[go_sem] def ST (m:List (Nat×Nat)) (H:List (Nat×pQ)):List (Nat×Nat)->List (Nat×pQ)
 |[]=>[]
 |(n,o)::r=>(n,H5 m (pT H o))::ST m H r
@[go_sem] def SU:List (Nat×Nat)->Nat
 |[]=>0
 |(n,_)::r=>max (n+1) (SU r)
@[go_sem] def LD (n o:Nat):List (Nat×Nat)->Bool
 |[]=>false
 |(n',o')::r=>decide (n'=n)||decide (o'=o)||LD n o r
@[go_sem] def xE (np:Nat):List (Nat×Nat)->Bool
 |[]=>true
 |(n,o)::r=>(decide (np<=n)||decide (n=o))&& !LD n o r&&xE np r
@[go_sem] def OC (s:St) (k:vK):Bool->St
 |true=>⟨OB k.ids s.env k.slots,ST k.ids s.H k.ids,max s.np (SU k.ids),s.N,s.np⟩
 |false=>⟨[],[],s.nb,s.N,s.np⟩
@[go_sem] def St.keep (s:St) (k:vK):St:=OC s k (xE s.np k.ids)
@[go_sem] def rC:List Prop->Prop
 |[]=>True
 |[p]=>p
 |p::q::r=>p/\rC (q::r)
@[go_sem] def a8B (Q:Ex->St->Prop):Option vU->Prop
 |some a=>rC a.side/\Q .normal a.s
 |none=>False
@[go_sem] def a8C (A B:Prop):pR->Prop
 |(.val .bool x,_)=>(x=true->A)/\(x=false->B)
 |(.flag p q,_)=>(p->A)/\(q->B)
 |_=>False
@[go_sem] def OD (f:St->Prop) (Q:Ex->St->Prop):Ex->St->Prop
 | .normal,s=>f s
 | .exit j,s=>Q (.exit j) s
 | .ret,s=>Q .ret s
@[go_sem] def J4 (id:Nat) (Q:Ex->St->Prop):Ex->St->Prop
 | .normal,s=>Q .normal s
 | .exit j,s=>if j=id then Q .normal s else Q (.exit j) s
 | .ret,s=>Q .ret s
@[go_sem] def aHp (I:St->Prop) (μ:St->Nat) (m:Nat) (Q:Ex->St->Prop):Ex->St->Prop
 | .normal,s=> ∃k:vK,I (s.keep k)/\μ (s.keep k)<m
 | .exit j,s=>Q (.exit j) s
 | .ret,s=>Q .ret s
def vW (T:sG) (Γ:tW):Code->St->(Ex->St->Prop)->Prop
 | .skip,s,Q=>Q .normal s
 | .label _,s,Q=>Q .normal s
 | .region _ ops draw,s,Q=>a8B Q (OA T Γ ops s draw)
 | .seq a b,s,Q=>vW T Γ a s (OD (fun s'=>vW T Γ b s' Q) Q)
 | .cond c a b,s,Q=>a8C (vW T Γ a s Q) (vW T Γ b s Q) (tH s.env c)
 | .block id c,s,Q=>vW T Γ c s (J4 id Q)
 | .loop c,s,Q=> ∃(k:vK) (I:St->Prop) (μ:St->Nat),I (s.keep k)/\∀s,I s->vW T Γ c s (aHp I μ (μ s) Q)
 | .exit id,s,Q=>Q (.exit id) s
 | .ret,s,Q=>Q .ret s
 |_,_,_=>False
attribute [go_sem] Ty.list.injEq Ty.pair.injEq Ty.int.injEq
section
variable {T:sG}{Γ:tW}{s:St}{Q:Ex->St->Prop}
theorem aHq {id:Nat}{ops:Array Oper}{a:vU}(h:vV T Γ ops.toList ops.toList (some ⟨s,[],[]⟩)=some a) (hp:rC a.side) (hq:Q .normal a.s):vW T Γ (.region id ops false) s Q:=by
 unfold vW OA;rw[h];exact⟨hp,hq⟩
theorem aHr {id:Nat}{ops:Array Oper}{a:vU}(h:vV T Γ ops.toList ops.toList (some ⟨s,[],[]⟩)=some a) (hf:DR ops s.nb a.es.reverse=true) (hp:rC a.side) (hq:Q .normal a.s):vW T Γ (.region id ops true) s Q:=by
 unfold vW OA;rw[h];show a8B Q (if DR ops s.nb a.es.reverse=true then some a else none);rw[if_pos hf];exact⟨hp,hq⟩
end
end Go.Proofs.YtbbpilohihldiaaGreatDoor.Vc
namespace Go.Proofs.YtbbpilohihldiaaGreatDoor.Vc
open Go.RowKit
abbrev rO:=List (Nat×pQ)
structure Pl where
 b:Nat
 o:Nat
 k:Option (TypeId×Nat):=none
structure Gh where
 S:Nat->Nat->Prop
 J:Nat->Option Pl
 cur:Nat->Nat->Option Value
def xX {α:Type}(R:α->List Value->Prop) (w:World) (S:Nat->Nat->Prop) (c b:Nat):Nat->List α->Prop
 |_,[]=>True
 |o,x::xs=>(∃cs,cs.length=c/\w.rangeAt b o cs/\(∀j,j<c->S b (o+j))/\R x cs)/\xX R w S c b (o+c) xs
def xL (g:Gh):List (Nat×Nat)->List Value->Prop
 |[],vs=>vs=[]
 |(i,o)::l,vs=> ∃p vs',g.J i=some p/\vs= .pointer (some ⟨p.1,p.2+o,none⟩)::vs'/\xL g l vs'
def OE (g:Gh):Option (Nat×Nat)->List Value->Prop
 |none,cs=>cs=[.pointer none]
 |some (i,o),cs=> ∃p,g.J i=some p/\cs=[.pointer (some ⟨p.1,p.2+o,none⟩)]
def OF (g:Gh):Option (Nat×List (Nat×Nat))->List Value->Prop
 |none,cs=>cs=[.nilFunc]
 |some (f,l),cs=> ∃vs,xL g l vs/\cs=[.func (.func f) #[] vs.toArray]
def LE (g:Gh):Option Nat->List Value->Prop
 |none,cs=>cs=[.map none]
 |some i,cs=> ∃p,g.J i=some p/\cs=[.map (some p.1)]
def Y6 (k:Option (TypeId×Nat)) (o:Nat):Prop:=o=0/\∃e,X6 e=true/\k=some (e,2)
def BY (g:Gh):Option (Nat×Nat)->List Value->Prop
 |none,cs=>cs=[.slice none 0 0]
 |some (k,n),cs=> ∃v,g.cur k n=some v/\cs=[v]/\((v= .slice none 0 0/\n=0)\/∃b cap,v= .slice (some ⟨b,0,none⟩) n cap/\n<=cap)
def OG (g:Gh):Option (Nat×Nat)->List Value->Prop
 |none,cs=>cs=[.pointer none]
 |some (i,o),cs=> ∃p,g.J i=some p/\Y6 p.3 (p.2+o)/\(cs=[.pointer none]\/cs=[.pointer (some ⟨p.1,p.2+o,none⟩)])
def a8D:Option Nat->List Value->Prop
 |none,cs=>cs=[.nilFunc]
 |some f,cs=>cs=[.func (.func f) #[] #[]]
def Rd (g:Gh) (w:World):(t:Ty)->t.den->List Value->Prop
 | .bool,x,cs=>cs=[.bool x]
 | .int k,n,cs=>cs=[.int k n]
 | .str,l,cs=>cs=[.string ⟨List.toArray l⟩]
 | .list t,l,cs=> ∃a cap,cs=[.slice a (List.length l) cap]/\List.length l<=cap/\(l=[]\/∃b o,a=some ⟨b,o,none⟩/\xX (Rd g w t) w g.S t.cells b o l)
 | .unit,_,cs=>cs=[]
 | .pair s t,x,cs=> ∃c1 c2,cs=c1++c2/\Rd g w s x.1 c1/\Rd g w t x.2 c2
 | .ref,x,cs=>OE g x cs
 | .clo,x,cs=>OF g x cs
 | .mp,x,cs=>LE g x cs
 | .rl _ _,x,cs=>BY g x cs
 | .fn,x,cs=>a8D x cs
 | .mref,x,cs=>OG g x cs
def sO (g:Gh) (w:World) (t:Ty) (x:t.den) (v:Value):Prop:=
 (t.isRow=true/\∃cs:List Value,v= .agg cs.toArray/\Rd g w t x cs)\/(t.isRow=false/\Rd g w t x [v])
def xF:Ty->List Value->Prop
 | .list _,cs=>cs=[.slice none 0 0]
 | .pair a b,cs=> ∃c1 c2,cs=c1++c2/\c1.length=a.cells/\xF a c1/\xF b c2
 |_,_=>True
def BZ (g:Gh) (t:Ty) (x:t.den) (v:Value):Option Nat->Prop
 |none=>True
 |some k=>match t,x with
  | .list _,l=>g.cur k (List.length l)=some v
  | .pair a b,_=>xF (.pair a b) v.cells.toList
  |_,_=>False
def LF (g:Gh) (w:World):List ((Σ t:Ty,t.den)×Option Nat)->List Value->Prop
 |[],vs=>vs=[]
 |(⟨t,x⟩,k)::l,vs=> ∃v vs',vs=v::vs'/\sO g w t x v/\BZ g t x v k/\LF g w l vs'
def z8 (g:Gh) (w:World):DV->Value->Prop
 | .any,_=>True
 | .nilS,v=>v= .slice none 0 0
 | .val t x,v=>sO g w t x v
 | .at t x,v=> ∃b o cs,v= .pointer (some ⟨b,o,none⟩)/\w.rangeAt b o cs/\(∀j,j<t.cells->g.S b (o+j))/\Rd g w t x cs
 | .tup l,v=> ∃vs:List Value,v= .tuple vs.toArray/\LF g w l vs
 | .cond p d,v=>(p=true->z8 g w d v)/\(p=false->v=undef)
 | .flag p q,v=> ∃b,v= .bool b/\(b=true->p)/\(b=false->q)
 | .own k n,v=>g.cur k n=some v/\((v= .slice none 0 0/\n=0)\/∃b cap,v= .slice (some ⟨b,0,none⟩) n cap/\n<=cap)
 | .nxt b p c,v=>(b=true->v= .tuple #[.bool true,.int .i64 p,.int .i32 c])/\(b=false->v= .tuple #[.bool false])
 | .elt k n c i o,v=> ∃b cap,g.cur k n=some (.slice (some ⟨b,0,none⟩) n cap)/\0<=i/\i<(n:Int)/\v= .pointer (some ⟨b,i.toNat*c+o,none⟩)
def qV (g:Gh) (w:World) (s:pR) (v:Value):Prop:=
 z8 g w s.1 v/\match s with
  |(_,none)=>True
  |(.val t x,some k)=>BZ g t x v (some k)
  |(_,some _)=>False
structure Le (g:Gh) (w:World) (g':Gh) (w':World):Prop where
 S: ∀b o,g.S b o->g'.S b o
 cell: ∀b o,g.S b o->w'.cell? ⟨b,o,none⟩=w.cell? ⟨b,o,none⟩
 J: ∀i p,g.J i=some p->g'.J i=some p
 cur: ∀k n v,g.cur k n=some v->g'.cur k n=some v
theorem Le.refl (g:Gh) (w:World):Le g w g w:=⟨fun _ _ h=>h,fun _ _ _=>rfl,fun _ _ h=>h,fun _ _ _ h=>h⟩
theorem Le.trans {g g' g'':Gh}{w w' w'':World}(h:Le g w g' w') (k:Le g' w' g'' w''):Le g w g'' w'':=
 ⟨fun b o x=>k.S b o (h.S b o x),fun b o x=>(k.cell b o (h.S b o x)).trans (h.cell b o x),fun i p x=>k.J i p (h.J i p x),fun i n v x=>k.cur i n v (h.cur i n v x)⟩
theorem Y7 {g g':Gh}(hJ: ∀i p,g.J i=some p->g'.J i=some p): ∀{l:List (Nat×Nat)}{vs:List Value},xL g l vs->xL g' l vs
 |[],_,h=>h
 |(_,_)::_,_,⟨p,vs',h1,h2,h3⟩=>⟨p,vs',hJ _ _ h1,h2,Y7 hJ h3⟩
theorem aHs {g g':Gh}(hJ: ∀i p,g.J i=some p->g'.J i=some p): ∀{x:Option (Nat×Nat)}{cs:List Value},OE g x cs->OE g' x cs
 |none,_,h=>h
 |some (_,_),_,⟨p,h1,h2⟩=>⟨p,hJ _ _ h1,h2⟩
theorem aHt {g g':Gh}(hJ: ∀i p,g.J i=some p->g'.J i=some p): ∀{x:Option (Nat×List (Nat×Nat))}{cs:List Value},OF g x cs->OF g' x cs
 |none,_,h=>h
 |some (_,_),_,⟨vs,h1,h2⟩=>⟨vs,Y7 hJ h1,h2⟩
theorem aHu {g g':Gh}(hJ: ∀i p,g.J i=some p->g'.J i=some p): ∀{x:Option Nat}{cs:List Value},LE g x cs->LE g' x cs
 |none,_,h=>h
 |some _,_,⟨p,h1,h2⟩=>⟨p,hJ _ _ h1,h2⟩
theorem aHv {g g':Gh}(hc: ∀k n v,g.cur k n=some v->g'.cur k n=some v): ∀{x:Option (Nat×Nat)}{cs:List Value},BY g x cs->BY g' x cs
 |none,_,h=>h
 |some (_,_),_,⟨v,h1,h2⟩=>⟨v,hc _ _ _ h1,h2⟩
theorem aHw {g g':Gh}(hJ: ∀i p,g.J i=some p->g'.J i=some p): ∀{x:Option (Nat×Nat)}{cs:List Value},OG g x cs->OG g' x cs
 |none,_,h=>h
 |some (_,_),_,⟨p,h1,h2⟩=>⟨p,hJ _ _ h1,h2⟩
theorem Y8 {α:Type}{R R':α->List Value->Prop}{w w':World}{S S':Nat->Nat->Prop}{c b:Nat}(hR: ∀x cs,R x cs->R' x cs) (hS: ∀o,S b o->S' b o)
  (hc: ∀o,S b o->w'.cell? ⟨b,o,none⟩=w.cell? ⟨b,o,none⟩): ∀{l:List α}{o:Nat},xX R w S c b o l->xX R' w' S' c b o l
 |[],_,_=>trivial
 |_::_,o,⟨⟨cs,h1,h2,h3,h4⟩,h5⟩=>⟨⟨cs,h1,fun j v hv=>by
   have hj:j<c:=h1▸(aRu.1 hv).1;rw[hc _ (h3 j hj)];exact h2 j v hv,fun j hj=>hS _ (h3 j hj),hR _ _ h4⟩,Y8 hR hS hc h5⟩
theorem vZ {g g':Gh}{w w':World}(h:Le g w g' w'): ∀{t:Ty}{x:t.den}{cs:List Value},Rd g w t x cs->Rd g' w' t x cs
 | .bool,_,_,r=>r
 | .int _,_,_,r=>r
 | .str,_,_,r=>r
 | .unit,_,_,r=>r
 | .ref,_,_,r=>aHs h.J r
 | .clo,_,_,r=>aHt h.J r
 | .mp,_,_,r=>aHu h.J r
 | .rl _ _,_,_,r=>aHv h.cur r
 | .fn,_,_,r=>r
 | .mref,_,_,r=>aHw h.J r
 | .pair _ _,_,_,⟨c1,c2,e,r1,r2⟩=>⟨c1,c2,e,vZ h r1,vZ h r2⟩
 | .list _,_,_,⟨a,cap,e,hle,hl⟩=>⟨a,cap,e,hle,hl.imp id fun⟨b,o,ea,hr⟩=>⟨b,o,ea,Y8 (fun _ _=>vZ h) (fun _=>h.S _ _) (fun _=>h.cell _ _) hr⟩⟩
theorem sH {g:Gh}{w:World}: ∀{t:Ty}{x:t.den}{cs:List Value},Rd g w t x cs->cs.length=t.cells
 | .bool,_,_,r=>by cases r;rfl
 | .int _,_,_,r=>by cases r;rfl
 | .str,_,_,r=>by cases r;rfl
 | .unit,_,_,r=>by cases r;rfl
 | .ref,none,_,r=>by cases r;rfl
 | .ref,some (_,_),_,⟨_,_,e⟩=>by cases e;rfl
 | .clo,none,_,r=>by cases r;rfl
 | .clo,some (_,_),_,⟨_,_,e⟩=>by cases e;rfl
 | .mp,none,_,r=>by cases r;rfl
 | .mp,some _,_,⟨_,_,e⟩=>by cases e;rfl
 | .fn,none,_,r=>by cases r;rfl
 | .fn,some _,_,r=>by cases r;rfl
 | .rl _ _,none,_,r=>by cases r;rfl
 | .rl _ _,some (_,_),_,⟨_,_,e,_⟩=>by cases e;rfl
 | .mref,none,_,r=>by cases r;rfl
 | .mref,some (_,_),_,⟨_,_,_,e⟩=>by rcases e with e|e<;>(cases e;rfl)
 | .pair _ _,_,_,⟨c1,c2,e,r1,r2⟩=>by rw[e,aRh,sH r1,sH r2];rfl
 | .list _,_,_,⟨_,_,e,_,_⟩=>by cases e;rfl
theorem SV {g g':Gh}{w w':World}(h:Le g w g' w') {t:Ty}{x:t.den}{v:Value}(r:sO g w t x v):sO g' w' t x v:=
 r.imp (fun⟨a,cs,e,q⟩=>⟨a,cs,e,vZ h q⟩) (fun⟨a,q⟩=>⟨a,vZ h q⟩)
theorem a8E {g g':Gh}{w w':World}(h:Le g w g' w') {t:Ty}{x:t.den}{v:Value}{k:Option Nat}(r:BZ g t x v k):BZ g' t x v k:=by
 cases k with
 |none=>trivial
 |some k=>
  cases t with
  |list u=>exact h.cur _ _ _ r
  |pair a b=>exact r
  |_=>exact r.elim
theorem a8F {g g':Gh}{w w':World}(h:Le g w g' w'): ∀{l:List ((Σ t:Ty,t.den)×Option Nat)}{vs:List Value},LF g w l vs->LF g' w' l vs
 |[],_,r=>r
 |(⟨_,_⟩,_)::_,_,⟨v,vs',e,r1,r2,r3⟩=>⟨v,vs',e,SV h r1,a8E h r2,a8F h r3⟩
theorem a8G {g g':Gh}{w w':World}(h:Le g w g' w'): ∀{d:DV}{v:Value},z8 g w d v->z8 g' w' d v
 | .any,_,r=>r
 | .nilS,_,r=>r
 | .val _ _,_,r=>SV h r
 | .at t _,_,⟨b,o,cs,e,h1,h2,h3⟩=>⟨b,o,cs,e,fun j v hv=>by
   by_cases hj:j<t.cells
   ·rw[h.cell _ _ (h2 j hj)];exact h1 j v hv
   ·exact absurd (aRu.1 hv).1 (by rw[sH h3];exact hj),fun j hj=>h.S _ _ (h2 j hj),vZ h h3⟩
 | .tup _,_,⟨vs,e,r⟩=>⟨vs,e,a8F h r⟩
 | .cond _ _,_,⟨r1,r2⟩=>⟨fun p=>a8G h (r1 p),r2⟩
 | .flag _ _,_,r=>r
 | .own _ _,_,⟨h1,h2⟩=>⟨h.cur _ _ _ h1,h2⟩
 | .nxt _ _ _,_,r=>r
 | .elt _ _ _ _ _,_,⟨b,cap,h1,h2⟩=>⟨b,cap,h.cur _ _ _ h1,h2⟩
theorem AC {g g':Gh}{w w':World}(h:Le g w g' w') {s:pR}{v:Value}(r:qV g w s v):qV g' w' s v:=by
 obtain⟨d,k⟩:=s;refine⟨a8G h r.1,?_⟩;have r2:=r.2;cases k with
 |none=>trivial
 |some k=>
  cases d with
  |val t x=>exact a8E h r2
  |_=>exact r2.elim
theorem zV {g:Gh}{w:World}: ∀{t:Ty}{x:t.den}{cs:List Value},Rd g w t x cs->∀v∈cs,v.oneCell'=true
 | .bool,_,_,r=>by cases r;intro v hv;simp at hv;subst hv;rfl
 | .int _,_,_,r=>by cases r;intro v hv;simp at hv;subst hv;rfl
 | .str,_,_,r=>by cases r;intro v hv;simp at hv;subst hv;rfl
 | .unit,_,_,r=>by cases r;intro v hv;simp at hv
 | .ref,none,_,r=>by cases r;intro v hv;simp at hv;subst hv;rfl
 | .ref,some (_,_),_,⟨_,_,e⟩=>by cases e;intro v hv;simp at hv;subst hv;rfl
 | .clo,none,_,r=>by cases r;intro v hv;simp at hv;subst hv;rfl
 | .clo,some (_,_),_,⟨_,_,e⟩=>by cases e;intro v hv;simp at hv;subst hv;rfl
 | .mp,none,_,r=>by cases r;intro v hv;simp at hv;subst hv;rfl
 | .mp,some _,_,⟨_,_,e⟩=>by cases e;intro v hv;simp at hv;subst hv;rfl
 | .fn,none,_,r=>by cases r;intro v hv;simp at hv;subst hv;rfl
 | .fn,some _,_,r=>by cases r;intro v hv;simp at hv;subst hv;rfl
 | .rl _ _,none,_,r=>by cases r;intro v hv;simp at hv;subst hv;rfl
 | .rl _ _,some (_,_),_,⟨_,_,e,hs⟩=>by
  cases e;intro v hv;simp at hv;subst hv;rcases hs with⟨rfl,_⟩ |⟨_,_,rfl,_⟩<;>rfl
 | .mref,none,_,r=>by cases r;intro v hv;simp at hv;subst hv;rfl
 | .mref,some (_,_),_,⟨_,_,_,e⟩=>by rcases e with e|e<;>(cases e;intro v hv;simp at hv;subst hv;rfl)
 | .pair _ _,_,_,⟨c1,c2,e,r1,r2⟩=>by
  subst e;intro v hv;rcases aRO.1 hv with h|h
  ·exact zV r1 v h
  ·exact zV r2 v h
 | .list _,_,_,⟨_,_,e,_,_⟩=>by cases e;intro v hv;simp at hv;subst hv;rfl
theorem vH {g g':Gh}{w:World}(hS:g'.S=g.S): ∀{t:Ty}{x:t.den}{cs:List Value},t.pure=true->Rd g w t x cs->Rd g' w t x cs
 | .bool,_,_,_,r=>r
 | .int _,_,_,_,r=>r
 | .str,_,_,_,r=>r
 | .unit,_,_,_,r=>r
 | .ref,_,_,h,_=>by simp [Ty.pure] at h
 | .clo,_,_,h,_=>by simp [Ty.pure] at h
 | .mp,_,_,h,_=>by simp [Ty.pure] at h
 | .rl _ _,_,_,h,_=>by simp [Ty.pure] at h
 | .fn,_,_,_,r=>r
 | .mref,_,_,h,_=>by simp [Ty.pure] at h
 | .pair _ _,_,_,h,⟨c1,c2,e,r1,r2⟩=>by
  simp only[Ty.pure,aRm] at h;exact⟨c1,c2,e,vH hS h.1 r1,vH hS h.2 r2⟩
 | .list _,_,_,h,⟨a,cap,e,hle,hl⟩=>by
  simp only[Ty.pure] at h;exact⟨a,cap,e,hle,hl.imp id fun⟨b,o,ea,hr⟩=>⟨b,o,ea,Y8 (fun _ _ r=>vH hS h r) (fun _ q=>by rw[hS];exact q) (fun _ _=>rfl) hr⟩⟩
def CQ (g:Gh) (w:World) (k v:Ty):List (k.den×v.den)->List MapEntry->Prop
 |[],es=>es=[]
 |(a,b)::l,es=> ∃e es',es=e::es'/\sO g w k a e.key/\sO g w v b e.val/\CQ g w k v l es'
theorem Y9 {g g':Gh}{w w':World}(h:Le g w g' w') {k v:Ty}: ∀{l:List (k.den×v.den)}{es:List MapEntry},CQ g w k v l es->CQ g' w' k v l es
 |[],_,r=>r
 |_::_,_,⟨e,es',h1,h2,h3,h4⟩=>⟨e,es',h1,SV h h2,SV h h3,Y9 h h4⟩
theorem a8H {g g':Gh}{w:World}(hS:g'.S=g.S) {t:Ty}{x:t.den}{v:Value}(hp:t.pure=true) (r:sO g w t x v):sO g' w t x v:=
 r.imp (fun⟨a,cs,e,q⟩=>⟨a,cs,e,vH hS hp q⟩) (fun⟨a,q⟩=>⟨a,vH hS hp q⟩)
theorem OH {g g':Gh}{w:World}(hS:g'.S=g.S) {k v:Ty}(hk:k.pure=true) (hv:v.pure=true): ∀{l:List (k.den×v.den)}{es:List MapEntry},CQ g w k v l es->CQ g' w k v l es
 |[],_,r=>r
 |_::_,_,⟨e,es',h1,h2,h3,h4⟩=>⟨e,es',h1,a8H hS hk h2,a8H hS hv h3,OH hS hk hv h4⟩
def sS {α:Type}(R:α->List Value->Prop) (c:Nat):List α->List Value->Prop
 |[],cs=>cs=[]
 |x::xs,cs=> ∃c1 c2,cs=c1++c2/\c1.length=c/\R x c1/\sS R c xs c2
theorem H6 {α:Type}{R:α->List Value->Prop}{c:Nat}: ∀{l:List α}{cs:List Value},sS R c l cs->cs.length=l.length*c
 |[],_,h=>by rw[h];simp
 |_::l,_,⟨c1,c2,e,h1,_,h3⟩=>by rw[e,aRh,h1,H6 h3,aRj,aSr];omega
theorem OI {α:Type}{R:α->List Value->Prop}{c:Nat}: ∀{l m:List α}{cs ds:List Value},sS R c l cs->sS R c m ds->sS R c (l++m) (cs++ds)
 |[],_,_,_,h,k=>by rw[h];exact k
 |_::_,_,_,_,⟨c1,c2,e,h1,h2,h3⟩,k=>⟨c1,c2++_,by rw[e,aRo],h1,h2,OI h3 k⟩
theorem BD {α:Type}{R R':α->List Value->Prop}{c:Nat}(hR: ∀x cs,R x cs->R' x cs): ∀{l:List α}{cs:List Value},sS R c l cs->sS R' c l cs
 |[],_,h=>h
 |_::_,_,⟨c1,c2,e,h1,h2,h3⟩=>⟨c1,c2,e,h1,hR _ _ h2,BD hR h3⟩
theorem CR {g:Gh}{w:World}{u:Ty}: ∀{t:Ty}{x:t.den}{cs:List Value}{o:Nat}{y:u.den},Rd g w t x cs->qO u t x o=some y->
  ∃c1 c2 c3,cs=c1++c2++c3/\c1.length=o/\Rd g w u y c2:=by
 intro t
 induction t with
 |pair a b iha ihb=>
  intro x cs o y r h;obtain⟨c1,c2,e,r1,r2⟩:=r;have key: ∀o,(if o<a.cells then qO u a x.1 o else qO u b x.2 (o-a.cells))=some y->∃d1 d2 d3,cs=d1++d2++d3/\d1.length=o/\Rd g w u y d2:=by
   intro o h;by_cases ho:o<a.cells
   ·rw[if_pos ho] at h;obtain⟨d1,d2,d3,e',hl,hr⟩:=iha r1 h;exact⟨d1,d2,d3++c2,by rw[e,e'];simp,hl,hr⟩
   ·rw[if_neg ho] at h;obtain⟨d1,d2,d3,e',hl,hr⟩:=ihb r2 h;refine⟨c1++d1,d2,d3,by rw[e,e'];simp,?_,hr⟩;rw[aRh,hl,sH r1];omega
  cases o with
  |zero=>
   unfold qO at h;by_cases hu:Ty.pair a b=u
   ·rw[aTt hu] at h;subst hu;simp only[tV,aRg] at h;subst h;exact⟨[],cs,[],by simp,rfl,⟨c1,c2,e,r1,r2⟩⟩
   ·rw[aS4 hu] at h;refine key 0 ?_;simpa using h
  |succ o=>exact key (o+1) (by simpa[qO] using h)
 |_=>
  intro x cs o y r h;cases o with
  |zero=>
   unfold qO at h;split at h
   ·rename_i hu;subst hu;simp only[tV,aRg] at h
    try subst h
    exact⟨[],cs,[],by simp,rfl,r⟩
   ·simp at h
  |succ o=>simp [qO] at h
theorem SW {g:Gh}{w:World}{u:Ty}{y:u.den}{cy:List Value}(hy:Rd g w u y cy): ∀{t:Ty}{x z:t.den}{cs:List Value}{o:Nat},Rd g w t x cs->sF u y t x o=some z->
  ∃c1 c2 c3,cs=c1++c2++c3/\c1.length=o/\c2.length=u.cells/\Rd g w t z (c1++cy++c3):=by
 intro t
 induction t with
 |pair a b iha ihb=>
  intro x z cs o r h;obtain⟨c1,c2,e,r1,r2⟩:=r;have key: ∀o,(if o<a.cells then(sF u y a x.1 o).map (fun q=>(q,x.2)) else(sF u y b x.2 (o-a.cells)).map (fun q=>(x.1,q)))=some z->
    ∃d1 d2 d3,cs=d1++d2++d3/\d1.length=o/\d2.length=u.cells/\Rd g w (.pair a b) z (d1++cy++d3):=by
   intro o h;by_cases ho:o<a.cells
   ·rw[if_pos ho] at h;obtain⟨q,hq,rfl⟩:=aRx.1 h;obtain⟨d1,d2,d3,e',hl,hl2,hr⟩:=iha r1 hq;exact⟨d1,d2,d3++c2,by rw[e,e'];simp,hl,hl2,⟨d1++cy++d3,c2,by simp,hr,r2⟩⟩
   ·rw[if_neg ho] at h;obtain⟨q,hq,rfl⟩:=aRx.1 h;obtain⟨d1,d2,d3,e',hl,hl2,hr⟩:=ihb r2 hq;refine⟨c1++d1,d2,d3,by rw[e,e'];simp,?_,hl2,⟨c1,d1++cy++d3,by simp,r1,hr⟩⟩;rw[aRh,hl,sH r1];omega
  cases o with
  |zero=>
   unfold sF at h;by_cases hu:u=Ty.pair a b
   ·rw[aTt hu] at h;subst hu;simp only[tV,aRg] at h;subst h;exact⟨[],cs,[],by simp,rfl,sH (t:= .pair a b) (x:=x) ⟨c1,c2,e,r1,r2⟩,by simpa using hy⟩
   ·rw[aS4 hu] at h;refine key 0 ?_;simpa using h
  |succ o=>exact key (o+1) (by simpa[sF] using h)
 |_=>
  intro x z cs o r h;cases o with
  |zero=>
   unfold sF at h;split at h
   ·rename_i hu;subst hu;simp only[tV,aRg] at h
    try subst h
    exact⟨[],cs,[],by simp,rfl,sH r,by simpa using hy⟩
   ·simp at h
  |succ o=>simp [sF] at h
theorem aHx {e:Nat}{u:Ty}{kn:Option (Nat×Nat)}: ∀{t:Ty}{x:t.den}{o:Nat}{q: Σ t:Ty,t.den},xK e u kn t x o=some q->q.1.cells=t.cells:=by
 intro t
 induction t with
 |pair a b iha ihb=>
  intro x o q h;unfold xK at h;split at h
  ·cases hq:xK e u kn a x.1 o with
   |none=>rw[hq] at h;cases h
   |some r=>
    obtain⟨a',x'⟩:=r;rw[hq] at h;simp only[XK,aRg] at h;subst h;have:=iha hq;simp only[Ty.cells] at this⊢;omega
  ·cases hq:xK e u kn b x.2 (o-a.cells) with
   |none=>rw[hq] at h;cases h
   |some r=>
    obtain⟨b',y'⟩:=r;rw[hq] at h;simp only[XL,aRg] at h;subst h;have:=ihb hq;simp only[Ty.cells] at this⊢;omega
 |list v=>
  intro x o q h;cases o with
  |zero=>
   simp only[xK] at h;split at h
   ·simp only[aRg] at h;subst h;rfl
   ·cases h
  |succ o=>simp [xK] at h
 |_=>intro x o q h;cases o<;>simp [xK] at h
theorem aHy {g:Gh}{w:World}{e:Nat}{u:Ty}{kn:Option (Nat×Nat)}{cy:List Value}(hy:BY g kn cy): ∀{t:Ty}{x:t.den}{cs:List Value}{o:Nat}{q: Σ t:Ty,t.den},Rd g w t x cs->xK e u kn t x o=some q->
  ∃c1 c2 c3,cs=c1++c2++c3/\c1.length=o/\c2.length=1/\Rd g w q.1 q.2 (c1++cy++c3):=by
 intro t
 induction t with
 |pair a b iha ihb=>
  intro x cs o q r h;obtain⟨c1,c2,e1,r1,r2⟩:=r;unfold xK at h;split at h
  ·cases hq:xK e u kn a x.1 o with
   |none=>rw[hq] at h;cases h
   |some z=>
    obtain⟨a',x'⟩:=z;rw[hq] at h;simp only[XK,aRg] at h;subst h;obtain⟨d1,d2,d3,e',hl,hl2,hr⟩:=iha r1 hq;exact⟨d1,d2,d3++c2,by rw[e1,e'];simp,hl,hl2,⟨d1++cy++d3,c2,by simp,hr,r2⟩⟩
  ·cases hq:xK e u kn b x.2 (o-a.cells) with
   |none=>rw[hq] at h;cases h
   |some z=>
    obtain⟨b',y'⟩:=z;rw[hq] at h;simp only[XL,aRg] at h;subst h;obtain⟨d1,d2,d3,e',hl,hl2,hr⟩:=ihb r2 hq;refine⟨c1++d1,d2,d3,by rw[e1,e'];simp,?_,hl2,⟨c1,d1++cy++d3,by simp,r1,hr⟩⟩;rw[aRh,hl,sH r1];omega
 |list v=>
  intro x cs o q r h;cases o with
  |zero=>
   simp only[xK] at h;split at h
   ·simp only[aRg] at h;subst h;exact⟨[],cs,[],by simp,rfl,sH r,by rw[List.nil_append,List.append_nil];exact hy⟩
   ·cases h
  |succ o=>simp [xK] at h
 |_=>intro x cs o q r h;cases o<;>simp [xK] at h
def FA (g:Gh) (t:Ty) (x:t.den) (cs:List Value) (toks:List (Nat×Nat)):Prop:=
 ∀o k,(o,k)∈toks->∃(u:Ty) (l:List u.den) (v:Value),qO (.list u) t x o=some l/\cs[o]? =some v/\g.cur k l.length=some v
def aHz (w:World) (p:Pl) (n:Nat):Prop:=w.there p.1 p.2 n/\(0<n->∀s,p.3=some s->w.shape? p.1=some s)
theorem CS {w:World}{b:Nat}{s:TypeId×Nat}(h:w.shape? b=some s):b<w.heap.size:=by
 unfold World.shape? at h;cases hb:w.heap[b]? with
 |none=>rw[hb] at h;cases h
 |some x=>exact(aRE.1 hb).1
theorem CT {w w':World}{b:Nat}(h:w'.heap[b]? =w.heap[b]?):w'.shape? b=w.shape? b:=by
 unfold World.shape?;rw[h]
def zA (g:Gh) (w:World) (i:Nat):pQ->Prop
 | .cells t x toks=> ∃p cs,g.J i=some p/\Rd g w t x cs/\w.rangeAt p.1 p.2 cs/\aHz w p t.cells/\(∀j,j<t.cells->¬g.S p.1 (p.2+j))/\FA g t x cs toks
 | .grow e c n=> ∃v xs,g.cur i n=some v/\w.ownsRow 0 e c v n xs/\(∀m,n<m->g.cur i m=none)/\∀b,v.ownBlock=some b->∀o,g.S b o->o<n*c
 | .row e t l n=>l.length=n/\∃v xs,g.cur i n=some v/\w.ownsRow 0 e t.cells v n xs/\sS (Rd g w t) t.cells l xs/\(∀m,n<m->g.cur i m=none)/\∀b,v.ownBlock=some b->∀o,¬g.S b o
 | .map k v l=> ∃p es clock,g.J i=some p/\p.2=0/\w.heap[p.1]? =some (.map es clock)/\CQ g w k v l es.toList/\∀o,¬g.S p.1 o
 | .iter s n=> ∃p,g.J i=some p/\p.2=0/\w.heap[p.1]? =some (.stringIter ⟨s.toArray⟩ n)/\∀o,¬g.S p.1 o
 | .dead=>True
def rP (g:Gh) (i:Nat):pQ->Nat->Nat->Prop
 | .cells t _ _,b,o=> ∃p,g.J i=some p/\b=p.1/\p.2<=o/\o<p.2+t.cells
 | .grow _ _ n,b,_=> ∃v,g.cur i n=some v/\v.ownBlock=some b
 | .row _ _ _ n,b,_=> ∃v,g.cur i n=some v/\v.ownBlock=some b
 | .map _ _ _,b,_=> ∃p,g.J i=some p/\b=p.1
 | .iter _ _,b,_=> ∃p,g.J i=some p/\b=p.1
 | .dead,_,_=>False
structure rZ (g:Gh) (w:World) (H:rO):Prop where
 blk: ∀i b,pT H i=some b->zA g w i b
 dis: ∀i j bi bj b o,i≠j->pT H i=some bi->pT H j=some bj->rP g i bi b o->rP g j bj b o->False
 sl: ∀b o,g.S b o->b<w.heap.size
 tab:IK w/\∀i blk b o,pT H i=some blk->rP g i blk b o->NG<=b
def sJ (g:Gh) (H:rO) (ids:List Nat) (b o:Nat):Prop:= ∃i blk,i∈ids/\pT H i=some blk/\rP g i blk b o
structure Fr (A:Nat->Nat->Prop) (w w':World) (S S':Nat->Nat->Prop):Prop where
 os:w'.os=w.os
 tape:w'.tape=w.tape
 output:w'.output=w.output
 size:w.heap.size<=w'.heap.size
 blk: ∀b,b<w.heap.size->(∀o,¬A b o)->w'.heap[b]? =w.heap[b]?
 cell: ∀b o,b<w.heap.size->¬A b o->w'.cell? ⟨b,o,none⟩=w.cell? ⟨b,o,none⟩/\w'.frozen? ⟨b,o,none⟩=w.frozen? ⟨b,o,none⟩
 new: ∀b o,S' b o->S b o\/w.heap.size<=b\/A b o
 shape: ∀b s,w.shape? b=some s->w'.shape? b=some s\/∀o,A b o
theorem Fr.refl (A:Nat->Nat->Prop) (w:World) (S:Nat->Nat->Prop):Fr A w w S S:=
 ⟨rfl,rfl,rfl,Nat.le_refl _,fun _ _ _=>rfl,fun _ _ _ _=>⟨rfl,rfl⟩,fun _ _ h=> .inl h,fun _ _ h=> .inl h⟩
theorem Fr.trans {A B:Nat->Nat->Prop}{w w' w'':World}{S S' S'':Nat->Nat->Prop}(h:Fr A w w' S S') (k:Fr B w' w'' S' S'') (hB: ∀b o,B b o->w.heap.size<=b\/A b o):Fr A w w'' S S'':=by
 refine⟨k.os.trans h.os,k.tape.trans h.tape,k.output.trans h.output,aSe h.size k.size,fun b hb hA=> ?_,fun b o hb hA=> ?_,fun b o hs=> ?_,fun b s hs=> ?_⟩
 ·refine(k.blk b (aRX hb h.size) fun o ho=> ?_).trans (h.blk b hb hA);rcases hB b o ho with h1|h1
  ·omega
  ·exact hA o h1
 ·have h1:=h.cell b o hb hA;have h2:=k.cell b o (aRX hb h.size) (fun ho=>by
   rcases hB b o ho with h1|h1
   ·omega
   ·exact hA h1)
  exact⟨h2.1.trans h1.1,h2.2.trans h1.2⟩
 ·rcases k.new b o hs with h1|h1|h1
  ·exact h.new b o h1
  ·exact .inr (.inl (aSe h.size h1))
  ·exact .inr (hB b o h1)
 ·rcases h.shape b s hs with h1|h1
  ·rcases k.shape b s h1 with h2|h2
   ·exact .inl h2
   ·refine .inr fun o=>(hB b o (h2 o)).resolve_left ?_;have:=CS hs;omega
  ·exact .inr h1
structure rS (g:Gh) (w:World) (H:rO) (e:pY) (g':Gh) (w':World) (v:Value):Prop where
 le:Le g w g' w'
 slot:qV g' w' e.slot v
 heap:rZ g' w' (qG e.upd H)
 fr:Fr (sJ g H (pU e.upd)) w w' g.S g'.S
 perm: ∀i blk b o,i∈pU e.upd->pT (qG e.upd H) i=some blk->rP g' i blk b o->w.heap.size<=b\/sJ g H (pU e.upd) b o
 gho: ∀i,i∉pU e.upd->g'.J i=g.J i/\g'.cur i=g.cur i
 ty: ∀i u y us,pT (qG e.upd H) i=some (.cells u y us)->(∃x ts,pT H i=some (.cells u x ts))\/(g.J i=none/\∀n,g.cur i n=none)
structure zB (g:Gh) (w:World) (H:rO) (e:pY) (g':Gh) (w':World) (v:Value):Prop where
 le:Le g w g' w'
 slot:qV g' w' e.slot v
 heap:rZ g' w' (qG e.upd H)
 fr:Fr (sJ g H (pU e.upd)) w w' g.S g'.S
 perm: ∀i blk b o,i∈pU e.upd->pT (qG e.upd H) i=some blk->rP g' i blk b o->w.heap.size<=b\/sJ g H (pU e.upd) b o
 gho: ∀i,i∉pU e.upd->g'.J i=g.J i/\g'.cur i=g.cur i
 ty:GS e.rds=false->∀i u y us,pT (qG e.upd H) i=some (.cells u y us)->(∃x ts,pT H i=some (.cells u x ts))\/(g.J i=none/\∀n,g.cur i n=none)
theorem rS.w {g:Gh}{w:World}{H:rO}{e:pY}{g':Gh}{w':World}{v:Value}(h:rS g w H e g' w' v):zB g w H e g' w' v:=⟨h.le,h.slot,h.heap,h.fr,h.perm,h.gho,fun _=>h.ty⟩
theorem LG {w:World}{B:Nat}{e:TypeId}{c n:Nat}{v:Value}{xs:List Value}(h:w.ownsRow B e c v n xs) {b:Nat}(hb:v.ownBlock=some b):b<w.heap.size:=(h.lt b hb).2
theorem SX {w:World}{b o:Nat}{v:Value}(h:w.cell? ⟨b,o,none⟩=some v):b<w.heap.size:=by
 have:=World.block_lt_of_cell? w ⟨b,o,none⟩ h;exact this
theorem OJ {g:Gh}{w:World}{i:Nat}{blk:pQ}(h:zA g w i blk) {b o:Nat}(ho:rP g i blk b o):b<w.heap.size:=by
 cases blk with
 |cells t x toks=>
  obtain⟨p,cs,hp,_,_,ht,_⟩:=h;obtain⟨q,hq,rfl,h1,h2⟩:=ho;rw[hp] at hq;obtain rfl:=aRl hq;have:=(ht.1 (o-p.2) (by omega)).1;obtain⟨v,hv⟩:=aRi.1 this;exact SX hv
 |grow e c n=>
  obtain⟨v,xs,hv,hr,_⟩:=h;obtain⟨v',hv',hb⟩:=ho;rw[hv] at hv';obtain rfl:=aRl hv';exact LG hr hb
 |row e t l n=>
  obtain⟨_,v,xs,hv,hr,_⟩:=h;obtain⟨v',hv',hb⟩:=ho;rw[hv] at hv';obtain rfl:=aRl hv';exact LG hr hb
 |map k v l=>
  obtain⟨p,es,cl,hp,_,hh,_,_⟩:=h;obtain⟨q,hq,rfl⟩:=ho;rw[hp] at hq;obtain rfl:=aRl hq;exact(aRE.1 hh).1
 |iter s n=>
  obtain⟨p,hp,_,hh,_⟩:=h;obtain⟨q,hq,rfl⟩:=ho;rw[hp] at hq;obtain rfl:=aRl hq;exact(aRE.1 hh).1
 |dead=>exact ho.elim
theorem a8I {g g':Gh}(hc: ∀k n v,g.cur k n=some v->g'.cur k n=some v) {t:Ty}{x:t.den}{cs:List Value}{toks:List (Nat×Nat)}(h:FA g t x cs toks):FA g' t x cs toks:=
 fun o k hm=>let ⟨u,l,v,h1,h2,h3⟩:=h o k hm;⟨u,l,v,h1,h2,hc _ _ _ h3⟩
theorem J5 {g g':Gh}{w w':World}{i:Nat}{blk:pQ}(h:zA g w i blk) (le:Le g w g' w') (hJ:g'.J i=g.J i) (hcur:g'.cur i=g.cur i)
  (hc: ∀b o,rP g i blk b o->w'.cell? ⟨b,o,none⟩=w.cell? ⟨b,o,none⟩/\w'.frozen? ⟨b,o,none⟩=w.frozen? ⟨b,o,none⟩)
  (hb: ∀b,(∀o,rP g i blk b o)->w'.heap[b]? =w.heap[b]?) (hS: ∀b o,rP g i blk b o->g'.S b o->g.S b o) (hsh: ∀b o s,rP g i blk b o->w.shape? b=some s->w'.shape? b=some s):zA g' w' i blk:=by
 cases blk with
 |cells t x toks=>
  obtain⟨p,cs,hp,hr,hra,ht,hs,htk⟩:=h;have ho: ∀j,j<t.cells->rP g i (.cells t x toks) p.1 (p.2+j):=fun j hj=>⟨p,hp,rfl,by omega,by omega⟩;refine⟨p,cs,hJ.trans hp,vZ le hr,fun j v hv=> ?_,⟨fun j hj=> ?_,fun h0 s hs3=>hsh _ _ _ (ho 0 h0) (ht.2 h0 s hs3)⟩,fun j hj hs'=>hs j hj (hS _ _ (ho j hj) hs'),a8I le.cur htk⟩
  ·have hj:j<t.cells:=sH hr▸(aRu.1 hv).1;rw[(hc _ _ (ho j hj)).1];exact hra j v hv
  ·rw[(hc _ _ (ho j hj)).1,(hc _ _ (ho j hj)).2];exact ht.1 j hj
 |grow e c n=>
  obtain⟨v,xs,hv,hr,hn,hs⟩:=h;have hbl: ∀b,v.ownBlock=some b->∀o,rP g i (.grow e c n) b o:=fun b hb o=>⟨v,hv,hb⟩;refine⟨v,xs,by rw[hcur];exact hv,⟨hr.1,?_⟩,fun m hm=>by rw[hcur];exact hn m hm,fun b hvb o hs'=>hs b hvb o (hS _ _ (hbl b hvb o) hs')⟩;rcases hr.2 with h0|⟨q,cap,cur,e1,e2,e3,e4⟩
  ·exact .inl h0
  ·subst e1;exact .inr ⟨q,cap,cur,rfl,e2,by rw[hb q (hbl q rfl)];exact e3,e4⟩
 |row e t l n=>
  obtain⟨hl,v,xs,hv,hr,hF,hn,hs⟩:=h;have hbl: ∀b,v.ownBlock=some b->∀o,rP g i (.row e t l n) b o:=fun b hb o=>⟨v,hv,hb⟩;refine⟨hl,v,xs,by rw[hcur];exact hv,⟨hr.1,?_⟩,BD (fun _ _ h=>vZ le h) hF,fun m hm=>by rw[hcur];exact hn m hm,fun b hvb o hs'=>hs b hvb o (hS _ _ (hbl b hvb o) hs')⟩;rcases hr.2 with h0|⟨q,cap,cur,e1,e2,e3,e4⟩
  ·exact .inl h0
  ·subst e1;exact .inr ⟨q,cap,cur,rfl,e2,by rw[hb q (hbl q rfl)];exact e3,e4⟩
 |map k v l=>
  obtain⟨p,es,cl,hp,h0,hh,hM,hs⟩:=h;have hbl: ∀o,rP g i (.map k v l) p.1 o:=fun o=>⟨p,hp,rfl⟩;exact⟨p,es,cl,hJ.trans hp,h0,(hb _ hbl).trans hh,Y9 le hM,fun o hs'=>hs o (hS _ _ (hbl o) hs')⟩
 |iter s n=>
  obtain⟨p,hp,h0,hh,hs⟩:=h;have hbl: ∀o,rP g i (.iter s n) p.1 o:=fun o=>⟨p,hp,rfl⟩;exact⟨p,hJ.trans hp,h0,(hb _ hbl).trans hh,fun o hs'=>hs o (hS _ _ (hbl o) hs')⟩
 |dead=>trivial
theorem y8 {g g':Gh}{i:Nat}{blk:pQ}(hJ:g'.J i=g.J i) (hcur:g'.cur i=g.cur i) {b o:Nat}:rP g' i blk b o↔rP g i blk b o:=by
 cases blk<;>simp [rP,hJ,hcur]
theorem BE {i:Nat}: ∀{u:List (Nat×pQ)}{H:rO},i∉pU u->pT (qG u H) i=pT H i
 |[],_,_=>rfl
 |(k,b)::r,H,h=>by
  simp only[pU,aRv,not_or] at h;simp only[qG,pT];rw[if_neg (Ne.symm h.1)];exact BE h.2
theorem rZ.upd {g g':Gh}{w w':World}{H:rO}{u:List (Nat×pQ)}(h:rZ g w H) (le:Le g w g' w') (fr:Fr (sJ g H (pU u)) w w' g.S g'.S)
  (perm: ∀i blk b o,i∈pU u->pT (qG u H) i=some blk->rP g' i blk b o->w.heap.size<=b\/sJ g H (pU u) b o)
  (gho: ∀i,i∉pU u->g'.J i=g.J i/\g'.cur i=g.cur i)
  (hb: ∀i blk,i∈pU u->pT (qG u H) i=some blk->zA g' w' i blk)
  (hd: ∀i j bi bj b o,i∈pU u->j∈pU u->i≠j->pT (qG u H) i=some bi->pT (qG u H) j=some bj->rP g' i bi b o->rP g' j bj b o->False)
  (sl: ∀b o,g'.S b o->b<w'.heap.size):rZ g' w' (qG u H):=by
 have out: ∀i blk,i∉pU u->pT H i=some blk->∀b o,rP g i blk b o->b<w.heap.size/\¬sJ g H (pU u) b o:=fun i blk hi hg b o ho=>
  ⟨OJ (h.blk i blk hg) ho,fun⟨j,bj,hj,hgj,hoj⟩=>h.dis i j blk bj b o (fun e=>hi (e▸hj)) hg hgj ho hoj⟩
 refine⟨fun i blk hg=> ?_,fun i j bi bj b o hij hgi hgj hoi hoj=> ?_,sl,NT h.tab.1 fr.size (fun b hb=>fr.blk b (aRX hb h.tab.1.1) (fun o ⟨j,bj,_,k1,k2⟩=>Nat.not_lt.2 (h.tab.2 j bj b o k1 k2) hb)),fun i blk b o hg ho=> ?_⟩
 rotate_right
 ·by_cases hi:i∈pU u
  ·rcases perm i blk b o hi hg ho with h1|⟨j,bj,_,k1,k2⟩
   ·exact aSe h.tab.1.1 h1
   ·exact h.tab.2 j bj b o k1 k2
  ·exact h.tab.2 i blk b o ((BE hi).symm.trans hg) ((y8 (gho i hi).1 (gho i hi).2).1 ho)
 ·by_cases hi:i∈pU u
  ·exact hb i blk hi hg
  ·have hg0:=(BE hi).symm.trans hg;have hk:=gho i hi;refine J5 (h.blk i blk hg0) le hk.1 hk.2 (fun b o ho=> ?_) (fun b ho=> ?_) (fun b o ho hs=> ?_) (fun b o s ho hs=>(fr.shape b s hs).resolve_right fun h1=>(out i blk hi hg0 b o ho).2 (h1 o))
   ·exact fr.cell b o (out i blk hi hg0 b o ho).1 (out i blk hi hg0 b o ho).2
   ·exact fr.blk b (out i blk hi hg0 b 0 (ho 0)).1 (fun o=>(out i blk hi hg0 b o (ho o)).2)
   ·rcases fr.new b o hs with h1|h1|h1
    ·exact h1
    ·have:=(out i blk hi hg0 b o ho).1;omega
    ·exact absurd h1 (out i blk hi hg0 b o ho).2
 ·by_cases hi:i∈pU u<;>by_cases hj:j∈pU u
  ·exact hd i j bi bj b o hi hj hij hgi hgj hoi hoj
  ·have hg0:=(BE hj).symm.trans hgj;have ho0:=(y8 (gho j hj).1 (gho j hj).2).1 hoj;rcases perm i bi b o hi hgi hoi with h1|h1
   ·have:=(out j bj hj hg0 b o ho0).1;omega
   ·exact(out j bj hj hg0 b o ho0).2 h1
  ·have hg0:=(BE hi).symm.trans hgi;have ho0:=(y8 (gho i hi).1 (gho i hi).2).1 hoi;rcases perm j bj b o hj hgj hoj with h1|h1
   ·have:=(out i bi hi hg0 b o ho0).1;omega
   ·exact(out i bi hi hg0 b o ho0).2 h1
  ·exact h.dis i j bi bj b o hij ((BE hi).symm.trans hgi) ((BE hj).symm.trans hgj) ((y8 (gho i hi).1 (gho i hi).2).1 hoi) ((y8 (gho j hj).1 (gho j hj).2).1 hoj)
theorem rS.pure {g:Gh}{w:World}{H:rO}{side:List Prop}{s:pR}{rds:List Nat}{v:Value}(h:rZ g w H) (hs:qV g w s v):rS g w H ⟨side,s,[],rds⟩ g w v:=
 ⟨.refl _ _,hs,h,.refl _ _ _,fun _ _ _ _ hi=>(by cases hi),fun _ _=>⟨rfl,rfl⟩,fun _ _ y us h=> .inl ⟨y,us,h⟩⟩
theorem zB.pure {g:Gh}{w:World}{H:rO}{side:List Prop}{s:pR}{rds:List Nat}{v:Value}(h:rZ g w H) (hs:qV g w s v):zB g w H ⟨side,s,[],rds⟩ g w v:=(rS.pure h hs).w
def tD:Ty->List Value
 | .bool=>[.bool false]
 | .int k=>[.int k 0]
 | .str=>[.string ⟨#[]⟩]
 | .list _=>[.slice none 0 0]
 | .unit=>[]
 | .pair a b=>tD a++tD b
 | .ref=>[.pointer none]
 | .clo=>[.nilFunc]
 | .mp=>[.map none]
 | .rl _ _=>[.slice none 0 0]
 | .fn=>[.nilFunc]
 | .mref=>[.pointer none]
def wX (t:Ty):Value:=if t.isRow then .agg (tD t).toArray else(tD t).headD undef
def LH (P:Program):Ty->Nat->List Field->Prop
 | .unit,_,[]=>True
 | .pair a b,o,f::r=>f.offset=o/\(P.info? f.type).map (·.size)=some a.cells/\(P.underlying f.type).map (·.isRow)=some a.isRow/\LH P b (o+a.cells) r
 |_,_,_=>False
def OK (P:Program) (e:TypeId):Ty->Nat->Prop
 | .unit,0=>True
 | .pair a b,n+1=>(P.info? e).map (·.size)=some a.cells/\(P.underlying e).map (·.isRow)=some a.isRow/\OK P e b n
 |_,_=>False
inductive YA where
 |ty (t:TypeId) |fs (o:Nat) (l:List Field) |el (e:TypeId) (i m:Nat)
inductive xY (P:Program):Nat->YA->Ty->Prop
 |bool {h t}:P.underlying t=some .bool->xY P h (.ty t) .bool
 |int {h t k}:P.underlying t=some (.int k)->xY P h (.ty t) (.int k)
 |str {h t}:P.underlying t=some .string->xY P h (.ty t) .str
 |struct {h t fs ty}:ty.isRow=true->P.underlying t=some (.struct fs)->P.stoodInHeld t=false->xY P h (.fs 0 fs.toList) ty->xY P (h+1) (.ty t) ty
 |arr {h t e n ty}:ty.isRow=true->P.underlying t=some (.array n e)->(P.info? e).isSome=true->xY P h (.el e 0 n) ty->xY P (h+1) (.ty t) ty
 |nil {h o}:xY P h (.fs o []) .unit
 |cons {h o}{f:Field}{r a b}:f.name≠ "_" ->f.offset=o->(P.info? f.type).map (·.size)=some a.cells->(P.underlying f.type).map (·.isRow)=some a.isRow->xY P h (.ty f.type) a->xY P h (.fs (o+a.cells) r) b->xY P h (.fs o (f::r)) (.pair a b)
 |anil {h e i}:xY P h (.el e i 0) .unit
 |acons {h e i m a b}:(P.info? e).map (·.size)=some a.cells->(P.underlying e).map (·.isRow)=some a.isRow->xY P h (.ty e) a->xY P h (.el e (i+1) m) b->xY P h (.el e i (m+1)) (.pair a b)
def xZ (P:Program) (t:TypeId) (ti:TI):Prop:=
 match ti.ty with
 | .bool=>P.underlying t=some .bool
 | .int k=>P.underlying t=some (.int k)
 | .str=>P.underlying t=some .string
 | .ref=> ∃e,P.underlying t=some (.pointer e)
 | .clo=> ∃a b c,P.underlying t=some (.func a b c)
 | .mp=>P.underlying t=some (.map ti.elem ti.bytes)
 | .rl _ _=> ∃e,P.underlying t=some (.slice e)
 | .fn=> ∃a b c,P.underlying t=some (.func a b c)
 | .mref=> ∃e,P.underlying t=some (.pointer e)
 | .list u=>P.underlying t=some (.slice ti.elem)/\(P.info? ti.elem).map (fun i=>(i.size,i.bytes,i.zero))=some (u.cells,ti.bytes,some (wX u))/\(P.underlying ti.elem).map (·.isRow)=some u.isRow
 |ty=>((ti.arr=false/\∃fs,P.underlying t=some (.struct fs)/\LH P ty 0 fs.toList)\/(ti.arr=true/\∃n e,P.underlying t=some (.array n e)/\OK P e ty n/\(P.info? e).isSome=true))/\(ti.bytes=1->P.eqGuardType P.depth t=false/\∃h,h<9000/\xY P h (.ty t) ty)
def sY (P:Program) (t:TypeId) (ti:TI):Prop:=(P.info? t).map (fun i=>(i.size,i.zero))=some (ti.ty.cells,some (wX ti.ty))/\xZ P t ti
def wY (P:Program):sG->Prop
 |[]=>True
 |(t,ti)::r=>sY P t ti/\wY P r
theorem sP {P:Program}: ∀{T:sG},wY P T->∀{t:TypeId}{ti:TI},rF T t=some ti->sY P t ti
 |[],_,_,_,h=>by simp [rF] at h
 |(k,ti)::r,hT,t,ti',h=>by
  simp only[rF] at h;by_cases hk:k=t
  ·rw[if_pos hk] at h;subst hk;rw[<-aRl h];exact hT.1
  ·rw[if_neg hk] at h;exact sP hT.2 h
theorem CU (g:Gh) (w:World): ∀t:Ty,Rd g w t t.zero (tD t)
 | .bool=>rfl
 | .int _=>rfl
 | .str=>rfl
 | .list _=>⟨none,0,rfl,Nat.le_refl _,.inl rfl⟩
 | .unit=>rfl
 | .pair a b=>⟨_,_,rfl,CU g w a,CU g w b⟩
 | .ref=>rfl
 | .clo=>rfl
 | .mp=>rfl
 | .rl _ _=>rfl
 | .fn=>rfl
 | .mref=>rfl
theorem OL (g:Gh) (w:World) (t:Ty):sO g w t t.zero (wX t):=by
 unfold sO wX;by_cases h:t.isRow=true
 ·left;rw[if_pos h];exact⟨h,_,rfl,CU g w t⟩
 ·right;rw[if_neg h];refine⟨by simpa using h,?_⟩;cases t<;>first|exact CU g w _|(simp [Ty.isRow] at h)
theorem DS {g:Gh}{w:World}{t:Ty}{x:t.den}{v:Value}(h:sO g w t x v):Rd g w t x v.cells.toList:=by
 rcases h with⟨_,cs,rfl,r⟩ |⟨hr,r⟩
 ·simpa[Value.cells] using r
 ·have h1:=zV r v (by simp);have:v.cells= #[v]:=by cases v<;>first|rfl|(simp [Value.oneCell'] at h1)
  rw[this];exact r
theorem AD {g:Gh}{w:World}{t:Ty}{x:t.den}{v:Value}(hr:t.isRow=false) (h:sO g w t x v):Rd g w t x [v]:=by
 rcases h with⟨h1,_⟩ |⟨_,r⟩
 ·rw[hr] at h1;cases h1
 ·exact r
theorem vL {g:Gh}{w:World}{k:IntKind}{n:Int}{v:Value}(h:sO g w (.int k) n v):v= .int k n:=by
 have:=AD rfl h;simp only[Rd,aR7,and_true] at this;exact this
theorem wZ {g:Gh}{w:World}{n:Bool}{v:Value}(h:sO g w .bool n v):v= .bool n:=by
 have:=AD rfl h;simp only[Rd,aR7,and_true] at this;exact this
theorem y9 {g:Gh}{w:World}{l:List UInt8}{v:Value}(h:sO g w .str l v):v= .string ⟨l.toArray⟩:=by
 have:=AD rfl h;simp only[Rd,aR7,and_true] at this;exact this
theorem CV {g:Gh}{w:World}{t:Ty}{l:List t.den}{v:Value}(h:sO g w (.list t) l v): ∃a cap,v= .slice a l.length cap/\l.length<=cap/\(l=[]\/∃b o,a=some ⟨b,o,none⟩/\xX (Rd g w t) w g.S t.cells b o l):=by
 have:=AD rfl h;obtain⟨a,cap,e,h1,h2⟩:=this;simp only[aR7,and_true] at e;exact⟨a,cap,e,h1,h2⟩
theorem yP {g:Gh}{w:World}{i o:Nat}{v:Value}(h:sO g w .ref (some (i,o)) v): ∃p,g.J i=some p/\v= .pointer (some ⟨p.1,p.2+o,none⟩):=by
 have:=AD rfl h;obtain⟨p,h1,e⟩:=this;simp only[aR7,and_true] at e;exact⟨p,h1,e⟩
theorem J6 {g:Gh}{w:World}{t:Ty}{x:t.den}{v:Value}(hr:t.isRow=true) (h:sO g w t x v): ∃cs:List Value,v= .agg cs.toArray/\Rd g w t x cs:=by
 rcases h with⟨_,r⟩ |⟨h1,_⟩
 ·exact r
 ·rw[hr] at h1;cases h1
theorem wH (g:Gh) (w:World) (k:IntKind) (n:Int):sO g w (.int k) n (.int k n):= .inr ⟨rfl,rfl⟩
theorem w9 (g:Gh) (w:World) (b:Bool):sO g w .bool b (.bool b):= .inr ⟨rfl,rfl⟩
theorem DT (g:Gh) (w:World) (l:List UInt8):sO g w .str l (.string ⟨l.toArray⟩):= .inr ⟨rfl,rfl⟩
def qP (P:Program) (o:Oper) (a:Act) (g:Gh) (w:World) (H:rO) (e:pY):Prop:=
 ∀(K:Act->World->Prop) (Q:Exit->Act->World->Prop),(∀g' w' v,zB g w H e g' w' v->K (a.put o.dst v) w')->o.wp P a w K Q
theorem qP.valueW {P:Program}{o:Oper}{a:Act}{g g':Gh}{w w':World}{H:rO}{e:pY}{v:Value}(hr:(execOp a.eval o).run P w= .ok (.value v) w') (h:zB g w H e g' w' v):qP P o a g w H e:=by
 intro K Q hK;unfold Oper.wp;rw[hr];exact hK g' w' v h
theorem qP.skipW {P:Program}{o:Oper}{a:Act}{g g':Gh}{w w':World}{H:rO}{e:pY}(hr:(execOp a.eval o).run P w= .ok .skip w') (h:zB g w H e g' w' undef):qP P o a g w H e:=by
 intro K Q hK;unfold Oper.wp;rw[hr];exact hK g' w' undef h
theorem qP.value {P:Program}{o:Oper}{a:Act}{g g':Gh}{w w':World}{H:rO}{e:pY}{v:Value}(hr:(execOp a.eval o).run P w= .ok (.value v) w') (h:rS g w H e g' w' v):qP P o a g w H e:= .valueW hr h.w
theorem qP.skip {P:Program}{o:Oper}{a:Act}{g g':Gh}{w w':World}{H:rO}{e:pY}(hr:(execOp a.eval o).run P w= .ok .skip w') (h:rS g w H e g' w' undef):qP P o a g w H e:= .skipW hr h.w
theorem qP.pure {P:Program}{o:Oper}{a:Act}{g:Gh}{w:World}{H:rO}{side:List Prop}{d:DV}{rds:List Nat}{v:Value}(hH:rZ g w H) (hr:(execOp a.eval o).run P w= .ok (.value v) w) (h:z8 g w d v):
  qP P o a g w H ⟨side,(d,none),[],rds⟩:= .value hr (.pure hH ⟨h,trivial⟩)
section
variable {P:Program}{o:Oper}{a:Act}{g:Gh}{w:World}{H:rO}
theorem SY {g:Gh}{w:World}{k:IntKind}(q:Int) (hq: ∀p∈(IL k q).1,p):z8 g w (IL k q).2 (.int k (k.wrap q)):=by
 cases k<;>simp only[IL] at hq⊢ <;>first|exact wH _ _ _ _|skip
 have h0:=hq _ (aRr.2 rfl);rw[show IntKind.i64.wrap q=q from IntWalk.i64_in q (by omega)];exact wH _ _ _ _
theorem aHA (g:Gh) {op:BinOp}{xt:TypeId}{x y:Operand}{k:IntKind}{m n:Int}{r:List Prop×DV}(hr:WT k m n op=some r) (hs: ∀p∈r.1,p):
  ∃v,(do eqGuard op xt x y (.int k m) (.int k n);Go.binOp op xt (.int k m) (.int k n):Sem Value).run P w= .ok v w/\z8 g w r.2 v:=by
 cases op<;>simp only[WT,aRg,reduceCtorEq] at hr
 all_goals subst hr
 case add=>exact⟨.int k (k.wrap _),by simp [eqGuard,Go.binOp,Op.intArith],SY _ hs⟩
 case sub=>exact⟨.int k (k.wrap _),by simp [eqGuard,Go.binOp,Op.intArith],SY _ hs⟩
 case mul=>exact⟨.int k (k.wrap _),by simp [eqGuard,Go.binOp,Op.intArith],SY _ hs⟩
 case eql=>exact⟨.bool (decide (m=n)),by simp [eqGuard,Go.binOp,Op.intCmp];rfl,w9 _ _ _⟩
 case neq=>exact⟨.bool (!decide (m=n)),by simp [eqGuard,Go.binOp,Op.intCmp,bne];rfl,w9 _ _ _⟩
 case lss=>exact⟨.bool (decide _),by simp [eqGuard,Go.binOp,Op.intCmp],w9 _ _ _⟩
 case leq=>exact⟨.bool (decide _),by simp [eqGuard,Go.binOp,Op.intCmp],w9 _ _ _⟩
 case gtr=>exact⟨.bool (decide (n<m)),by simp [eqGuard,Go.binOp,Op.intCmp],w9 _ _ _⟩
 case geq=>exact⟨.bool (decide (n<=m)),by simp [eqGuard,Go.binOp,Op.intCmp],w9 _ _ _⟩
 case quo=>
  have h0:=hs _ (aRr.2 rfl);exact⟨.int k (k.wrap (Int.tdiv m n)),by simp [eqGuard,Go.binOp,Op.intDiv,h0],wH _ _ _ _⟩
 case rem=>
  have h0:=hs _ (aRr.2 rfl);exact⟨.int k (Int.tmod m n),by simp [eqGuard,Go.binOp,Op.intDiv,h0],wH _ _ _ _⟩
 case and=>exact⟨.int k (bits .and k m n),by simp [eqGuard,Go.binOp,intBits_and],wH _ _ _ _⟩
 case or=>exact⟨.int k (bits .or k m n),by simp [eqGuard,Go.binOp,intBits_or],wH _ _ _ _⟩
 case xor=>exact⟨.int k (bits .xor k m n),by simp [eqGuard,Go.binOp,intBits_xor],wH _ _ _ _⟩
 case andNot=>exact⟨.int k (bits .andNot k m n),by simp [eqGuard,Go.binOp,intBits_andNot],wH _ _ _ _⟩
theorem OM (m n:List UInt8):(m==n)=decide (m=n):=by rw[aSz];simp
theorem aHB (g:Gh) {op:BinOp}{xt:TypeId}{x y:Operand}{m n:List UInt8}{r:List Prop×DV}(hr:WV m n op=some r) (hs: ∀p∈r.1,p):
  ∃v,(do eqGuard op xt x y (.string ⟨m.toArray⟩) (.string ⟨n.toArray⟩);Go.binOp op xt (.string ⟨m.toArray⟩) (.string ⟨n.toArray⟩):Sem Value).run P w= .ok v w/\z8 g w r.2 v:=by
 have hl: ∀l:List UInt8,(⟨l.toArray⟩:ByteArray).size=l.length:=fun l=>by simp [ByteArray.size]
 cases op<;>simp only[WV,aRg,reduceCtorEq] at hr
 all_goals subst hr
 case add=>
  have h0:=hs _ (aRr.2 rfl);refine⟨.string ⟨(m++n).toArray⟩,?_,DT _ _ _⟩;rw[aRh] at h0;have h1: ¬(((⟨m.toArray⟩:ByteArray).size+(⟨n.toArray⟩:ByteArray).size:Nat):Int) >IntKind.i64.max:=by rw[hl,hl,show IntKind.i64.max=9223372036854775807 from by decide];omega
  simp only[eqGuard,Go.binOp,Op.stringOp,aRw,if_neg h1];simp;rfl
 case eql=>exact⟨.bool (decide (m=n)),by simp [eqGuard,Go.binOp,Op.stringOp,OM],w9 _ _ _⟩
 case neq=>exact⟨.bool (!decide (m=n)),by simp [eqGuard,Go.binOp,Op.stringOp,OM],w9 _ _ _⟩
 case lss=>exact⟨.bool (Op.bytesLess m n),by simp [eqGuard,Go.binOp,Op.stringOp],w9 _ _ _⟩
 case leq=>exact⟨.bool (Op.bytesLess m n||decide (m=n)),by simp [eqGuard,Go.binOp,Op.stringOp,OM],w9 _ _ _⟩
 case gtr=>exact⟨.bool (!(Op.bytesLess m n||decide (m=n))),by simp [eqGuard,Go.binOp,Op.stringOp,OM],w9 _ _ _⟩
 case geq=>exact⟨.bool (!Op.bytesLess m n),by simp [eqGuard,Go.binOp,Op.stringOp],w9 _ _ _⟩
theorem J7 {r:Option (List Prop×DV)}{e:pY}(h:A6 r=some e): ∃q,r=some q/\e=⟨q.1,(q.2,none),[],[]⟩:=by
 cases r with
 |none=>cases h
 |some q=>obtain⟨p,d⟩:=q;exact⟨(p,d),rfl,(aRl h).symm⟩
theorem aHC (hH:rZ g w H) {op:BinOp}{xt yt:TypeId}{x y:Operand}(ho:o.op= .binOp op xt x y yt) {sx sy:pR}(hx:qV g w sx (a.eval x)) (hy:qV g w sy (a.eval y)) {e:pY}
  (hr:A6 (RC op sx sy)=some e) (hs: ∀p∈e.side,p):qP P o a g w H e:=by
 obtain⟨q,hq,rfl⟩:=J7 hr;have go: ∀{u v:Value},a.eval x=u->a.eval y=v->(∃z,(do eqGuard op xt x y u v;Go.binOp op xt u v:Sem Value).run P w= .ok z w/\z8 g w q.2 z)->qP P o a g w H ⟨q.1,(q.2,none),[],[]⟩:=by
  rintro u v rfl rfl ⟨z,hz,hd⟩;refine qP.pure hH (v:=z) ?_ hd;unfold execOp;rw[ho];simp only[aRw,aRG] at hz⊢;rw[hz];rfl
 obtain⟨dx,kx⟩:=sx;obtain⟨dy,ky⟩:=sy;replace hx:=hx.1;replace hy:=hy.1;unfold RC at hq;split at hq
 ·rename_i k m k1 k' n k2 e1 e2;simp only[aRI] at e1 e2;obtain⟨rfl,-⟩:=e1;obtain⟨rfl,-⟩:=e2;unfold a7T at hq;split at hq
  ·cases hq;have h0:=hs _ (aRr.2 rfl);exact go (vL hx) (vL hy) ⟨.int k (WU k m n),by simp [eqGuard,Go.binOp,Op.shift,WU,Int.not_lt.2 h0],wH _ _ _ _⟩
  ·cases hq;have h0:=hs _ (aRr.2 rfl);exact go (vL hx) (vL hy) ⟨.int k (xI k m n),by simp [eqGuard,Go.binOp,Op.shift,xI,Int.not_lt.2 h0],wH _ _ _ _⟩
  ·by_cases hk:k=k'
   ·subst hk;rw[if_pos rfl] at hq;exact go (vL hx) (vL hy) (aHA g hq hs)
   ·rw[if_neg hk] at hq;cases hq
 ·rename_i m k1 n k2 e1 e2;simp only[aRI] at e1 e2;obtain⟨rfl,-⟩:=e1;obtain⟨rfl,-⟩:=e2;exact go (y9 hx) (y9 hy) (aHB g hq hs)
 ·cases hq
theorem aHD (hH:rZ g w H) {op:UnOp}{xt:TypeId}{x:Operand}(ho:o.op= .unOp op xt x) {sx:pR}(hx:qV g w sx (a.eval x)) {e:pY}
  (hr:A6 (WX op sx)=some e) (hs: ∀p∈e.side,p):qP P o a g w H e:=by
 obtain⟨q,hq,rfl⟩:=J7 hr;replace hx:=hx.1;unfold WX at hq;split at hq
 ·have:=wZ hx;cases hq;refine qP.pure hH (v:= .bool _) ?_ (w9 _ _ _);simp [execOp,ho,this,Op.unary]
 ·rename_i k n _;have:=vL hx;cases hq;refine qP.pure hH (v:= .int k (k.wrap (-n))) ?_ (SY _ hs);simp [execOp,ho,this,Op.unary,Op.intArith]
 ·cases hq
theorem SZ {t:TypeId}{ti:TI}(h:sY P t ti): ∃d,P.underlying t=some d/\d.isRow=ti.ty.isRow:=by
 have h2:=h.2;unfold xZ at h2;obtain⟨ty,el,by',ar,ls⟩:=ti;cases ty<;>simp only at h2
 case bool=>exact⟨_,h2,rfl⟩
 case int=>exact⟨_,h2,rfl⟩
 case str=>exact⟨_,h2,rfl⟩
 case list=>exact⟨_,h2.1,rfl⟩
 case ref=>obtain⟨e,h⟩:=h2;exact⟨_,h,rfl⟩
 case clo=>obtain⟨a,b,c,h⟩:=h2;exact⟨_,h,rfl⟩
 case mp=>exact⟨_,h2,rfl⟩
 case rl=>obtain⟨e,h⟩:=h2;exact⟨_,h,rfl⟩
 case fn=>obtain⟨a,b,c,h⟩:=h2;exact⟨_,h,rfl⟩
 case mref=>obtain⟨e,h⟩:=h2;exact⟨_,h,rfl⟩
 all_goals
  rcases h2.1 with⟨_,fs,h,_⟩ |⟨_,n,e,h,_⟩
  ·exact⟨_,h,rfl⟩
  ·exact⟨_,h,rfl⟩
theorem DU {t:TypeId}{ti:TI}(h:sY P t ti): ∃i,P.info? t=some i/\i.size=ti.ty.cells/\i.zero=some (wX ti.ty):=by
 obtain⟨i,hi,he⟩:=aRx.1 h.1;simp only[aRI] at he;exact⟨i,hi,he.1,he.2⟩
theorem aHE {T:sG}(hT:wY P T) (hH:rZ g w H) {st dt:TypeId}{x:Operand}(ho:o.op= .convert st dt x) {sx:pR}(hx:qV g w sx (a.eval x)) {e:pY}
  (hr:A6 (RE (rF T st) (rF T dt) sx)=some e):qP P o a g w H e:=by
 obtain⟨q,hq,rfl⟩:=J7 hr;replace hx:=hx.1;generalize hs:rF T st=os at hq;generalize hd:rF T dt=od at hq;unfold RE at hq;split at hq
 ·rename_i k' k _ _ _ _ k0 n _;obtain⟨d,hd1,_⟩:=SZ (sP hT hs);have hd2:=(sP hT hd).2;simp only[xZ] at hd2;have:=vL hx;cases hq;refine qP.pure hH (v:= .int k (k.wrap n)) ?_ (wH _ _ _ _);simp [execOp,ho,this,Go.convert,aRA hd1,aRA hd2,Conv.intToInt]
 ·rename_i k' _ _ _ _ s _;obtain⟨d,hd1,_⟩:=SZ (sP hT hs);have hd2:=(sP hT hd).2;simp only[xZ] at hd2;have:=y9 hx;cases hq;refine qP.pure hH (v:= .string ⟨List.toArray s⟩) ?_ (DT _ _ _);simp [execOp,ho,this,Go.convert,aRA hd1,aRA hd2]
 ·cases hq
theorem T0 {α:Type}{R:α->List Value->Prop}{w:World}{S:Nat->Nat->Prop}{c b:Nat}: ∀{l:List α}{o i:Nat}{x:α},xX R w S c b o l->l[i]? =some x->
  ∃cs,cs.length=c/\w.rangeAt b (o+i*c) cs/\(∀j,j<c->S b (o+i*c+j))/\R x cs
 |y::l,o,0,x,⟨⟨cs,h1,h2,h3,h4⟩,_⟩,h=>by
  simp only[aRM,aRg] at h;subst h;exact⟨cs,h1,by simpa using h2,by simpa using h3,h4⟩
 |y::l,o,i+1,x,⟨_,h5⟩,h=>by
  simp only[aR3] at h;obtain⟨cs,h1,h2,h3,h4⟩:=T0 h5 h;have e:o+c+i*c=o+(i+1)*c:=by rw[aSr];omega
  exact⟨cs,h1,by rw[<-e];exact h2,by rw[<-e];exact h3,h4⟩
theorem a8J {α:Type}{R:α->List Value->Prop}{w:World}{S:Nat->Nat->Prop}{c b:Nat}: ∀{l:List α}{o:Nat}(i:Nat),xX R w S c b o l->i<=l.length->xX R w S c b (o+i*c) (l.drop i)
 |_,o,0,h,_=>by simpa using h
 |[],o,i+1,_,h=>by simp at h
 |y::l,o,i+1,⟨_,h5⟩,h=>by
  have:=a8J i h5 (by simpa using h);have e:o+c+i*c=o+(i+1)*c:=by rw[aSr];omega
  rw[<-e];simpa using this
theorem a8K {α:Type}{R:α->List Value->Prop}{w:World}{S:Nat->Nat->Prop}{c b:Nat}: ∀{l:List α}{o:Nat}(i:Nat),xX R w S c b o l->xX R w S c b o (l.take i)
 |_,_,0,_=>by simp [xX]
 |[],_,_+1,_=>by simp [xX]
 |_::_,_,i+1,⟨h,h5⟩=>by simpa[xX] using⟨h,a8K i h5⟩
theorem YB {g:Gh}{w:World}: ∀{t:Ty}{x:t.den}{cs:List Value}{f:Nat}{u:Ty}{y:u.den},Rd g w t x cs->t.proj x f=some ⟨u,y⟩->
  ∃o c1 c2 c3,t.offs f=some o/\t.fld f=some u/\cs=c1++c2++c3/\c1.length=o/\Rd g w u y c2:=by
 intro t
 induction t with
 |pair a b _ ihb=>
  intro x cs f u y r h;obtain⟨c1,c2,e,r1,r2⟩:=r;cases f with
  |zero=>
   simp only[Ty.proj,aRg,Sigma.mk.injEq] at h;obtain⟨rfl,h2⟩:=h;obtain rfl:=eq_of_heq h2;exact⟨0,[],c1,c2,rfl,rfl,by simpa using e,rfl,r1⟩
  |succ f=>
   simp only[Ty.proj] at h;obtain⟨o,d1,d2,d3,h1,h2,h3,h4,h5⟩:=ihb r2 h;refine⟨a.cells+o,c1++d1,d2,d3,by simp [Ty.offs,h1],by simpa[Ty.fld] using h2,by rw[e,h3];simp,?_,h5⟩;rw[aRh,h4,sH r1]
 |_=>intro x cs f u y r h;cases f<;>simp [Ty.proj] at h
theorem YC {P:Program}: ∀{ty:Ty}{off:Nat}{fs:List Field}{f o:Nat}{u:Ty},LH P ty off fs->ty.offs f=some o->ty.fld f=some u->
  ∃fd,fs[f]? =some fd/\fd.offset=off+o/\(P.info? fd.type).map (·.size)=some u.cells/\(P.underlying fd.type).map (·.isRow)=some u.isRow:=by
 intro ty
 induction ty with
 |pair a b _ ihb=>
  intro off fs f o u h ho hu;cases fs with
  |nil=>exact h.elim
  |cons fd fs=>
   obtain⟨h1,h2,h3,h4⟩:=h;cases f with
   |zero=>
    simp only[Ty.offs,aRg] at ho;simp only[Ty.fld,aRg] at hu;subst ho;subst hu;exact⟨fd,rfl,by omega,h2,h3⟩
   |succ f=>
    simp only[Ty.offs,aRx] at ho;obtain⟨o',ho',rfl⟩:=ho;obtain⟨fd',k1,k2,k3,k4⟩:=ihb h4 ho' hu;exact⟨fd',by simpa using k1,by omega,k3,k4⟩
 |_=>intro off fs f o u h ho hu;cases f<;>simp [Ty.offs] at ho
theorem YD {P:Program}{e:TypeId}: ∀{ty:Ty}{n f o:Nat}{u:Ty},OK P e ty n->ty.offs f=some o->ty.fld f=some u->
  f<n/\(P.info? e).map (·.size)=some u.cells/\(P.underlying e).map (·.isRow)=some u.isRow/\o=f*u.cells:=by
 intro ty
 induction ty with
 |pair a b _ ihb=>
  intro n f o u h ho hu;cases n with
  |zero=>exact h.elim
  |succ n=>
   obtain⟨h2,h3,h4⟩:=h;cases f with
   |zero=>
    simp only[Ty.offs,aRg] at ho;simp only[Ty.fld,aRg] at hu;subst ho;subst hu;exact⟨by omega,h2,h3,by simp⟩
   |succ f=>
    simp only[Ty.offs,aRx] at ho;obtain⟨o',ho',rfl⟩:=ho;obtain⟨k1,k2,k3,k4⟩:=ihb h4 ho' hu;rw[h2] at k2;have hc:a.cells=u.cells:=aRl k2;exact⟨by omega,by rw[h2,hc],k3,by rw[k4,hc,aSr];omega⟩
 |_=>intro n f o u h ho hu;cases f<;>simp [Ty.offs] at ho
theorem ON {t:TypeId}{u:Ty}(hi:(P.info? t).map (·.size)=some u.cells) (hr:(P.underlying t).map (·.isRow)=some u.isRow) {y:u.den}{c1 c2 c3:List Value}(h:Rd g w u y c2):
  ∃v,(part t (c1++c2++c3).toArray c1.length).run P w= .ok v w/\sO g w u y v:=by
 obtain⟨i,hi,hsz⟩:=aRx.1 hi;obtain⟨d,hd,hrow⟩:=aRx.1 hr;have hl:=sH h;by_cases hu:u.isRow=true
 ·refine⟨.agg c2.toArray,?_,.inl ⟨hu,c2,rfl,h⟩⟩;have hagg:(isAgg t).run P w= .ok true w:=by
   unfold isAgg;rw[aRw,aRA hd w];rw[hu] at hrow;cases d<;>simp_all [TypeDesc.isRow]
  simp only[part,aRw,hagg,aRp,aSV,sizeOf,typeInfo,aSp,hi,hsz,aRG];congr 2;apply aSv.1;simp [<-hl]
 ·have hu':u.isRow=false:=by simpa using hu
  have h1:u.cells=1:=by cases u<;>first|rfl|(simp [Ty.isRow] at hu')
  obtain⟨v,rfl⟩: ∃v,c2=[v]:=by
   rw[h1] at hl;exact aSH.1 hl
  refine⟨v,?_,.inr ⟨hu',h⟩⟩;have hagg:(isAgg t).run P w= .ok false w:=by
   unfold isAgg;rw[aRw,aRA hd w];rw[hu'] at hrow;cases d<;>simp_all [TypeDesc.isRow]
  simp only[part,aRw,hagg,aRp];simp
theorem YE {t:TypeId}{ti:TI}(h:sY P t ti) (hr:ti.ty.isRow=true):
  (ti.arr=false/\∃fs,P.underlying t=some (.struct fs)/\LH P ti.ty 0 fs.toList)\/(ti.arr=true/\∃n e,P.underlying t=some (.array n e)/\OK P e ti.ty n/\(P.info? e).isSome=true):=by
 have h2:=h.2;unfold xZ at h2;obtain⟨ty,el,by',ar,ls⟩:=ti;cases ty<;>simp only[Ty.isRow,aSf] at hr<;>exact h2.1
theorem a8L {t:TypeId}{ti:TI}(h:sY P t ti) (hr:ti.ty.isRow=true) (ha:ti.arr=false): ∃fs,P.underlying t=some (.struct fs)/\LH P ti.ty 0 fs.toList:=by
 rcases YE h hr with⟨_,h⟩ |⟨h,_⟩
 ·exact h
 ·rw[ha] at h;cases h
theorem a8M {t:TypeId}{ti:TI}(h:sY P t ti) (hr:ti.ty.isRow=true) (ha:ti.arr=true): ∃n e,P.underlying t=some (.array n e)/\OK P e ti.ty n/\(P.info? e).isSome=true:=by
 rcases YE h hr with⟨h,_⟩ |⟨_,h⟩
 ·rw[ha] at h;cases h
 ·exact h
theorem aHF {t:Ty}{x:t.den}{f:Nat}{q: Σ u:Ty,u.den}(h:t.proj x f=some q):t.isRow=true:=by
 cases t<;>first|rfl|(cases f<;>simp [Ty.proj] at h)
theorem aHG {t:Ty}{f o:Nat}(h:t.offs f=some o):t.isRow=true:=by
 cases t<;>first|rfl|(cases f<;>simp [Ty.offs] at h)
end
theorem aHH (l:List UInt8) (n:Nat) (h:n<l.length):(⟨l.toArray⟩:ByteArray)[n]? =some l[n]:=by
 have:n<(⟨l.toArray⟩:ByteArray).size:=by simpa[ByteArray.size] using h
 rw[getElem?_pos (⟨l.toArray⟩:ByteArray) n this];rfl
theorem wI {i:Int}{n:Nat}(h0:0<=i) (h1:i<n):i.toNat<n:=by omega
theorem a8N {i:Int}{n:Nat}(h0:0<=i) (h1:i.toNat<n):i<n:=by omega
section
variable {P:Program}{o:Oper}{a:Act}{g:Gh}{w:World}{H:rO}{T:sG}(hT:wY P T) (hH:rZ g w H)
include hT hH
theorem aHI {t:TypeId}{x:Operand}{f:Nat}(ho:o.op= .field t x f) {sx:pR}(hx:qV g w sx (a.eval x)) {e:pY}(hr:XQ f (rF T t) sx=some e):qP P o a g w H e:=by
 generalize hs:rF T t=ot at hr;replace hx:=hx.1;unfold XQ at hr;split at hr
 ·rename_i ty el by' ls_ u y _;split at hr
  ·rename_i hu;subst hu;have hty:=sP hT hs;generalize hp:u.proj y f=q at hr;cases q with
   |none=>cases hr
   |some q=>
    obtain⟨u,z⟩:=q;cases hr;have hrow:=aHF hp;obtain⟨cs,hv,hR⟩:=J6 hrow hx;obtain⟨oo,c1,c2,c3,h1,h2,rfl,rfl,h5⟩:=YB hR hp;obtain⟨fs,hfs,hfe⟩:=a8L hty hrow rfl;obtain⟨fd,k1,k2,k3,k4⟩:=YC hfe h1 h2;obtain⟨v,hv1,hv2⟩:=ON k3 k4 (P:=P) (c1:=c1) (c3:=c3) h5;refine qP.pure hH (v:=v) ?_ hv2;have k1':fs[f]? =some fd:=by simpa using k1
    simp only[execOp,ho,hv,Instr.field,aRw,aRA hfs,aRp,k1',asAgg,aRG,k2,aRR,hv1]
  ·cases hr
 ·cases hr
theorem YF {t:TypeId}{ti:TI}(hty:sY P t ti) (har:ti.arr=false) {f oo:Nat}{u:Ty}(h1:ti.ty.offs f=some oo) (h2:ti.ty.fld f=some u) (hpos:0<u.cells) (b off:Nat):
  (Instr.fieldAt t (.pointer (some ⟨b,off,none⟩)) f).run P w= .ok (.pointer (some ⟨b,off+oo,none⟩)) w:=by
 obtain⟨fs,hfs,hfe⟩:=a8L hty (aHG h1) har;obtain⟨fd,k1,k2,k3,k4⟩:=YC hfe h1 h2;obtain⟨i,hi,hsz⟩:=aRx.1 k3;have k1':fs[f]? =some fd:=by simpa using k1
 have hne: ¬(u.cells=0):=by omega
 simp only[Instr.fieldAt,aRw,aRA hfs,aRp,k1',Instr.sureAddr,aRG,fieldPlace,sizeOf,typeInfo,aSp,hi,hsz,if_neg hne,k2,aRR,aSD]
theorem aHJ {t:TypeId}{x:Operand}{f:Nat}(ho:o.op= .fieldAddr t x f) {sx:pR}(hx:qV g w sx (a.eval x)) {e:pY}(hr:XP f (rF T t) sx=some e):qP P o a g w H e:=by
 generalize hs:rF T t=ot at hr;replace hx:=hx.1;unfold XP at hr;split at hr
 ·rename_i ty el by' ls_ k n c i o' _;have hty:=sP hT hs;generalize h1:ty.offs f=o1 at hr;generalize h2:ty.fld f=o2 at hr;unfold a8o at hr;split at hr
  ·split at hr
   ·rename_i oo u hpos;cases hr;obtain⟨b,cap,hc,hi0,hi1,hv⟩:=hx;refine qP.pure hH (v:= .pointer (some ⟨b,i.toNat*c+o'+oo,none⟩)) ?_ ⟨b,cap,hc,hi0,hi1,by rw[aR0]⟩;simp only[execOp,ho,hv,aRw,YF hT hH hty rfl h1 h2 hpos,aRp,aRG]
   ·cases hr
  ·cases hr
 ·rename_i ty el by' ls_ u y _;split at hr
  ·rename_i hu;subst hu;have hty:=sP hT hs;generalize hp:u.proj y f=q at hr;cases q with
   |none=>cases hr
   |some q=>
    obtain⟨u,z⟩:=q;simp only[S6] at hr;split at hr
    ·rename_i hpos;cases hr;obtain⟨b,off,cs,hv,hra,hS,hR⟩:=hx;obtain⟨oo,c1,c2,c3,h1,h2,rfl,rfl,h5⟩:=YB hR hp;refine qP.pure hH (v:= .pointer (some ⟨b,off+c1.length,none⟩)) ?_ ⟨b,off+c1.length,c2,rfl,fun j v hj=> ?_,fun j hj=> ?_,h5⟩
     ·simp only[execOp,ho,hv,aRw,YF hT hH hty rfl h1 h2 hpos,aRp,aRG]
     ·have:=hra (c1.length+j) v (by
       have hj':=(aRu.1 hj).1;rw[aRo,aRq (by omega),aR1,aRz hj'];exact hj)
      rw[aR0];exact this
     ·have:=hS (c1.length+j) (by
       have:=sH hR;have h6:=sH h5;simp only[aRh] at this;omega)
      rw[aR0];exact this
    ·cases hr
  ·cases hr
 ·rename_i ty el by' ls_ i off _;have hty:=sP hT hs;generalize h1:ty.offs f=o1 at hr;generalize h2:ty.fld f=o2 at hr;unfold S7 at hr;split at hr
  ·split at hr
   ·rename_i oo u hpos;cases hr;obtain⟨p,hp,hv⟩:=yP hx;refine qP.pure hH (v:= .pointer (some ⟨p.1,p.2+off+oo,none⟩)) ?_ (.inr ⟨rfl,p,hp,by rw[aR0]⟩);simp only[execOp,ho,hv,aRw,YF hT hH hty rfl h1 h2 hpos,aRp,aRG]
   ·cases hr
  ·cases hr
 ·cases hr
theorem aHK {x:Operand}{i:Nat}(ho:o.op= .extract x i) {sx:pR}(hx:qV g w sx (a.eval x)) {e:pY}(hr:XT i sx=some e) (hs: ∀p∈e.side,p):qP P o a g w H e:=by
 replace hx:=hx.1;unfold XT at hr;split at hr
 rotate_left
 ·rename_i b p c _;have run: ∀(v:Value) (vs:Array Value),a.eval x= .tuple vs->vs[i]? =some v->(execOp a.eval o).run P w= .ok (.value v) w:=by
   intro v vs h1 h2;simp [execOp,ho,h1,Instr.extract,h2]
  obtain⟨h1,h2⟩:=hx;unfold a8p at hr;split at hr
  ·cases hr;cases b with
   |true=>exact qP.pure hH (run (.bool true) _ (h1 rfl) rfl) (w9 _ _ _)
   |false=>exact qP.pure hH (run (.bool false) _ (h2 rfl) rfl) (w9 _ _ _)
  ·cases hr;have hb:=hs (b=true) (by simp);exact qP.pure hH (run (.int .i64 p) _ (h1 hb) rfl) (wH _ _ _ _)
  ·cases hr;have hb:=hs (b=true) (by simp);exact qP.pure hH (run (.int .i32 c) _ (h1 hb) rfl) (wH _ _ _ _)
  ·cases hr
 rotate_left
 ·rename_i l _;obtain⟨vs,hv,hl⟩:=hx;have key: ∀(l:List ((Σ t:Ty,t.den)×Option Nat)) (vs:List Value) (i:Nat),LF g w l vs->S8 l i=some e->∃v,vs[i]? =some v/\qV g w e.slot v/\e.upd=[]/\e.rds=[]:=by
   intro l
   induction l with
   |nil=>intro vs i _ h;cases i<;>cases h
   |cons q l ih=>
    obtain⟨⟨t,x⟩,k⟩:=q;rintro vs i ⟨v,vs',rfl,r1,r2,r3⟩ h;cases i with
    |zero=>
     simp only[S8,aRg] at h;subst h;refine⟨v,rfl,⟨r1,?_⟩,rfl,rfl⟩;cases k with
     |none=>trivial
     |some k=>exact r2
    |succ i=>
     obtain⟨v',h1,h2,h3,h4⟩:=ih vs' i r3 h;exact⟨v',by simpa using h1,h2,h3,h4⟩
  obtain⟨v,h1,h2,h3,h4⟩:=key l vs i hl hr;obtain⟨side,slot,upd,rds⟩:=e;simp only at h2 h3 h4;subst h3;refine qP.value (v:=v) (g':=g) (w':=w) ?_ (.pure hH h2);have:vs.toArray[i]? =some v:=by simpa using h1
  simp [execOp,ho,hv,Instr.extract,this]
 ·cases hr
theorem aHL {x:Operand}(ho:o.op= .nilCheck x) {sx:pR}(hx:qV g w sx (a.eval x)) {e:pY}(hr:XO sx=some e):qP P o a g w H e:=by
 replace hx:=hx.1;unfold XO at hr;split at hr
 ·rename_i p _;obtain⟨i,off⟩:=p;cases hr;obtain⟨p,hp,hv⟩:=yP hx;refine qP.pure hH (v:=a.eval x) ?_ hx;simp [execOp,ho,hv]
 ·cases hr;obtain⟨b,off,cs,hv,h⟩:=hx;refine qP.pure hH (v:=a.eval x) ?_ ⟨b,off,cs,hv,h⟩;simp [execOp,ho,hv]
 ·cases hr;obtain⟨b,cap,h1,h2,h3,hv⟩:=hx;refine qP.pure hH (v:=a.eval x) ?_ ⟨b,cap,h1,h2,h3,hv⟩;simp [execOp,ho,hv]
 ·cases hr
theorem aHM {t:TypeId}{x ix:Operand}(ho:o.op= .index t x ix) {sx si:pR}(hx:qV g w sx (a.eval x)) (hi:qV g w si (a.eval ix)) {e:pY}(hr:XS (rF T t) sx si=some e) (hs: ∀p∈e.side,p):qP P o a g w H e:=by
 generalize hst:rF T t=ot at hr;replace hx:=hx.1;replace hi:=hi.1;unfold XS at hr;split at hr
 ·rename_i _ _ _ _ l _ k i _;cases hr;have hb:=hs _ (aRr.2 rfl);have h2:=(sP hT hst).2;simp only[xZ] at h2;have hv:=y9 hx;have hvi:=vL hi;have hlt:(Int.toNat i)<List.length l:=wI hb.1 hb.2;refine qP.pure hH (v:= .int .u8 (qC l i)) ?_ (wH _ _ _ _);have hget:(if (0:Int)<=i then(⟨List.toArray l⟩:ByteArray)[Int.toNat i]? else none)=some (l[Int.toNat i]):=by
   rw[if_pos hb.1];exact aHH l _ hlt
  have hbyte:qC l i=((l[Int.toNat i]).toNat:Int):=by
   unfold qC;rw[aRD,aRn hlt];rfl
  simp only[execOp,ho,hv,hvi,Instr.index,asIntOf,aRw,aRG,aRp,aRA h2,hget,hbyte]
 ·cases hr
theorem aHN {t:TypeId}{x ix:Operand}(ho:o.op= .indexAddr t x ix) {sx si:pR}(hx:qV g w sx (a.eval x)) (hi:qV g w si (a.eval ix)) {e:pY}(hr:XR (rF T t) sx si=some e) (hs: ∀p∈e.side,p):qP P o a g w H e:=by
 generalize hst:rF T t=ot at hr;replace hx:=hx.1;replace hi:=hi.1;unfold XR at hr;split at hr
 ·rename_i t' el by' ar ls_ k n _ k' i _;split at hr
  ·rename_i hpos;cases hr;have hb:=hs _ (aRr.2 rfl);obtain⟨h2,h3,_⟩:=(sP hT hst).2;obtain⟨ei,hei,hz⟩:=aRx.1 h3;simp only[aRI] at hz;have hvi:=vL hi;obtain⟨hc,hv⟩:=hx;rcases hv with⟨_,rfl⟩ |⟨b,cap,hv,hcap⟩
   ·exact absurd (Int.lt_of_le_of_lt hb.1 hb.2) (Int.lt_irrefl 0)
   refine qP.pure hH (v:= .pointer (some ⟨b,0+Int.toNat i*t'.cells,none⟩)) ?_ ⟨b,cap,by rw[<-hv];exact hc,hb.1,hb.2,by rw[aRR,aSG]⟩;simp only[execOp,ho,hv,hvi,Instr.indexAt,asIntOf,aRw,aRG,aRp,aRA h2,sizeOf,typeInfo,aSp,hei,hz.1,if_pos hb,aSD]
  ·cases hr
 ·rename_i t' el by' ar ls_ t1 l _ k i _;split at hr
  ·rename_i htt;subst htt;cases hr;have hb:=hs _ (aRr.2 rfl);obtain⟨h2,h3,_⟩:=(sP hT hst).2;obtain⟨ei,hei,hz⟩:=aRx.1 h3;simp only[aRI] at hz;have hvi:=vL hi;obtain⟨ad,cap,hv,hle,hl⟩:=CV hx;have hlt:(Int.toNat i)<List.length l:=wI hb.1 hb.2;rcases hl with rfl|⟨b,off,rfl,hL⟩
   ·simp at hlt
   have hnth:l[Int.toNat i]? =some (qD t1 l i):=by
    unfold qD;rw[aRD,aRn hlt];rfl
   obtain⟨cs,hc1,hc2,hc3,hc4⟩:=T0 hL hnth;refine qP.pure hH (v:= .pointer (some ⟨b,off+Int.toNat i*t1.cells,none⟩)) ?_ ⟨b,_,cs,rfl,hc2,hc3,hc4⟩;simp only[execOp,ho,hv,hvi,Instr.indexAt,asIntOf,aRw,aRG,aRp,aRA h2,sizeOf,typeInfo,aSp,hei,hz.1,if_pos hb,aSD]
  ·cases hr
 ·rename_i s u el by' ls_ i off _ k n _;have hty:=sP hT hst;generalize h1:(Ty.pair s u).offs (Int.toNat n)=o1 at hr;generalize h2:(Ty.pair s u).fld (Int.toNat n)=o2 at hr;unfold S7 at hr;split at hr
  ·split at hr
   ·rename_i oo v hpos;cases hr;have hn0:=hs _ (aRr.2 rfl);obtain⟨p,hp,hv⟩:=yP hx;have hvi:=vL hi;obtain⟨len,el',hu,hel,_⟩:=a8M hty rfl rfl;obtain⟨k1,k2,k3,k4⟩:=YD hel h1 h2;obtain⟨ei,hei,hz⟩:=aRx.1 k2;have hb:(0:Int)<=n/\(n:Int)<(len:Int):=⟨hn0,a8N hn0 k1⟩;refine qP.pure hH (v:= .pointer (some ⟨p.1,p.2+off+oo,none⟩)) ?_ (.inr ⟨rfl,p,hp,by rw[aR0]⟩);simp only[execOp,ho,hv,hvi,Instr.indexAt,Instr.sureAddr,asIntOf,aRw,aRG,aRp,aRA hu,sizeOf,typeInfo,aSp,hei,hz,if_pos hb,aSD,k4]
   ·cases hr
  ·cases hr
 ·rename_i s u el by' ls_ u' y _ k n _;split at hr
  ·rename_i hu';subst hu';have hty:=sP hT hst;generalize hp:(Ty.pair s u).proj y (Int.toNat n)=q at hr;cases q with
   |none=>cases hr
   |some q=>
    obtain⟨v,z⟩:=q;simp only[S6] at hr;split at hr
    ·rename_i hpos;cases hr;have hn0:=hs _ (aRr.2 rfl);obtain⟨b,off,cs,hv,hra,hS,hR⟩:=hx;have hvi:=vL hi;obtain⟨oo,c1,c2,c3,h1,h2,rfl,rfl,h5⟩:=YB hR hp;obtain⟨len,el',hu,hel,_⟩:=a8M hty rfl rfl;obtain⟨k1,k2,k3,k4⟩:=YD hel h1 h2;obtain⟨ei,hei,hz⟩:=aRx.1 k2;have hb:(0:Int)<=n/\(n:Int)<(len:Int):=⟨hn0,a8N hn0 k1⟩;refine qP.pure hH (v:= .pointer (some ⟨b,off+c1.length,none⟩)) ?_ ⟨b,off+c1.length,c2,rfl,fun j v hj=> ?_,fun j hj=> ?_,h5⟩
     ·simp only[execOp,ho,hv,hvi,Instr.indexAt,Instr.sureAddr,asIntOf,aRw,aRG,aRp,aRA hu,sizeOf,typeInfo,aSp,hei,hz,if_pos hb,aSD,<-k4]
     ·have:=hra (c1.length+j) v (by
       have hj':=(aRu.1 hj).1;rw[aRo,aRq (by omega),aR1,aRz hj'];exact hj)
      rw[aR0];exact this
     ·have:=hS (c1.length+j) (by
       have:=sH hR;have h6:=sH h5;simp only[aRh] at this;omega)
      rw[aR0];exact this
    ·cases hr
  ·cases hr
 ·cases hr
end
theorem a8O (off:Nat): ∀(vl:List Value) (k:Nat) (cs:Array Value) (c1 c2 c3:List Value),cs.toList=c1++c2++c3->c1.length=off+k->c2.length=vl.length->
  ((vl.zipIdx k).foldl (fun(cs:Array Value) (p:Value×Nat)=>cs.setIfInBounds (off+p.2) p.1) cs).toList=c1++vl++c3
 |[],_,cs,c1,c2,c3,h,_,h2=>by
  have:c2=[]:=aRJ (by simpa using h2);subst this;simpa using h
 |v::vl,k,cs,c1,c2,c3,h,h1,h2=>by
  cases c2 with
  |nil=>simp at h2
  |cons u c2=>
   simp only[List.zipIdx_cons,List.foldl_cons];have:=a8O off vl (k+1) (cs.setIfInBounds (off+k) v) (c1++[v]) c2 c3 (by
    rw[Array.toList_setIfInBounds,h,<-h1];simp) (by simp;omega) (by simpa using h2)
   rw[this];simp
theorem aHO (off:Nat) (vs cs:Array Value) (c1 c2 c3:List Value) (h:cs.toList=c1++c2++c3) (h1:c1.length=off) (h2:c2.length=vs.size):
  (vs.zipIdx.foldl (fun(cs:Array Value) (x:Value×Nat)=>match x with|(c,j)=>cs.setIfInBounds (off+j) c) cs).toList=c1++vs.toList++c3:=by
 rw[<-aTn,Array.toList_zipIdx];exact a8O off vs.toList 0 cs c1 c2 c3 h (by omega) (by simpa using h2)
theorem a8P {place:Nat->Option (Nat×Nat)}{cells:Array Value}{i:Nat}{v:Value}{rest:List (Nat×Value)}{off size:Nat}{c1 c2 c3:List Value}(hp:place i=some (off,size)) (hs:v.cells.size=size)
  (h:cells.toList=c1++c2++c3) (h1:c1.length=off) (h2:c2.length=size):
  Instr.fill place cells ((i,v)::rest)=Instr.fill place (c1++v.cells.toList++c3).toArray rest:=by
 have hsz:cells.size=c1.length+c2.length+c3.length:=by rw[<-aRP,h];simp;omega
 simp only[Instr.fill,hp];rw[if_neg (by simp [hs];omega)];congr 1;apply aSv.1;rw[aHO off v.cells cells c1 c2 c3 h h1 (by omega)]
theorem YG: ∀{t:Ty}{cs:List Value},L3 t=false->cs.length=t.cells->xF t cs
 | .bool,_,_,_=>trivial
 | .int _,_,_,_=>trivial
 | .str,_,_,_=>trivial
 | .unit,_,_,_=>trivial
 | .ref,_,_,_=>trivial
 | .clo,_,_,_=>trivial
 | .mp,_,_,_=>trivial
 | .rl _ _,_,_,_=>trivial
 | .fn,_,_,_=>trivial
 | .mref,_,_,_=>trivial
 | .list _,_,h,_=>by simp [L3] at h
 | .pair a b,cs,h,hl=>by
  simp only[L3,aSo] at h;simp only[Ty.cells] at hl;exact⟨cs.take a.cells,cs.drop a.cells,by simp,by rw[aRH];omega,YG h.1 (by rw[aRH];omega),YG h.2 (by rw[aRy];omega)⟩
theorem YH: ∀t:Ty,(tD t).length=t.cells
 | .bool=>rfl
 | .int _=>rfl
 | .str=>rfl
 | .unit=>rfl
 | .ref=>rfl
 | .clo=>rfl
 | .mp=>rfl
 | .rl _ _=>rfl
 | .fn=>rfl
 | .mref=>rfl
 | .list _=>rfl
 | .pair a b=>by simp only[tD,aRh,YH a,YH b,Ty.cells]
theorem T1: ∀t:Ty,xF t (tD t)
 | .bool=>trivial
 | .int _=>trivial
 | .str=>trivial
 | .unit=>trivial
 | .ref=>trivial
 | .clo=>trivial
 | .mp=>trivial
 | .rl _ _=>trivial
 | .fn=>trivial
 | .mref=>trivial
 | .list _=>rfl
 | .pair a b=>⟨tD a,tD b,rfl,YH a,T1 a,T1 b⟩
theorem a8Q {g:Gh}{w:World}: ∀{t:Ty}{x:t.den}{cs:List Value}{o:Nat},xF t cs->Rd g w t x cs->DL t o=true->∃(u:Ty),qO (.list u) t x o=some []/\cs[o]? =some (.slice none 0 0):=by
 intro t
 induction t with
 |pair a b iha ihb=>
  intro x cs o hn hr hl;obtain⟨c1,c2,e,h1,h2,h3⟩:=hn;obtain⟨d1,d2,e',r1,r2⟩:=hr;have hd:c1=d1/\c2=d2:=aTm (e.symm.trans e') (by rw[h1,sH r1]);obtain⟨rfl,rfl⟩:=hd;have key: ∀(u:Ty) q,qO (.list u) (.pair a b) x q=if q<a.cells then qO (.list u) a x.1 q else qO (.list u) b x.2 (q-a.cells):=by
   intro u q;cases q with
   |zero=>
    conv=>lhs;unfold qO
    rw[aS4 (by intro e;cases e),Nat.zero_sub]
   |succ q=>simp [qO]
  have hl':(if o<a.cells then DL a o else DL b (o-a.cells))=true:=by
   cases o<;>simpa[DL] using hl
  by_cases ho:o<a.cells
  ·rw[if_pos ho] at hl';obtain⟨u,k1,k2⟩:=iha h2 r1 hl';exact⟨u,by rw[key,if_pos ho];exact k1,by rw[e,aRz (by omega)];exact k2⟩
  ·rw[if_neg ho] at hl';obtain⟨u,k1,k2⟩:=ihb h3 r2 hl';exact⟨u,by rw[key,if_neg ho];exact k1,by rw[e,aRq (by omega),h1];exact k2⟩
 |list u=>
  intro x cs o hn hr hl;cases o with
  |succ o=>simp [DL] at hl
  |zero=>
   obtain⟨a,cap,e,_,_⟩:=hr;have hn':cs=[.slice none 0 0]:=hn;rw[hn'] at e;simp only[aR7,aTo,and_true] at e;have:(x:List u.den)=[]:=aRJ e.2.1.symm;subst this;exact⟨u,by unfold qO;simp [tV],by rw[hn'];rfl⟩
 |_=>intro x cs o hn hr hl;cases o<;>simp [DL] at hl
theorem aHP {g:Gh}{w:World}{u:Ty}{y:u.den}{cy:List Value}(hy:Rd g w u y cy): ∀{t:Ty}{x z:t.den}{cs:List Value}{f:Nat},Rd g w t x cs->Ty.setPart u y t x f=some z->
  ∃o c1 c2 c3,t.offs f=some o/\t.fld f=some u/\cs=c1++c2++c3/\c1.length=o/\c2.length=u.cells/\Rd g w t z (c1++cy++c3)/\(xF t cs->xF u cy->xF t (c1++cy++c3)):=by
 intro t
 induction t with
 |pair a b _ ihb=>
  intro x z cs f r h;obtain⟨c1,c2,e,r1,r2⟩:=r;cases f with
  |zero=>
   simp only[Ty.setPart] at h;split at h
   ·rename_i hu;subst hu;simp only[tV,aRg] at h;subst h;refine⟨0,[],c1,c2,rfl,rfl,by simpa using e,rfl,sH r1,⟨cy,c2,by simp,hy,r2⟩,fun⟨d1,d2,e',k1,_,k3⟩ hcy=> ?_⟩;obtain⟨rfl,rfl⟩:=aTm (e'.symm.trans e) (by rw[k1,sH r1]);exact⟨cy,d2,by simp,sH hy,hcy,k3⟩
   ·cases h
  |succ f=>
   simp only[Ty.setPart,aRx] at h;obtain⟨q,hq,rfl⟩:=h;obtain⟨o,d1,d2,d3,h1,h2,h3,h4,h5,h6,h7⟩:=ihb r2 hq;refine⟨a.cells+o,c1++d1,d2,d3,by simp [Ty.offs,h1],by simpa[Ty.fld] using h2,by rw[e,h3];simp,?_,h5,⟨c1,d1++cy++d3,by simp,r1,h6⟩,fun⟨k1,k2,e',k3,k4,k5⟩ hcy=>by
    obtain⟨rfl,rfl⟩:=aTm (e'.symm.trans e) (by rw[k3,sH r1]);exact⟨k1,d1++cy++d3,by simp,k3,k4,h7 k5 hcy⟩⟩
   rw[aRh,h4,sH r1]
 |_=>intro x z cs f r h;cases f<;>simp [Ty.setPart] at h
theorem YI {g:Gh}{w:World}{t:Ty}{ev:Operand->Value}{ρ:Operand->pR}{place:Nat->Option (Nat×Nat)}(hp: ∀f o u,t.offs f=some o->t.fld f=some u->place f=some (o,u.cells)):
  ∀(ps:List (Nat×Operand)) (x z:t.den) (cs:List Value),Rd g w t x cs->(∀q∈ps,qV g w (ρ q.2) (ev q.2))->zQ t (some x) (tZ ρ ps)=some z->
  ∃cs',Instr.fill place cs.toArray (ps.map fun q=>(q.1,ev q.2))=some cs'.toArray/\Rd g w t z cs'/\(AA (tZ ρ ps)=true->xF t cs->xF t cs')
 |[],x,z,cs,r,_,h=>by
  simp only[tZ,zQ,aRg] at h;subst h;exact⟨cs,rfl,r,fun _ h=>h⟩
 |(i,q)::ps,x,z,cs,r,hq,h=>by
  have h0:=hq (i,q) (by simp);have step: ∀{u:Ty}{y:u.den}{z1:t.den},sO g w u y (ev q)->Ty.setPart u y t x i=some z1->zQ t (some z1) (tZ ρ ps)=some z->(AA (tZ ρ ((i,q)::ps))=true->xF u (ev q).cells.toList/\AA (tZ ρ ps)=true)->
    ∃cs',Instr.fill place cs.toArray (((i,q)::ps).map fun q=>(q.1,ev q.2))=some cs'.toArray/\Rd g w t z cs'/\(AA (tZ ρ ((i,q)::ps))=true->xF t cs->xF t cs'):=by
   intro u y z1 hv hset h hpl;obtain⟨o,c1,c2,c3,h1,h2,rfl,h4,h5,h6,h7⟩:=aHP (DS hv) r hset;obtain⟨cs',hf,hr,hn⟩:=YI hp ps z1 z _ h6 (fun q hq'=>hq q (by simp [hq'])) h;refine⟨cs',?_,hr,fun hpp hcs=>hn (hpl hpp).2 (h7 hcs (hpl hpp).1)⟩;simp only[aR2];rw[a8P (hp i o u h1 h2) (by have:=sH (DS hv);simpa using this) (c1:=c1) (c2:=c2) (c3:=c3) (by simp) h4 h5];exact hf
  generalize hs:ρ q=s at h0;simp only[tZ,hs] at h;obtain⟨d,k⟩:=s;cases d with
  |val u y=>
   simp only[zQ] at h;generalize hset:Ty.setPart u y t x i=o1 at h;cases o1 with
   |none=>cases ps with
    |nil=>simp [tZ,zQ] at h
    |cons p ps=>simp [tZ,zQ] at h
   |some z1=>
    have hpl:AA (tZ ρ ((i,q)::ps))=true->xF u (ev q).cells.toList/\AA (tZ ρ ps)=true:=by
     intro hpp;simp only[tZ,hs,AA,aRm,aRK] at hpp;exact⟨YG hpp.1 (sH (DS h0.1)),hpp.2⟩
    obtain⟨cs',k1,k2,k3⟩:=step h0.1 hset h hpl;exact⟨cs',k1,k2,k3⟩
  |nilS=>
   simp only[zQ] at h;generalize hfl:t.fld i=fl at h;cases fl with
   |none=>cases ps<;>simp [RG,tZ,zQ] at h
   |some u=>
    cases u with
    |list u=>
     simp only[RG] at h;generalize hset:Ty.setPart (.list u) [] t x i=o1 at h;cases o1 with
     |none=>cases ps<;>simp [tZ,zQ] at h
     |some z1=>
      have hev:ev q= .slice none 0 0:=h0.1;refine step (u:= .list u) (y:=[]) ?_ hset h (fun hpp=> ?_)
      ·rw[hev];exact .inr ⟨rfl,none,0,rfl,Nat.le_refl _,.inl rfl⟩
      ·simp only[tZ,hs,AA] at hpp;exact⟨by rw[hev];rfl,hpp⟩
    |_=>cases ps<;>simp [RG,tZ,zQ] at h
  |_=>simp [zQ] at h
section
variable {P:Program}{o:Oper}{a:Act}{g:Gh}{w:World}{H:rO}{T:sG}(hT:wY P T) (hH:rZ g w H)
include hT hH
theorem a8R {P:Program}(w:World): ∀(fs:List Field),(∀f∈fs,∃n,(P.info? f.type).map (·.size)=some n)->
  (fs.mapM (fun f=>do pure (f.offset,<-sizeOf f.type):Field->Sem (Nat×Nat))).run P w= .ok (fs.map fun f=>(f.offset,((P.info? f.type).map (·.size)).getD 0)) w
 |[],_=>rfl
 |f::fs,h=>by
  obtain⟨n,hn⟩:=h f (by simp);obtain⟨i,hi,hsz⟩:=aRx.1 hn;rw[List.mapM_cons];simp only[aRw,sizeOf,typeInfo,aSp,hi,aRp,aRG];have:=a8R w fs (fun f hf=>h f (by simp [hf]));simp only[sizeOf,typeInfo,aRw,aSp] at this;rw[this];simp [hi]
theorem aHQ {P:Program}: ∀{ty:Ty}{off:Nat}{fs:List Field},LH P ty off fs->∀f∈fs,∃n,(P.info? f.type).map (·.size)=some n:=by
 intro ty
 induction ty with
 |pair a b _ ihb=>
  intro off fs h f hf;cases fs with
  |nil=>cases hf
  |cons fd fs=>
   obtain⟨_,h2,_,h4⟩:=h;rcases aRv.1 hf with rfl|hf
   ·exact⟨_,h2⟩
   ·exact ihb h4 f hf
 |unit=>intro off fs h f hf;cases fs with|nil=>cases hf|cons=>exact h.elim
 |_=>intro off fs h f hf;cases fs<;>exact h.elim
omit hT hH in
theorem a8S {t:Ty}{x:t.den}{cs:List Value}{ps:List (Nat×pR)}(h:AA ps=true->xF t (tD t)->xF t cs):match ((DV.val t x,XB t (AA ps)):pR) with
  |(_,none)=>True
  |(.val t x,some k)=>BZ g t x (.agg cs.toArray) (some k)
  |(_,some _)=>False:=by
 cases hp:AA ps with
 |false=>cases t<;>trivial
 |true=>
  cases t with
  |pair a b=>
   have:=h hp (T1 _);simpa[XB,BZ,Value.cells] using this
  |_=>trivial
omit hT in
theorem qP.pureS {s:pR}{v:Value}(hr:(execOp a.eval o).run P w= .ok (.value v) w) (hs:qV g w s v):qP P o a g w H ⟨[],s,[],[]⟩:=
 qP.value hr (.pure hH hs)
theorem aHR {t:TypeId}{ps:Array (Nat×Operand)}(ho:o.op= .build t ps) {ρ:Operand->pR}(hρ: ∀q∈ps.toList,qV g w (ρ q.2) (a.eval q.2)) {e:pY}(hr:XC (tZ ρ ps.toList) (rF T t)=some e):qP P o a g w H e:=by
 generalize hs:rF T t=ot at hr;cases ot with
 |none=>cases hr
 |some ti=>
  have hty:=sP hT hs;simp only[XC] at hr;by_cases hrow:ti.ty.isRow=true
  case neg=>rw[if_neg hrow] at hr;cases hr
  rw[if_pos hrow] at hr;generalize hb:zQ ti.ty (some ti.ty.zero) (tZ ρ ps.toList)=ox at hr;cases ox with
  |none=>cases hr
  |some x=>
   cases hr;obtain⟨i,hi,hsz,hz⟩:=DU hty;have hzv:wX ti.ty= .agg (tD ti.ty).toArray:=by unfold wX;rw[if_pos hrow]
   have hzr: ∀w,(zeroValue t).run P w= .ok (.agg (tD ti.ty).toArray) w:=by
    intro w;simp [zeroValue,typeInfo,hi,hz,hzv]
   have hmap:(ps.map fun(q:Nat×Operand)=>(q.1,a.eval q.2)).toList=ps.toList.map fun q=>(q.1,a.eval q.2):=by simp
   rcases YE hty hrow with⟨har,fs,hfs,hfe⟩ |⟨har,n,el,hu,hel,hsome⟩
   ·have hpl:=a8R (P:=P) hT hH w fs.toList (aHQ hT hH hfe);obtain⟨cs',hf,hR,hN⟩:=YI (g:=g) (w:=w) (ev:=a.eval) (ρ:=ρ) (t:=ti.ty) (place:=fun j=>((fs.map fun f=>(f.offset,((P.info? f.type).map (·.size)).getD 0))[j]?)) (fun f oo u h1 h2=>by
     obtain⟨fd,k1,k2,k3,_⟩:=YC hfe h1 h2;have k1':fs[f]? =some fd:=by simpa using k1
     simp [k1',k2,k3]) ps.toList ti.ty.zero x (tD ti.ty) (CU g w ti.ty) hρ hb
    refine qP.pureS hH (v:= .agg cs'.toArray) ?_ ⟨.inl ⟨hrow,cs',rfl,hR⟩,a8S hN⟩;have hmp:(fs.mapM (fun f=>do pure (f.offset,<-sizeOf f.type):Field->Sem (Nat×Nat))).run P w= .ok (fs.map fun f=>(f.offset,((P.info? f.type).map (·.size)).getD 0)) w:=by
     rw[Array.mapM_eq_mapM_toList,Sem.run_map,hpl];simp only[aRp];congr 1;apply aSv.1;simp
    simp only[execOp,ho,Instr.build,aRw,hzr,aRp,aRA hfs,hmp,Value.cells];rw[hmap,hf];rfl
   ·obtain⟨cs',hf,hR,hN⟩:=YI (g:=g) (w:=w) (ev:=a.eval) (ρ:=ρ) (t:=ti.ty) (place:=fun j=>some (j*((P.info? el).map (·.size)).getD 0,((P.info? el).map (·.size)).getD 0)) (fun f oo u h1 h2=>by
     obtain⟨k1,k2,k3,k4⟩:=YD hel h1 h2;simp [k2,k4]) ps.toList ti.ty.zero x (tD ti.ty) (CU g w ti.ty) hρ hb
    refine qP.pureS hH (v:= .agg cs'.toArray) ?_ ⟨.inl ⟨hrow,cs',rfl,hR⟩,a8S hN⟩;obtain⟨ei,hei⟩:=aRi.1 hsome;simp only[hei,Option.map_some,aSO] at hf;simp only[execOp,ho,Instr.build,aRw,hzr,aRp,aRA hu,sizeOf,typeInfo,aSp,hei,aRG,Value.cells];rw[hmap,hf];rfl
theorem YJ {ρ:Operand->pR}{ev:Operand->Value}: ∀{xs:List Operand}{ss:List pR},(∀x∈xs,qV g w (ρ x) (ev x))->v6 ρ xs=ss->∃vs,xs.map ev=vs/\vs.length=ss.length/\∀(i:Nat) (s:pR) (v:Value),ss[i]? =some s->vs[i]? =some v->qV g w s v
 |[],_,_,h=>⟨[],rfl,by rw[<-h];rfl,fun i s v _ hv=>by simp at hv⟩
 |x::xs,ss,hx,h=>by
  subst h;obtain⟨vs,h1,h2,h3⟩:=YJ (fun y hy=>hx y (by simp [hy])) rfl (xs:=xs);refine⟨ev x::vs,by simp [h1],by simp [v6,h2],fun i s v hs hv=> ?_⟩;cases i with
  |zero=>
   simp only[v6,aRM,aRg] at hs hv;subst hs;subst hv;exact hx x (by simp)
  |succ i=>
   simp only[v6,aR3] at hs hv;exact h3 i s v hs hv
theorem T2 {ρ:Operand->pR}{ev:Operand->Value}{args:Array Operand}{s:pR}(hρ: ∀x∈args.toList,qV g w (ρ x) (ev x)) (h:v6 ρ args.toList=[s]): ∃v,args.map ev= #[v]/\qV g w s v:=by
 obtain⟨vs,h1,h2,h3⟩:=YJ hT hH hρ h;obtain⟨v,rfl⟩:=aSH.1 h2;exact⟨v,by apply aSv.1;simpa using h1,h3 0 s v rfl rfl⟩
theorem T3 {ρ:Operand->pR}{ev:Operand->Value}{args:Array Operand}{s t:pR}(hρ: ∀x∈args.toList,qV g w (ρ x) (ev x)) (h:v6 ρ args.toList=[s,t]): ∃v u,args.map ev= #[v,u]/\qV g w s v/\qV g w t u:=by
 obtain⟨vs,h1,h2,h3⟩:=YJ hT hH hρ h
 match vs,h2 with
 |[v,u],_=>exact⟨v,u,by apply aSv.1;simpa using h1,h3 0 s v rfl rfl,h3 1 t u rfl rfl⟩
theorem FB {b:Builtin}{args:Array Operand}{tys:Array TypeId}(ho:o.op= .call ⟨.builtin b,args,tys⟩):
  ∃cs,execOp a.eval o=builtin b tys o.type cs (args.map a.eval):=by
 refine⟨args.map fun| .const _=>true|_=>false,?_⟩
 unfold execOp;rw[ho];rfl
theorem aHS (x y:Int):(if y<x then y else x)=min x y:=by rw[Int.min_def];split<;>split<;>omega
theorem aHT (x y:Int):(if y>x then y else x)=max x y:=by rw[Int.max_def];split<;>split<;>omega
theorem aHU {args:Array Operand}{tys:Array TypeId}(ho:o.op= .call ⟨.builtin .len,args,tys⟩) {ρ:Operand->pR}(hρ: ∀x∈args.toList,qV g w (ρ x) (a.eval x)) {e:pY}
  (hr:SF T H (v6 ρ args.toList) tys.toList=some e):qP P o a g w H e:=by
 obtain⟨t0,tr,htl⟩: ∃t0 tr,tys.toList=t0::tr:=by cases h:tys.toList with|nil=>(rw[h] at hr;cases hr) |cons t r=>exact⟨t,r,rfl⟩
 have ht0:tys[0]? =some t0:=by rw[<-aSt,htl];rfl
 rw[htl] at hr;simp only[SF] at hr;generalize hst:rF T t0=ot at hr;generalize hss:v6 ρ args.toList=ss at hr;unfold XU at hr;split at hr
 ·rename_i el fl ar ls_ i k;generalize hb:pT H i=ob at hr;unfold S9 at hr;split at hr
  ·rename_i kt vt l;cases hr;obtain⟨v,hv,hs⟩:=T2 hT hH hρ hss;have h2:=(sP hT hst).2;simp only[xZ] at h2;obtain⟨p,es,cl,hp,hp0,hh,hM,hS⟩:=hH.blk i _ hb;obtain⟨p',hp',hxv⟩: ∃p,g.J i=some p/\v= .map (some p.1):=by
    rcases hs.1 with⟨h1,_⟩ |⟨_,p,h3,h4⟩
    ·cases h1
    ·simp only[aR7,and_true] at h4;exact⟨p,h3,h4⟩
   rw[hp] at hp';obtain rfl:=aRl hp';have hlen: ∀{l:List (kt.den×vt.den)}{es:List MapEntry},CQ g w kt vt l es->es.length=l.length:=by
    intro l
    induction l with
    |nil=>intro es h;rw[show es=[] from h];rfl
    |cons q l ih=>intro es h;obtain⟨e,es',rfl,_,_,h5⟩:=h;simp [ih h5]
   refine qP.pure hH (v:= .int .i64 (List.length l:Int)) ?_ (wH _ _ _ _);obtain⟨cs,hx⟩:=FB (a:=a) hT hH ho;rw[hx,hv,hxv];have harg:(#[Value.map (some p.1)]:Array Value)[0]? =some (.map (some p.1)):=rfl;have hobj:(getObj p.1).run P w= .ok (.map es cl) w:=by simp [getObj,Sem.run,hh]
   simp only[builtin,Builtin.len_,ht0,harg,aRw,aRA h2,aRp,aRG,goInt,hobj];rw[<-hlen hM,aRP]
  ·cases hr
 ·rename_i el by' ar ls_ l k;cases hr;obtain⟨v,hv,hs⟩:=T2 hT hH hρ hss;have h2:=(sP hT hst).2;simp only[xZ] at h2;have hv':=y9 hs.1;refine qP.pure hH (v:= .int .i64 (List.length l:Int)) ?_ (wH _ _ _ _);subst hv';obtain⟨cs,hx⟩:=FB (a:=a) hT hH ho;rw[hx,hv];have harg:(#[Value.string ⟨List.toArray l⟩]:Array Value)[0]? =some (.string ⟨List.toArray l⟩):=rfl;simp only[builtin,Builtin.len_,ht0,harg,aRw,aRA h2,aRp,aRG,goInt];rfl
 ·rename_i u el by' ar ls_ t l k;cases hr;obtain⟨v,hv,hs⟩:=T2 hT hH hρ hss;have h2:=(sP hT hst).2.1;obtain⟨ad,cap,rfl,_⟩:=CV hs.1;refine qP.pure hH (v:= .int .i64 (List.length l:Int)) ?_ (wH _ _ _ _);obtain⟨cs,hx⟩:=FB (a:=a) hT hH ho;rw[hx,hv];have harg:(#[Value.slice ad (List.length l) cap]:Array Value)[0]? =some (.slice ad (List.length l) cap):=rfl;simp only[builtin,Builtin.len_,ht0,harg,aRw,aRA h2,aRp,aRG,goInt]
 ·rename_i u el by' ar ls_ ko n k;cases hr;obtain⟨v,hv,hs⟩:=T2 hT hH hρ hss;have h2:=(sP hT hst).2.1;obtain⟨ad,cap,rfl⟩: ∃ad cap,v= .slice ad n cap:=by
   rcases hs.1.2 with⟨h,rfl⟩ |⟨b,cap,h,_⟩
   ·exact⟨_,_,h⟩
   ·exact⟨_,_,h⟩
  refine qP.pure hH (v:= .int .i64 (n:Int)) ?_ (wH _ _ _ _);obtain⟨cs,hx⟩:=FB (a:=a) hT hH ho;rw[hx,hv];have harg:(#[Value.slice ad n cap]:Array Value)[0]? =some (.slice ad n cap):=rfl;simp only[builtin,Builtin.len_,ht0,harg,aRw,aRA h2,aRp,aRG,goInt]
 ·cases hr
theorem a8T {args:Array Operand}{tys:Array TypeId}{mx:Bool}(ho:o.op= .call ⟨.builtin (if mx then .max else .min),args,tys⟩) {ρ:Operand->pR}(hρ: ∀x∈args.toList,qV g w (ρ x) (a.eval x)) {e:pY}
  (hr:A6 (SD mx (v6 ρ args.toList))=some e):qP P o a g w H e:=by
 obtain⟨q,hq,rfl⟩:=J7 hr;generalize hss:v6 ρ args.toList=ss at hq;unfold SD at hq;split at hq
 ·rename_i k x k1 k' y k2;split at hq
  ·rename_i hk;subst hk;cases hq;obtain⟨v,u,hv,hs1,hs2⟩:=T3 hT hH hρ hss;have e1:=vL hs1.1;have e2:=vL hs2.1;subst e1;subst e2;cases mx
   ·refine qP.pure hH (v:= .int k (min (x:Int) y)) ?_ (wH _ _ _ _);obtain⟨cs,hx⟩:=FB (a:=a) hT hH ho;rw[hx,hv];have:=aHS hT hH x y;simp [builtin,Builtin.min_,Builtin.min2,this]
   ·refine qP.pure hH (v:= .int k (max (x:Int) y)) ?_ (wH _ _ _ _);obtain⟨cs,hx⟩:=FB (a:=a) hT hH ho;rw[hx,hv];have:=aHT hT hH x y;simp [builtin,Builtin.max_,Builtin.max2,this]
  ·cases hq
 ·cases hq
theorem aHV {f:FuncId}{caps:Array Operand}(ho:o.op= .makeFunc (.func f) #[] caps) {ρ:Operand->pR}(hρ: ∀x∈caps.toList,qV g w (ρ x) (a.eval x)) {e:pY}
  (hr:a8n f (IM (v6 ρ caps.toList))=some e):qP P o a g w H e:=by
 generalize hc:IM (v6 ρ caps.toList)=oc at hr;cases oc with
 |none=>cases hr
 |some l=>
  cases hr;have key: ∀(xs:List Operand) (l:List (Nat×Nat)),(∀x∈xs,qV g w (ρ x) (a.eval x))->IM (v6 ρ xs)=some l->xL g l (xs.map a.eval):=by
   intro xs
   induction xs with
   |nil=>intro l _ h;simp only[v6,IM,aRg] at h;subst h;rfl
   |cons x xs ih=>
    intro l hx h;have h0:=hx x (by simp);generalize hs:ρ x=s at h0;simp only[v6,hs] at h;obtain⟨d,k⟩:=s;unfold IM at h;split at h
    ·cases ‹_=[]›
    ·rename_i p k r heq;simp only[aR7,aRI] at heq;obtain⟨⟨rfl,rfl⟩,rfl⟩:=heq;obtain⟨l',hl',rfl⟩:=aRx.1 h;obtain⟨i,off⟩:=p;obtain⟨p,hp,hv⟩:=yP h0.1;exact⟨p,_,hp,by rw[aR2,hv],ih l' (fun y hy=>hx y (by simp [hy])) hl'⟩
    ·cases h
  refine qP.pure hH (v:= .func (.func f) #[] (caps.map a.eval)) ?_ (.inr ⟨rfl,caps.toList.map a.eval,key _ _ hρ hc,by congr 2;apply aSv.1;simp⟩);simp [execOp,ho,Instr.makeFunc]
end
theorem YK {α:Type}{l:List α}{m n:Int}(h0:0≤m) (h1:m≤n) (h2:n≤(l.length:Int)):(q7 l m n).length=n.toNat-m.toNat:=by
  unfold q7;rw[aRH,aRy];omega
theorem a8U {α:Type}{R:α→List Value→Prop}{c:Nat}: ∀{l:List α}{cs:List Value}{i:Nat}{x:α},sS R c l cs→l[i]? =some x→∃c1 c2 c3,cs=c1++c2++c3∧c1.length=i*c∧c2.length=c∧R x c2
  | y::l,_,0,x,⟨c1,c2,e,h1,h2,h3⟩,h=>by
    simp only[aRM,aRg] at h;subst h;exact⟨[],c1,c2,by simpa using e,by simp,h1,h2⟩
  | y::l,_,i+1,x,⟨c1,c2,e,h1,h2,h3⟩,h=>by
    simp only[aR3] at h;obtain⟨d1,d2,d3,e1,e2,e3,e4⟩:=a8U h3 h;exact⟨c1++d1,d2,d3,by rw[e,e1];simp,by rw[aRh,h1,e2,aSr];omega,e3,e4⟩
theorem aHW {t:Ty}{l:List t.den}{i:Int}(h0:0≤i) (h:i.toNat<l.length):l[i.toNat]? =some (qD t l i):=by
  unfold qD;rw[aRD,aRn h];rfl
theorem J8 {α:Type}{R:α→List Value→Prop}{w:World}{S:Nat→Nat→Prop}{c b:Nat}: ∀{l:List α}{o:Nat}{cs:List Value},sS R c l cs→w.rangeAt b o cs→(∀j,j<l.length*c→S b (o+j))→xX R w S c b o l
  |[],_,_,_,_,_=>trivial
  | x::l,o,cs,⟨c1,c2,e,h1,h2,h3⟩,hr,hS=>by
    subst e;refine⟨⟨c1,h1,fun j v hv=>hr j v (by rw[aRz (aRu.1 hv).1];exact hv),fun j hj=>hS j (by rw[aRj,aSr];omega),h2⟩,J8 h3 (fun j v hv=> ?_) (fun j hj=> ?_)⟩
    · have:=hr (c+j) v (by rw[aRq (by omega),h1,aR1];exact hv)
      rwa [←aR0] at this
    · have:=hS (c+j) (by rw[aRj,aSr];omega)
      rwa [←aR0] at this
theorem OO {k:Nat}{u0:Ty}{l:List u0.den}: ∀{t:Ty}{x:t.den},(zT k u0 l t x).1.cells=t.cells
  | .rl e u,none=>rfl
  | .rl e u,some (j,n)=>by
    simp only[zT,XF];split<;>rfl
  | .pair a b,x=>by
    simp only[zT];split
    ·rfl
    ·simp only[Ty.cells,OO (t:=a),OO (t:=b)]
  | .bool,_=>rfl
  | .int _,_=>rfl
  | .str,_=>rfl
  | .list _,_=>rfl
  | .unit,_=>rfl
  | .ref,_=>rfl
  | .clo,_=>rfl
  | .mp,_=>rfl
  | .mref,_=>rfl
  | .fn,_=>rfl
def aHX (g:Gh) (w:World) (q: Σ t:Ty,t.den) (cs:List Value):Prop:=Rd g w q.1 q.2 cs
theorem YL {g:Gh}{w:World}{k n:Nat}{u0:Ty}{l:List u0.den}(hk: ∀cs,BY g (some (k,n)) cs→Rd g w (.list u0) l cs): ∀{t:Ty}{x:t.den}{cs:List Value},O6 k n t x→Rd g w t x cs→aHX g w (zT k u0 l t x) cs
  | .rl e u,none,_,_,r=>r
  | .rl e u,some (j,m),_,h,r=>by
    simp only[zT,XF];split
    · rename_i hc
      obtain⟨rfl,rfl⟩:=hc;have:m=n:=h rfl;subst this;exact hk _ r
    ·exact r
  | .pair a b,x,_,h,r=>by
    simp only[zT];split
    ·exact r
    · obtain⟨c1,c2,e,r1,r2⟩:=r
      exact⟨c1,c2,e,YL hk h.1 r1,YL hk h.2 r2⟩
  | .bool,_,_,_,r=>r
  | .int _,_,_,_,r=>r
  | .str,_,_,_,r=>r
  | .list _,_,_,_,r=>r
  | .unit,_,_,_,r=>r
  | .ref,_,_,_,r=>r
  | .clo,_,_,_,r=>r
  | .mp,_,_,_,r=>r
  | .mref,_,_,_,r=>r
  | .fn,_,_,_,r=>r
theorem YM {u0:Ty}{l:List u0.den}: ∀{t:Ty}{x:t.den}{q: Σ t:Ty,t.den},yM u0 l t x=some q→q.1.cells=t.cells:=by
  intro t
  induction t with
  | rl e u=>
    intro x q h;cases x with
    |none=>cases h
    | some p=>
      simp only[yM,XH] at h;split at h
      ·cases h;rfl
      ·cases h
  | pair a b iha ihb=>
    intro x q h;simp only[yM] at h;cases hf:AB a x.1 with
    | some p=>
      rw[hf] at h;cases hq:yM u0 l a x.1 with
      |none=>rw[hq] at h;cases h
      | some r=>
        obtain⟨a',x'⟩:=r;rw[hq] at h;simp only[IX,aRg] at h;subst h;have:=iha hq;simp only[Ty.cells] at this⊢;omega
    | none=>
      rw[hf] at h;cases hq:yM u0 l b x.2 with
      |none=>rw[hq] at h;simp [IX] at h
      | some r=>
        obtain⟨b',y'⟩:=r;rw[hq] at h;simp only[IX,aRg] at h;subst h;have:=ihb hq;simp only[Ty.cells] at this⊢;omega
  |_=>intro x q h;simp [yM] at h
theorem aHY {g:Gh}{w:World}{k n:Nat}{u0:Ty}{l:List u0.den}(hk: ∀cs,BY g (some (k,n)) cs→Rd g w (.list u0) l cs): ∀{t:Ty}{x:t.den}{cs:List Value}{q: Σ t:Ty,t.den},AB t x=some (k,n)→yM u0 l t x=some q→Rd g w t x cs→Rd g w q.1 q.2 cs:=by
  intro t
  induction t with
  | rl e u=>
    intro x cs q hf h r;simp only[AB] at hf;subst hf;simp only[yM,XH] at h;split at h
    · cases h
      exact hk _ r
    ·cases h
  | pair a b iha ihb=>
    intro x cs q hf h r;obtain⟨c1,c2,e,r1,r2⟩:=r;simp only[AB] at hf;simp only[yM] at h;cases hfa:AB a x.1 with
    | some p=>
      rw[hfa] at h hf;simp only[XG,aRg] at hf;subst hf;cases hq:yM u0 l a x.1 with
      |none=>rw[hq] at h;cases h
      | some z=>
        obtain⟨a',x'⟩:=z;rw[hq] at h;simp only[IX,aRg] at h;subst h;exact⟨c1,c2,e,iha hfa hq r1,r2⟩
    | none=>
      rw[hfa] at h hf;simp only[XG] at hf;cases hq:yM u0 l b x.2 with
      |none=>rw[hq] at h;simp [IX] at h
      | some z=>
        obtain⟨b',y'⟩:=z;rw[hq] at h;simp only[IX,aRg] at h;subst h;exact⟨c1,c2,e,r1,ihb hf hq r2⟩
  |_=>intro x cs q hf;simp [AB] at hf
theorem aHZ {g:Gh}{w:World}{H:rO}(hH:rZ g w H) {k i:Nat}{e:TypeId}{t:Ty}{l:List t.den}{n:Nat}(hk:pT H k=some (.row e t l n)) {u:Ty}{x:u.den}{toks:List (Nat×Nat)}(hi:pT H i=some (.cells u x toks)) (hfr:AB u x=some (k,n)) {q: Σ t:Ty,t.den}(hq:yM t l u x=some q):
    ∃ g',rZ g' w (qG [(i,pQ.cells q.1 q.2 []),(k,pQ.grow e t.cells (List.length l))] H)∧g'.J=g.J∧
      ∀side s rds v,GS rds=true→qV g' w s v→zB g w H ⟨side,s,[(i,pQ.cells q.1 q.2 []),(k,pQ.grow e t.cells (List.length l))],rds⟩ g' w v:=by
  obtain⟨hl,v,xs,hv,hown,hF,hnone,hseal⟩:=hH.blk k _ hk
  let g':Gh:={g with S:=fun b o=>g.S b o∨(v.ownBlock=some b∧o<n*t.cells)}
  have le:Le g w g' w:=⟨fun _ _ h=> .inl h,fun _ _ _=>rfl,fun _ _ h=>h,fun _ _ _ h=>h⟩;have hown2: ∀b,v.ownBlock=some b→∀o,rP g k (.row e t l n) b o:=fun b hb o=>⟨v,hv,hb⟩
  have hlist: ∀u,g.cur k n=some u→((u= .slice none 0 0∧n=0)∨∃b cap,u= .slice (some ⟨b,0,none⟩) n cap∧n≤cap)→sO g' w (.list t) l u:=by
    intro u hu hshape;rw[hv] at hu;obtain rfl:=aRl hu;rcases hshape with⟨rfl,h0⟩ |⟨b,cap,rfl,hcap⟩
    · have:l=[]:=aRJ (by rw[hl,h0])
      subst this;exact .inr ⟨rfl,none,0,rfl,Nat.le_refl _,.inl rfl⟩
    · refine .inr ⟨rfl,some ⟨b,0,none⟩,cap,by rw[hl],by rw[hl];exact hcap,.inr ⟨b,0,rfl,J8 (BD (fun _ _ h=>vZ le h) hF) (fun j u hu=> ?_) (fun j hj=> ?_)⟩⟩
      · have:=hown.cells (g:=b) rfl j u hu
        rwa [aSD] at this
      · right
        exact⟨rfl,by rw[hl] at hj;omega⟩
  have hik:i≠k:=fun e1=>by rw[e1,hk] at hi;cases hi
  obtain⟨p0,cs0,hp0,hR0,hra0,hth0,hns0,_⟩:=hH.blk i _ hi
  let b':pQ:= .cells q.1 q.2 []
  let H':rO:=(i,b')::(k,pQ.grow e t.cells (List.length l))::H
  have hget: ∀i' b,pT H' i'=some b→(i'=i∧b=b')∨(i'=k∧b= .grow e t.cells (List.length l))∨(i'≠k∧i'≠i∧pT H i'=some b):=by
    intro i' b hb;simp only[H',pT] at hb;split at hb
    ·rename_i e1;exact .inl ⟨e1.symm,(aRl hb).symm⟩
    · rename_i e1
      split at hb
      ·rename_i e2;exact .inr (.inl ⟨e2.symm,(aRl hb).symm⟩)
      ·rename_i e2;exact .inr (.inr ⟨Ne.symm e2,Ne.symm e1,hb⟩)
  have howns: ∀i' b bb o,pT H' i'=some b→rP g' i' b bb o→∃b0,pT H i'=some b0∧rP g i' b0 bb o:=by
    intro i' b bb o hb ho;rcases hget i' b hb with⟨rfl,rfl⟩ |⟨rfl,rfl⟩ |⟨_,_,h1⟩
    · obtain⟨p,hp,e1,e2,e3⟩:=ho
      rw[YM hq] at e3;exact⟨_,hi,p,hp,e1,e2,e3⟩
    · obtain⟨u,hu,hub⟩:=ho
      have hu':g.cur i' (List.length l)=some u:=hu;rw[hl] at hu';exact⟨_,hk,u,hu',hub⟩
    ·exact⟨b,h1,(y8 (g':=g') (g:=g) rfl rfl).1 ho⟩
  have hheap:rZ g' w H':=by
    refine⟨fun i' b hb=> ?_,fun i' j bi bj b o hij h1 h2 o1 o2=> ?_,fun b o hS=> ?_,hH.tab.1,fun i' b bb oo hb ho=>by
      obtain⟨c1,k1,k2⟩:=howns i' b bb oo hb ho;exact hH.tab.2 i' c1 bb oo k1 k2⟩
    · rcases hget i' b hb with⟨rfl,rfl⟩ |⟨rfl,rfl⟩ |⟨hne,_,h1⟩
      · have hk2: ∀cs,BY g' (some (k,n)) cs→Rd g' w (.list t) l cs:=by
          rintro cs ⟨v1,z1,z2,z3⟩;rw[z2];exact AD rfl (hlist v1 z1 z3)
        refine⟨p0,cs0,hp0,aHY (n:=n) hk2 hfr hq (vZ le hR0),hra0,?_,?_,fun _ _ hm=>by cases hm⟩
        ·rw[YM hq];exact⟨hth0.1,hth0.2⟩
        · rw[YM hq]
          intro j hj hS;rcases hS with hS|hS
          ·exact hns0 j hj hS
          ·exact hH.dis i' k _ _ p0.1 (p0.2+j) hik hi hk ⟨p0,hp0,rfl,by omega,by omega⟩ (hown2 _ hS.1 _)
      · refine⟨v,xs,by rw[hl];exact hv,by rw[hl];exact hown,fun m hm=>hnone m (by rw[hl] at hm;exact hm),fun b hb o hS=> ?_⟩
        rw[hl];rcases hS with hS|hS
        ·exact absurd hS (hseal b hb o)
        ·exact hS.2
      ·exact J5 (hH.blk i' b h1) le rfl rfl (fun _ _ _=>⟨rfl,rfl⟩) (fun _ _=>rfl) (fun bb o ho hS=>by
          rcases hS with hS|hS
          ·exact hS
          ·exact absurd (hown2 bb hS.1 o) (fun h5=>hH.dis i' k b _ bb o hne h1 hk ho h5)) (fun _ _ _ _ h=>h)
    · obtain⟨c1,k1,k2⟩:=howns i' bi b o h1 o1
      obtain⟨c2,k3,k4⟩:=howns j bj b o h2 o2;exact hH.dis i' j c1 c2 b o hij k1 k3 k2 k4
    · rcases hS with hS|hS
      ·exact hH.sl b o hS
      ·exact LG hown hS.1
  refine⟨g',hheap,rfl,fun side s rds vv hre hs=>⟨le,hs,hheap,⟨rfl,rfl,rfl,Nat.le_refl _,fun _ _ _=>rfl,fun _ _ _ _=>⟨rfl,rfl⟩,fun b o hS=> ?_,fun _ _ h=> .inl h⟩,fun i' blk b o hm hg ho=> ?_,fun _ _=>⟨rfl,rfl⟩,fun h=>by rw[hre] at h;cases h⟩⟩
  · rcases hS with hS|hS
    ·exact .inl hS
    ·exact .inr (.inr ⟨k,_,by simp [pU],hk,hown2 b hS.1 o⟩)
  · obtain⟨b0,k1,k2⟩:=howns i' blk b o hg ho
    exact .inr ⟨i',b0,hm,k1,k2⟩
section
variable {P:Program}{o:Oper}{a:Act}{g:Gh}{w:World}{H:rO}{T:sG}(hT:wY P T) (hH:rZ g w H)
include hT hH
theorem OP {t:TypeId}{ti:TI}(hty:sY P t ti) {x:ti.ty.den}{b off:Nat}{cs:List Value}(hra:w.rangeAt b off cs) (hR:Rd g w ti.ty x cs):
    ∃v,(Instr.loadAt t (.pointer (some ⟨b,off,none⟩))).run P w= .ok v w∧sO g w ti.ty x v∧v.cells.toList=cs:=by
  obtain⟨d,hd,hrow⟩:=SZ hty;obtain⟨i,hi,hsz,_⟩:=DU hty;have hl:=sH hR;by_cases hr:ti.ty.isRow=true
  ·refine⟨.agg cs.toArray,run_loadAt_mid w b off t cs d hra hd (by rw[hrow,hr]) (by rw[hi,Option.map_some,hsz,hl]),.inl ⟨hr,cs,rfl,hR⟩,by simp [Value.cells]⟩
  · have hr':ti.ty.isRow=false:=by simpa using hr
    have h1:ti.ty.cells=1:=by
      obtain⟨ty,el,by',ar,ls⟩:=ti;cases ty<;>first|rfl|(simp [Ty.isRow] at hr')
    obtain⟨v,rfl⟩: ∃v,cs=[v]:=by rw[h1] at hl;exact aSH.1 hl
    have hv1:=zV hR v (by simp);refine⟨v,?_,.inr ⟨hr',hR⟩,by cases v<;>first|rfl|(simp [Value.oneCell'] at hv1)⟩
    have hc:w.cell? ⟨b,off,none⟩=some v:=by simpa using hra 0 v rfl
    have hagg:(isAgg t).run P w= .ok false w:=by
      unfold isAgg;rw[aRw,aRA hd w];rw[hr'] at hrow;cases d<;>simp_all [TypeDesc.isRow]
    simp [Instr.loadAt,Instr.sureAddr,loadVar,aRw,hagg,hc]
theorem LI {b off:Nat}{c1 c2 c3:List Value}(h:w.rangeAt b off (c1++c2++c3)):w.rangeAt b (off+c1.length) c2:=fun j v hj=>by
  have:=h (c1.length+j) v (by
    have hj':=(aRu.1 hj).1;rw[aRo,aRq (by omega),aR1,aRz hj'];exact hj)
  rw[aR0];exact this
theorem a8V {k n c:Nat}{i:Int}{o':Nat}{v:Value}(hx:z8 g w (.elt k n c i o') v) {e:TypeId}{t:Ty}{l:List t.den}{m:Nat}(hk:pT H k=some (.row e t l m)) (hnm:n=m) (hc:c=t.cells):
    ∃ b cap xs c1 c2 c3,v= .pointer (some ⟨b,i.toNat*c+o',none⟩)∧g.cur k m=some (.slice (some ⟨b,0,none⟩) m cap)∧w.ownsRow 0 e t.cells (.slice (some ⟨b,0,none⟩) m cap) m xs∧sS (Rd g w t) t.cells l xs∧l.length=m∧i.toNat<l.length∧0≤i∧
      xs=c1++c2++c3∧c1.length=i.toNat*c∧c2.length=c∧Rd g w t (qD t l i) c2:=by
  subst hnm;subst hc;obtain⟨b,cap,h1,h2,h3,hv⟩:=hx;obtain⟨hl,v0,xs,hv0,hown,hF,hnone,hseal⟩:=hH.blk k _ hk;rw[h1] at hv0;obtain rfl:=aRl hv0;have hi:i.toNat<l.length:=by rw[hl];omega
  obtain⟨c1,c2,c3,e1,e2,e3,e4⟩:=a8U hF (aHW h2 hi);exact⟨b,cap,xs,c1,c2,c3,hv,h1,hown,hF,hl,hi,h2,e1,e2,e3,e4⟩
theorem aH0 {e:TypeId}{c n:Nat}{q cap:Nat}{xs:List Value}(h:w.ownsRow 0 e c (.slice (some ⟨q,0,none⟩) n cap) n xs):w.rangeAt q 0 xs:=fun j u hu=>by
  have:=h.cells (g:=q) rfl j u hu;rwa [aSD] at this
theorem aH1 {t:TypeId}{ti:TI}(hst:rF T t=some ti) {k n c:Nat}{i:Int}{o':Nat}{vx:Value}(hx:z8 g w (.elt k n c i o') vx) {e:pY}(hr:O5 ti.ty k n c i o' (pT H k)=some e) (hs: ∀p∈e.side,p):
    ∃v,(Instr.loadAt t vx).run P w= .ok v w∧qV g w e.slot v∧e.upd=[]:=by
  generalize hk:pT H k=ob at hr;unfold O5 at hr;split at hr
  · rename_i e' t' l m
    split at hr
    · rename_i hc
      generalize hga:qO ti.ty t' (qD t' l i) o'=oy at hr;cases oy with
      |none=>cases hr
      | some y=>
        cases hr;have hnm:=hs _ (aRr.2 rfl);obtain⟨b,cap,xs,c1,c2,c3,hv,hcur,hown,hF,hl,hi,h0,e1,e2,e3,e4⟩:=a8V hT hH hx hk hnm hc;obtain⟨d1,d2,d3,f1,f2,f3⟩:=CR e4 hga;have hra:=aH0 hT hH hown;rw[e1] at hra;have hra2:=LI hT hH hra;rw[f1] at hra2;have hra3:=LI hT hH hra2;rw[aRR,e2,f2] at hra3;obtain⟨v,h1,h2,_⟩:=OP hT hH (sP hT hst) hra3 f3;exact⟨v,by rw[hv];exact h1,⟨h2,trivial⟩,rfl⟩
    ·cases hr
  ·cases hr
theorem YN: ∀{toks:List (Nat×Nat)}{q k:Nat},wV toks q=some k→(q,k)∈toks
  |[],_,_,h=>by simp [wV] at h
  | (q',k')::r,q,k,h=>by
    simp only[wV] at h;split at h
    · rename_i e
      subst e;simp only[aRg] at h;subst h;simp
    ·exact aRt _ (YN h)
theorem a8W {u v:Ty}: ∀{t:Ty}{x:t.den}{q:Nat}{l:List u.den}{y:v.den},qO (.list u) t x q=some l→qO v t x q=some y→v.isRow=false→∃h:v= .list u,tV h y=l:=by
  intro t
  induction t with
  | pair s t ihs iht=>
    intro x q l y h1 h2 hv
    have key: ∀q,(if q<s.cells then qO (.list u) s x.1 q else qO (.list u) t x.2 (q-s.cells))=some l→(if q<s.cells then qO v s x.1 q else qO v t x.2 (q-s.cells))=some y→∃h:v= .list u,tV h y=l:=by
      intro q h1 h2;by_cases hq:q<s.cells
      ·rw[if_pos hq] at h1 h2;exact ihs h1 h2 hv
      ·rw[if_neg hq] at h1 h2;exact iht h1 h2 hv
    cases q with
    | zero=>
      have e1:Ty.pair s t≠.list u:=by intro h;cases h
      have e2:Ty.pair s t≠v:=by intro h;subst h;simp [Ty.isRow] at hv
      unfold qO at h1 h2;rw[aS4 e1] at h1;rw[aS4 e2] at h2;exact key 0 (by simpa using h1) (by simpa using h2)
    |succ q=>exact key (q+1) (by simpa[qO] using h1) (by simpa[qO] using h2)
  | _=>
    intro x q l y h1 h2 hv;cases q with
    | zero=>
      unfold qO at h1 h2;split at h1
      · rename_i e1
        split at h2
        · rename_i e2
          first
          |(cases e1;done)
          | (subst e2
             injection e1 with e1'
             subst e1';simp only[tV,aRg] at h1 h2;subst h1;subst h2;exact⟨rfl,rfl⟩)
        ·simp at h2
      ·simp at h1
    |succ q=>simp [qO] at h1
theorem aH2 {t:TypeId}{ti:TI}(hty:sY P t ti) (hr:ti.ty.isRow=false) {b off:Nat}{v:Value}(hc:w.cell? ⟨b,off,none⟩=some v):
    (Instr.loadAt t (.pointer (some ⟨b,off,none⟩))).run P w= .ok v w:=by
  obtain⟨d,hd,hrow⟩:=SZ hty
  have hagg:(isAgg t).run P w= .ok false w:=by
    unfold isAgg;rw[aRw,aRA hd w];rw[hr] at hrow;cases d<;>simp_all [TypeDesc.isRow]
  simp [Instr.loadAt,Instr.sureAddr,loadVar,aRw,hagg,hc]
omit hT hH in
theorem a8X {a b:Option pY}{e:pY}(h:orE a b=some e):a=some e∨b=some e:=by
  cases a with
  |some r=>exact .inl h
  |none=>exact .inr h
omit hT hH in
theorem a8Y {H:List (Nat×pQ)}{t:Ty}{i off:Nat}{b:Option pQ}{x:Option pY}{e:pY}(h:orS H t i off b x=some e):x=some e∨(x=none∧GX H t i off b=some e):=by
  cases x with
  |some r=>exact .inl h
  |none=>exact .inr ⟨rfl,h⟩
theorem aH3 {t:TypeId}{ti:TI}{x:Operand}(ho:o.op= .load t x) (hs:rF T t=some ti) {i off:Nat}(hx:sO g w .ref (some (i,off)) (a.eval x)) {e:pY}(hr:RW i off ti (pT H i)=some e):qP P o a g w H e:=by
  have hty:=sP hT hs;generalize hb:pT H i=ob at hr;unfold RW at hr;split at hr
  · rename_i u el _ _ _ v x' toks
    generalize hga:qO (.rl el u) v x' off=oy at hr;unfold XE at hr;split at hr
    · rename_i k n
      cases hr;obtain⟨p,hp,hv⟩:=yP hx;obtain⟨p',cs,hp',hR,hra,_⟩:=hH.blk i _ hb;rw[hp] at hp';obtain rfl:=aRl hp';obtain⟨c1,c2,c3,rfl,rfl,hR2⟩:=CR hR hga;obtain⟨v0,hcur,rfl,hsh⟩:=hR2;have hc:w.cell? ⟨p.1,p.2+c1.length,none⟩=some v0:=by simpa using LI hT hH hra 0 _ rfl
      have h1:=aH2 (P:=P) hT hH hty rfl hc;exact qP.value (v:=v0) (g':=g) (w':=w) (by simp only[execOp,ho,hv,aRw,h1,aRp,aRG]) (.pure hH ⟨⟨hcur,hsh⟩,trivial⟩)
    ·cases hr
  ·cases hr
theorem aH4 {t:TypeId}{ti:TI}{x:Operand}(ho:o.op= .load t x) (hs:rF T t=some ti) {i off:Nat}(hx:sO g w .ref (some (i,off)) (a.eval x)) {e:pY}(hr:GX H ti.ty i off (pT H i)=some e) (hside: ∀p∈e.side,p):qP P o a g w H e:=by
  have hty:=sP hT hs;generalize hb:pT H i=ob at hr;unfold GX at hr;split at hr
  case h_2=>cases hr
  rename_i v z toks;generalize hf:AB v z=of at hr;cases of with
  |none=>cases hr
  | some kn=>
    obtain⟨k,n0⟩:=kn;simp only[RY] at hr;generalize hk:pT H k=ok at hr;unfold RX at hr;split at hr
    case h_2=>cases hr
    rename_i el u0 l m;generalize hz:yM u0 l v z=oq at hr;cases oq with
    |none=>cases hr
    |some q=>
    obtain⟨v',x'⟩:=q;simp only[XJ] at hr;generalize hga:qO ti.ty v' x' off=oy at hr;cases oy with
    |none=>cases hr
    | some y=>
      simp only[XI,aRg] at hr;subst hr;have hnm:n0=m:=hside _ (aRr.2 rfl);subst hnm;obtain⟨g',hH',hJ,heff⟩:=aHZ hH hk hb hf hz;obtain⟨p,hp,hv⟩:=yP hx;obtain⟨p',cs,hp',hR,hra,_,_,_⟩:=hH'.blk i (.cells v' x' []) (by simp [qG,pT]);rw[hJ,hp] at hp';obtain rfl:=aRl hp';obtain⟨c1,c2,c3,rfl,rfl,hR2⟩:=CR hR hga;obtain⟨v0,h1,h2,_⟩:=OP hT hH' hty (LI hT hH' hra) hR2;exact qP.valueW (v:=v0) (g':=g') (w':=w) (by simp only[execOp,ho,hv,aRw,h1,aRp,aRG]) (heff _ _ _ _ rfl ⟨h2,trivial⟩)
theorem aH5 {t:TypeId}{x:Operand}(ho:o.op= .load t x) {sx:pR}(hx:qV g w sx (a.eval x)) {e:pY}(hr:RZ H (rF T t) sx=some e) (hside: ∀p∈e.side,p):qP P o a g w H e:=by
  generalize hs:rF T t=ot at hr;replace hx:=hx.1;unfold RZ at hr;split at hr
  · rename_i ti k n c i o' _
    obtain⟨v,h1,h2,h3⟩:=aH1 hT hH hs hx hr hside;obtain⟨side,slot,upd,rds⟩:=e;simp only at h2 h3;subst h3;exact qP.value (v:=v) (g':=g) (w':=w) (by simp only[execOp,ho,aRw,h1,aRp,aRG]) (.pure hH h2)
  · rename_i ti u y k
    split at hr
    · rename_i hu
      subst hu;cases hr;have hty:=sP hT hs;obtain⟨b,off,cs,hv,hra,hS,hR⟩:=hx;obtain⟨v,h1,h2,_⟩:=OP hT hH hty hra hR;exact qP.pure hH (v:=v) (by simp only[execOp,ho,hv,aRw,h1,aRp,aRG]) h2
    ·cases hr
  · rename_i ti i off k
    rcases a8Y hr with hr|⟨_,hr⟩
    case inr=>exact aH4 hT hH ho hs hx hr hside
    rcases a8X hr with hr|hr
    case inr=>exact aH3 hT hH ho hs hx hr
    have hty:=sP hT hs;generalize hb:pT H i=ob at hr;unfold O4 at hr;split at hr
    · rename_i u z toks
      generalize hga:qO ti.ty u z off=oy at hr;cases oy with
      |none=>cases hr
      | some y=>
        cases hr;obtain⟨p,hp,hv⟩:=yP hx;obtain⟨p',cs,hp',hR,hra,_,_,htk⟩:=hH.blk i _ hb;rw[hp] at hp';obtain rfl:=aRl hp';obtain⟨c1,c2,c3,rfl,rfl,hR2⟩:=CR hR hga;obtain⟨v,h1,h2,h3⟩:=OP hT hH hty (LI hT hH hra) hR2;refine qP.value (v:=v) (g':=g) (w':=w) (by simp only[execOp,ho,hv,aRw,h1,aRp,aRG]) (.pure hH ⟨h2,?_⟩);obtain⟨ty,el,by',ar,ls⟩:=ti;cases ty with
        | list u'=>
          simp only[F1];generalize htt:wV toks c1.length=ok;cases ok with
          |none=>trivial
          | some k=>
            obtain⟨u2,l,v',g1,g2,g3⟩:=htk _ _ (YN hT hH htt);obtain⟨heq,hl⟩:=a8W hT hH g1 hga rfl;injection heq with heq'
            subst heq';have hlen:=sH hR2;obtain⟨v2,rfl⟩:=aSH.1 hlen
            have e2:v'=v2:=by
              have e:(c1++[v2]++c3)[c1.length]? =some v2:=by simp
              rw[e] at g2;exact(aRl g2).symm
            have e3:v=v2:=by
              have h4:=AD rfl h2;have hone:=zV h4 v (by simp);have:v.cells= #[v]:=by cases v<;>first|rfl|(simp [Value.oneCell'] at hone)
              rw[this] at h3;simpa using h3
            subst e2;subst e3;have e4:(y:List u'.den)=l:=hl;subst e4;exact g3
        |_=>trivial
    ·cases hr
  ·cases hr
theorem T4 {ρ:Operand→pR}{x:Option Operand}{n m:Int}(hρ: ∀y∈x.toList,qV g w (ρ y) (a.eval y)) (h:CK (yN ρ x) n=some m):(x=none∧m=n)∨∃y k,x=some y∧a.eval y= .int k m:=by
  cases x with
  |none=>simp only[yN,CK,aRg] at h;exact .inl ⟨rfl,h.symm⟩
  | some y=>
    have h0:=hρ y (by simp);simp only[yN] at h;unfold CK at h;split at h
    ·cases ‹some _=none›
    · rename_i k q kk heq
      simp only[aRg] at heq h;rw[heq] at h0;subst h;exact .inr ⟨y,k,rfl,vL h0.1⟩
    ·cases h
theorem a8Z {isSlice:Bool}{len cap:Nat}{lo hi:Option Operand}{m n:Int}(hlo:(lo=none∧m=0)∨∃y k,lo=some y∧a.eval y= .int k m) (hhi:(hi=none∧n=(len:Int))∨∃y k,hi=some y∧a.eval y= .int k n)
    (h0:0≤m) (h1:m≤n) (h2:n≤(len:Int)) (h3:len≤cap):(Instr.sliceBounds isSlice len cap (lo.map a.eval) (hi.map a.eval) none).run P w= .ok (m.toNat,n.toNat,cap) w:=by
  have e1:(n.toNat:Int)=n:=Int.toNat_of_nonneg (by omega);rcases hlo with⟨rfl,rfl⟩ |⟨y,k,rfl,hy⟩<;>rcases hhi with⟨rfl,rfl⟩ |⟨z,k',rfl,hz⟩
  ·simp [Instr.sliceBounds]
  ·simp [Instr.sliceBounds,hz,run_sliceBound,(by omega:0≤n),(by omega:n≤(cap:Int))]
  ·simp [Instr.sliceBounds,hy,run_sliceBound,h0,h1]
  ·simp [Instr.sliceBounds,hy,hz,run_sliceBound,(by omega:0≤n),(by omega:n≤(cap:Int)),e1,h0,h1]
theorem aH6 {t:TypeId}{x:Operand}{lo hi:Option Operand}(ho:o.op= .slice t x lo hi none) {ρ:Operand→pR}(hx:qV g w (ρ x) (a.eval x)) (hlo: ∀y∈lo.toList,qV g w (ρ y) (a.eval y)) (hhi: ∀y∈hi.toList,qV g w (ρ y) (a.eval y)) {e:pY}
    (hr:A6 (WZ (rF T t) (ρ x) (yN ρ lo) (yN ρ hi))=some e) (hs: ∀p∈e.side,p):qP P o a g w H e:=by
  obtain⟨q,hq,rfl⟩:=J7 hr;replace hx:=hx.1;generalize hst:rF T t=ot at hq;generalize hsx:ρ x=sx at hq hx;unfold WZ at hq;split at hq
  · rename_i el by' ar ls_ l k
    generalize hb1:CK (yN ρ lo) 0=o1 at hq;generalize hb2:CK (yN ρ hi) (List.length l)=o2 at hq;unfold RF at hq;split at hq
    · rename_i m n
      cases hq;obtain⟨k1,k2,k3⟩:=hs _ (aRr.2 rfl);have h2:=(sP hT hst).2;simp only[xZ] at h2;have hv:=y9 hx;have hbd:=a8Z (P:=P) (isSlice:=false) (cap:=List.length l) hT hH (T4 hT hH hlo hb1) (T4 hT hH hhi hb2) k1 k2 k3 (Nat.le_refl _);refine qP.pure hH (v:= .string ⟨(q7 l m n).toArray⟩) ?_ (DT _ _ _);have hsz:(⟨List.toArray l⟩:ByteArray).size=List.length l:=by simp [ByteArray.size]
      have hext:(⟨List.toArray l⟩:ByteArray).extract m.toNat n.toNat=⟨(q7 l m n).toArray⟩:=by
        apply ByteArray.ext;apply aSv.1;simp [q7]
      simp only[execOp,ho,hv,Option.map_none,Instr.sliceAt,Instr.slice,aRw,aRA h2,aRp,Option.isSome_none,aSf,aTr,hsz,hbd,hext,aRG]
    ·cases hq
  · rename_i u el by' ar ls_ t1 l k
    split at hq
    · rename_i htu
      subst htu;generalize hb1:CK (yN ρ lo) 0=o1 at hq;generalize hb2:CK (yN ρ hi) (List.length l)=o2 at hq;unfold RF at hq;split at hq
      · rename_i m n
        cases hq;obtain⟨k1,k2,k3⟩:=hs _ (aRr.2 rfl);obtain⟨h2,h3,_⟩:=(sP hT hst).2;obtain⟨ei,hei,hz⟩:=aRx.1 h3;simp only[aRI] at hz;obtain⟨ad,cap,hv,hle,hl⟩:=CV hx;have hbd:=a8Z (P:=P) (isSlice:=true) (cap:=cap) hT hH (T4 hT hH hlo hb1) (T4 hT hH hhi hb2) k1 k2 k3 hle;refine qP.pure hH (v:= .slice (if cap=m.toNat then ad else ad.map (·.add (m.toNat*t1.cells))) (n.toNat-m.toNat) (cap-m.toNat)) ?_ (.inr ⟨rfl,(if cap=m.toNat then ad else ad.map (·.add (m.toNat*t1.cells))),cap-m.toNat,?_,?_,?_⟩)
        ·simp only[execOp,ho,hv,Option.map_none,Instr.sliceAt,Instr.slice,aRw,aRA h2,aRp,hbd,sizeOf,typeInfo,aSp,hei,hz.1,aRG]
        ·rw[YK k1 k2 k3]
        ·rw[YK k1 k2 k3];omega
        · rcases hl with rfl|⟨b,off,rfl,hL⟩
          ·exact .inl (by simp [q7])
          · by_cases hc:cap=m.toNat
            · left
              apply aRJ;rw[YK k1 k2 k3];omega
            · right
              rw[if_neg hc];refine⟨b,off+m.toNat*t1.cells,by simp [aSD],?_⟩;exact a8K _ (a8J _ hL (by omega))
      ·cases hq
    ·cases hq
  ·cases hq
end
theorem OQ {α:Type}{R:α->List Value->Prop}{c:Nat}(hR: ∀x cs,R x cs->∀v∈cs,v.oneCell'=true): ∀{l:List α}{cs:List Value},sS R c l cs->∀v∈cs,v.oneCell'=true
 |[],_,h=>by rw[h];simp
 |_::_,_,⟨c1,c2,e,_,h2,h3⟩=>by
  subst e;intro v hv;rcases aRO.1 hv with h|h
  ·exact hR _ _ h2 v h
  ·exact OQ hR h3 v h
theorem YO {α:Type}{R:α->List Value->Prop}{c:Nat}: ∀{l:List α}{cs cy:List Value}{i:Nat}{y:α},sS R c l cs->R y cy->cy.length=c->i<l.length->
  ∃c1 c2 c3,cs=c1++c2++c3/\c1.length=i*c/\c2.length=c/\sS R c (l.set i y) (c1++cy++c3)
 |[],_,_,_,_,_,_,_,h=>by simp at h
 |_::l,_,cy,0,y,⟨c1,c2,e,h1,_,h3⟩,hy,hc,_=>⟨[],c1,c2,by simpa using e,by simp,h1,⟨cy,c2,by simp,hc,hy,h3⟩⟩
 |x::l,_,cy,i+1,y,⟨c1,c2,e,h1,h2,h3⟩,hy,hc,hi=>by
  obtain⟨d1,d2,d3,e1,e2,e3,e4⟩:=YO h3 hy hc (by simpa using hi);refine⟨c1++d1,d2,d3,by rw[e,e1];simp,by rw[aRh,h1,e2,aSr];omega,e3,⟨c1,d1++cy++d3,by simp,h1,h2,e4⟩⟩
theorem LJ {α:Type}{R:α->List Value->Prop}{w:World}{S:Nat->Nat->Prop}{c b:Nat}: ∀{l:List α}{o:Nat},xX R w S c b o l->∃cs,sS R c l cs/\w.rangeAt b o cs/\∀j,j<l.length*c->S b (o+j)
 |[],o,_=>⟨[],rfl,fun j v h=>by simp at h,fun j h=>by simp at h⟩
 |x::l,o,⟨⟨c1,h1,h2,h3,h4⟩,h5⟩=>by
  obtain⟨c2,k1,k2,k3⟩:=LJ h5;refine⟨c1++c2,⟨c1,c2,rfl,h1,h4,k1⟩,fun j v hv=> ?_,fun j hj=> ?_⟩
  ·by_cases hj:j<c
   ·exact h2 j v (by rwa [aRz (by omega)] at hv)
   ·have:=k2 (j-c) v (by rw[aRq (by omega),h1] at hv;exact hv);rwa [show o+c+(j-c)=o+j from by omega] at this
  ·by_cases hj':j<c
   ·exact h3 j hj'
   ·have:=k3 (j-c) (by rw[aRj,aSr] at hj;omega);rwa [show o+c+(j-c)=o+j from by omega] at this
theorem a80 {g:Gh}{w:World}{t:Ty}: ∀n,sS (Rd g w t) t.cells (BT t n) (List.flatten (List.replicate n (tD t)))
 |0=>rfl
 |n+1=>⟨tD t,_,rfl,sH (CU g w t),CU g w t,a80 n⟩
theorem a81 (t:Ty): ∀n,(BT t n).length=n
 |0=>rfl
 |n+1=>by simp [BT,a81 t n]
def Gh.tok (g:Gh) (k n:Nat) (v:Value):Gh:={g with cur:=fun k' n'=>if k'=k/\n'=n then some v else g.cur k' n'}
def Gh.var (g:Gh) (i b:Nat) (k:Option (TypeId×Nat)):Gh:={g with J:=fun i'=>if i'=i then some ⟨b,0,k⟩ else g.J i'}
def Gh.shut (g:Gh) (b m:Nat):Gh:={g with S:=fun b' o=>g.S b' o\/(b'=b/\o<m)}
section
variable {g:Gh}{w:World}{H:rO}(hH:rZ g w H)
include hH
theorem rS.nilTok {side:List Prop}{d:DV}{rds:List Nat}{base e c:Nat}{u:Ty}(hd:d= .val (.list u) []) (hf: ∀n,g.cur base n=none):
  rS g w H ⟨side,(d,some base),[(base,.grow e c 0)],rds⟩ (g.tok base 0 (.slice none 0 0)) w (.slice none 0 0):=by
 have le:Le g w (g.tok base 0 (.slice none 0 0)) w:=⟨fun _ _ h=>h,fun _ _ _=>rfl,fun _ _ h=>h,fun k n v h=>by
  show (if k=base/\n=0 then _ else _)=_;rw[if_neg (fun⟨e1,_⟩=>by rw[e1,hf] at h;cases h)];exact h⟩
 have fr:Fr (sJ g H (pU [(base,pQ.grow e c 0)])) w w g.S (g.tok base 0 (.slice none 0 0)).S:= .refl _ _ _;have gho: ∀i,i∉pU [(base,pQ.grow e c 0)]->(g.tok base 0 (.slice none 0 0)).J i=g.J i/\(g.tok base 0 (.slice none 0 0)).cur i=g.cur i:=fun i hi=>⟨rfl,by
  funext n;show (if i=base/\n=0 then _ else _)=_;rw[if_neg (fun⟨e1,_⟩=>hi (by simp [pU,e1]))]⟩
 have cur0:(g.tok base 0 (.slice none 0 0)).cur base 0=some (.slice none 0 0):=by simp [Gh.tok]
 have own: ∀i blk b o,i∈pU [(base,pQ.grow e c 0)]->pT (qG [(base,pQ.grow e c 0)] H) i=some blk->¬rP (g.tok base 0 (.slice none 0 0)) i blk b o:=by
  intro i blk b o hi hg ho;simp only[pU,aRr] at hi;subst hi;simp only[qG,pT,aSV,aRg] at hg;subst hg;obtain⟨v,hv,hb⟩:=ho;rw[cur0] at hv;obtain rfl:=aRl hv;cases hb
 subst hd;refine⟨le,⟨.inr ⟨rfl,none,0,rfl,Nat.le_refl _,.inl rfl⟩,cur0⟩,hH.upd le fr (fun i blk b o h1 h2 h3=>absurd h3 (own i blk b o h1 h2)) gho (fun i blk hi hg=> ?_) (fun i j bi bj b o hi hj hij hgi hgj hoi hoj=>own i bi b o hi hgi hoi) hH.sl,fr,fun i blk b o h1 h2 h3=>absurd h3 (own i blk b o h1 h2),gho,fun i u' y us h=>by
  simp only[qG,pT] at h;split at h
  ·cases h
  ·exact .inl ⟨y,us,h⟩⟩
 simp only[pU,aRr] at hi;subst hi;simp only[qG,pT,aSV,aRg] at hg;subst hg;refine⟨.slice none 0 0,[],cur0,World.ownsRow_nil w 0 e c,fun m hm=> ?_,fun b hb=>by cases hb⟩;show (if i=i/\m=0 then _ else _)=_;rw[if_neg (by omega)];exact hf m
theorem rS.row {side:List Prop}{rds:List Nat}{s:pR}{val:Value}{k:Nat}{e:TypeId}{t:Ty}{l:List t.den}{n:Nat}{v:Value}{xs:List Value}{w':World}
  (hl:l.length=n) (hown:w'.ownsRow 0 e t.cells v n xs) (hF:sS (Rd g w t) t.cells l xs) (hnone: ∀m,n<m->g.cur k m=none) (hcur: ∀u,g.cur k n=some u->u=v)
  (hg:w.grownBy w' (v.ownBlock)\/∃q,w.grownBy w' q/\∀b,q=some b->∀o,sJ g H [k] b o)
  (hcell: ∀b o,g.S b o->w'.cell? ⟨b,o,none⟩=w.cell? ⟨b,o,none⟩)
  (hseal: ∀b,v.ownBlock=some b->∀o,¬g.S b o)
  (hperm: ∀b,v.ownBlock=some b->w.heap.size<=b\/∀o,sJ g H [k] b o)
  (hslot:qV (g.tok k n v) w' s val):rS g w H ⟨side,s,[(k,.row e t l n)],rds⟩ (g.tok k n v) w' val:=by
 have le:Le g w (g.tok k n v) w':=⟨fun _ _ h=>h,fun b o h=>hcell b o h,fun _ _ h=>h,fun k' n' v' h=>by
  show (if k'=k/\n'=n then _ else _)=_;by_cases hk:k'=k/\n'=n
  ·obtain⟨rfl,rfl⟩:=hk;rw[if_pos ⟨rfl,rfl⟩,hcur _ h]
  ·rw[if_neg hk];exact h⟩
 have cur1:(g.tok k n v).cur k n=some v:=by simp [Gh.tok]
 have hblk: ∀b,b<w.heap.size->(∀o,¬sJ g H (pU [(k,pQ.row e t l n)]) b o)->w'.heap[b]? =w.heap[b]? :=by
  intro b hb hno;rcases hg with hg|⟨q,hg,hq⟩
  ·refine hg.block b hb (fun e1=> ?_);rcases hperm b e1.symm with h|h
   ·omega
   ·exact hno 0 (h 0)
  ·exact hg.block b hb (fun e1=>hno 0 (hq b e1.symm 0))
 have hgo:w'.os=w.os/\w'.tape=w.tape/\w'.output=w.output/\w.heap.size<=w'.heap.size:=by
  rcases hg with hg|⟨q,hg,_⟩
  ·exact⟨hg.os,hg.tape,hg.output,hg.size⟩
  ·exact⟨hg.os,hg.tape,hg.output,hg.size⟩
 have hall: ∀b o,sJ g H (pU [(k,pQ.row e t l n)]) b o->True:=fun _ _ _=>trivial;have hcell2: ∀b o,b<w.heap.size->¬sJ g H (pU [(k,pQ.row e t l n)]) b o->(w'.cell? ⟨b,o,none⟩=w.cell? ⟨b,o,none⟩/\w'.frozen? ⟨b,o,none⟩=w.frozen? ⟨b,o,none⟩):=by
  intro b o hb hno;have:w'.heap[b]? =w.heap[b]? :=by
   rcases hg with hg|⟨q,hg,hq⟩
   ·refine hg.block b hb (fun e1=> ?_);rcases hperm b e1.symm with h|h
    ·omega
    ·exact hno (h o)
   ·exact hg.block b hb (fun e1=>hno (hq b e1.symm o))
  exact⟨aRF (a:=⟨b,o,none⟩) this,aSj (a:=⟨b,o,none⟩) this⟩
 have hshape: ∀b s,w.shape? b=some s->w'.shape? b=some s\/∀o,sJ g H (pU [(k,pQ.row e t l n)]) b o:=by
  intro b s hs;rcases hg with hg|⟨q,hg,hq⟩
  ·by_cases e1:v.ownBlock=some b
   ·rcases hperm b e1 with h|h
    ·have:=CS hs;omega
    ·exact .inr h
   ·exact .inl ((CT (hg.block b (CS hs) (fun h=>e1 h.symm))).trans hs)
  ·by_cases e1:q=some b
   ·exact .inr (hq b e1)
   ·exact .inl ((CT (hg.block b (CS hs) (fun h=>e1 h.symm))).trans hs)
 have fr:Fr (sJ g H (pU [(k,pQ.row e t l n)])) w w' g.S (g.tok k n v).S:=⟨hgo.1,hgo.2.1,hgo.2.2.1,hgo.2.2.2,hblk,hcell2,fun b o h=> .inl h,hshape⟩;have gho: ∀i,i∉pU [(k,pQ.row e t l n)]->(g.tok k n v).J i=g.J i/\(g.tok k n v).cur i=g.cur i:=fun i hi=>⟨rfl,by
  funext n';show (if i=k/\n'=n then _ else _)=_;rw[if_neg (fun⟨e1,_⟩=>hi (by simp [pU,e1]))]⟩
 have get: ∀i blk,i∈pU [(k,pQ.row e t l n)]->pT (qG [(k,pQ.row e t l n)] H) i=some blk->i=k/\blk= .row e t l n:=by
  intro i blk hi hg;simp only[pU,aRr] at hi;subst hi;simp only[qG,pT,aSV,aRg] at hg;exact⟨rfl,hg.symm⟩
 have perm: ∀i blk b o,i∈pU [(k,pQ.row e t l n)]->pT (qG [(k,pQ.row e t l n)] H) i=some blk->rP (g.tok k n v) i blk b o->w.heap.size<=b\/sJ g H (pU [(k,pQ.row e t l n)]) b o:=by
  intro i blk b o hi hgt ho;obtain⟨rfl,rfl⟩:=get i blk hi hgt;obtain⟨v',hv',hb⟩:=ho;rw[cur1] at hv';obtain rfl:=aRl hv';exact(hperm b hb).imp id (fun h=>h o)
 refine⟨le,hslot,hH.upd le fr perm gho (fun i blk hi hgt=> ?_) (fun i j bi bj b o hi hj hij hgi hgj _ _=>hij ((get i bi hi hgi).1.trans (get j bj hj hgj).1.symm)) (fun b o h=>aRX (hH.sl b o h) hgo.2.2.2),fr,perm,gho,fun i u' y us h=>by
  simp only[qG,pT] at h;split at h
  ·cases h
  ·exact .inl ⟨y,us,h⟩⟩
 obtain⟨rfl,rfl⟩:=get i blk hi hgt;refine⟨hl,v,xs,cur1,hown,BD (fun _ _ h=>vZ le h) hF,fun m hm=> ?_,hseal⟩;show (if i=i/\m=n then _ else _)=_;rw[if_neg (by omega)];exact hnone m hm
theorem rS.newVarJ {side:List Prop}{rds:List Nat}{base:Nat}{t:Ty}{x:t.den}{toks:List (Nat×Nat)}{cs:List Value}{e:TypeId}(hR:Rd (g.var base w.heap.size (some (e,cs.length))) w t x cs) (htk:FA g t x cs toks) (hf:g.J base=none) (hc:g.cur base=fun _=>none):
  rS g w H ⟨side,(.val .ref (some (base,0)),none),[(base,.cells t x toks)],rds⟩ (g.var base w.heap.size (some (e,cs.length))) (w.alloc (.cells cs.toArray e)) (.pointer (some ⟨w.heap.size,0,none⟩)):=by
 have hJ:(g.var base w.heap.size (some (e,cs.length))).J base=some ⟨w.heap.size,0,some (e,cs.length)⟩:=by simp [Gh.var]
 have le:Le g w (g.var base w.heap.size (some (e,cs.length))) (w.alloc (.cells cs.toArray e)):=⟨fun _ _ h=>h,fun b o h=>aRF (a:=⟨b,o,none⟩) (aRL _ _ _ (hH.sl b o h)),fun i p h=>by
  show (if i=base then _ else _)=_;rw[if_neg (fun e1=>by rw[e1,hf] at h;cases h)];exact h,fun _ _ _ h=>h⟩
 have le2:Le (g.var base w.heap.size (some (e,cs.length))) w (g.var base w.heap.size (some (e,cs.length))) (w.alloc (.cells cs.toArray e)):=⟨fun _ _ h=>h,fun b o h=>aRF (a:=⟨b,o,none⟩) (aRL _ _ _ (hH.sl b o h)),fun _ _ h=>h,fun _ _ _ h=>h⟩;have fr:Fr (sJ g H (pU [(base,pQ.cells t x toks)])) w (w.alloc (.cells cs.toArray e)) g.S (g.var base w.heap.size (some (e,cs.length))).S:=
  ⟨rfl,rfl,rfl,by simp,fun b hb _=>aRL _ _ _ hb,fun b o hb _=>⟨aRF (a:=⟨b,o,none⟩) (aRL _ _ _ hb),aSj (a:=⟨b,o,none⟩) (aRL _ _ _ hb)⟩,fun b o h=> .inl h,fun b s h=> .inl ((CT (aRL _ _ _ (CS h))).trans h)⟩
 have gho: ∀i,i∉pU [(base,pQ.cells t x toks)]->(g.var base w.heap.size (some (e,cs.length))).J i=g.J i/\(g.var base w.heap.size (some (e,cs.length))).cur i=g.cur i:=fun i hi=>⟨by
  show (if i=base then _ else _)=_;rw[if_neg (fun e1=>hi (by simp [pU,e1]))],rfl⟩
 have get: ∀i blk,i∈pU [(base,pQ.cells t x toks)]->pT (qG [(base,pQ.cells t x toks)] H) i=some blk->i=base/\blk= .cells t x toks:=by
  intro i blk hi hg;simp only[pU,aRr] at hi;subst hi;simp only[qG,pT,aSV,aRg] at hg;exact⟨rfl,hg.symm⟩
 have perm: ∀i blk b o,i∈pU [(base,pQ.cells t x toks)]->pT (qG [(base,pQ.cells t x toks)] H) i=some blk->rP (g.var base w.heap.size (some (e,cs.length))) i blk b o->w.heap.size<=b\/sJ g H (pU [(base,pQ.cells t x toks)]) b o:=by
  intro i blk b o hi hg ho;obtain⟨rfl,rfl⟩:=get i blk hi hg;obtain⟨p,hp,h1,_⟩:=ho;rw[hJ] at hp;obtain rfl:=aRl hp;exact .inl (aSW h1.symm)
 have hl:=sH hR;refine⟨le,⟨.inr ⟨rfl,_,hJ,rfl⟩,trivial⟩,hH.upd le fr perm gho (fun i blk hi hg=> ?_) (fun i j bi bj b o hi hj hij hgi hgj _ _=>hij ((get i bi hi hgi).1.trans (get j bj hj hgj).1.symm)) (fun b o h=>aRX (hH.sl b o h) (by simp)),fr,perm,gho,fun i u' y us h=>by
  simp only[qG,pT] at h;split at h
  ·rename_i e1;subst e1;exact .inr ⟨hf,fun n=>by rw[hc]⟩
  ·exact .inl ⟨y,us,h⟩⟩
 obtain⟨rfl,rfl⟩:=get i blk hi hg;refine⟨_,cs,hJ,vZ le2 hR,fun j v hv=> ?_,⟨fun j hj=> ?_,fun _ s hs=> ?_⟩,fun j _ hs=>aTa _ (hH.sl _ _ hs),a8I le.cur htk⟩
 ·simp only[aRR];rw[aSL];simpa using hv
 ·simp only[aRR];rw[aSL,World.frozen?_alloc_new];exact⟨by simp;omega,rfl⟩
 ·cases hs;show (match (w.heap.push (.cells cs.toArray e))[w.heap.size]? with|some (.cells c elem _)=>some (elem,c.size) |_=>none)=_
  rw[aTl];simp only[aR8]
theorem rS.newVar {side:List Prop}{rds:List Nat}{base:Nat}{t:Ty}{x:t.den}{toks:List (Nat×Nat)}{cs:List Value}{e:TypeId}(hR:Rd g w t x cs) (htk:FA g t x cs toks) (hf:g.J base=none) (hc:g.cur base=fun _=>none):
  rS g w H ⟨side,(.val .ref (some (base,0)),none),[(base,.cells t x toks)],rds⟩ (g.var base w.heap.size (some (e,cs.length))) (w.alloc (.cells cs.toArray e)) (.pointer (some ⟨w.heap.size,0,none⟩)):=
 rS.newVarJ hH (vZ (g:=g) (g':=g.var base w.heap.size (some (e,cs.length))) (w:=w) (w':=w) ⟨fun _ _ h=>h,fun _ _ _=>rfl,fun i p h=>by
  show (if i=base then _ else _)=_;rw[if_neg (fun e1=>by rw[e1,hf] at h;cases h)];exact h,fun _ _ _ h=>h⟩ hR) htk hf hc
end
theorem YP {P:Program}(w:World) (t ty e:TypeId) (i:TypeInfo) (z:Value) (size bytes:Nat) (ht:P.underlying t=some (.slice e)) (hi:P.info? e=some i) (hz:i.zero=some z)
  (hsize:i.size=size) (hby:i.bytes=bytes) (hzs:z.cells.size=size)
  (v:Value) (n:Nat) (xs:List Value) (hown:w.ownsRow 0 e size v n xs)
  (a:Addr) (m c:Nat) (news:List Value) (hl:news.length=m*size) (hnews: ∀j u,news[j]? =some u->w.cell? (a.add j)=some u) (h1: ∀u∈news,u.oneCell'=true) (hm:0<m)
  (h63:n+m<=maxLen) (hbytes:(n+m)*bytes<=140737488355328):
  ∃q cap w',(Builtin.append_ #[t,t] ty #[v,.slice (some a) m c]).run P w= .ok (.slice (some ⟨q,0,none⟩) (n+m) cap) w'/\w'.ownsRow 0 e size (.slice (some ⟨q,0,none⟩) (n+m) cap) (n+m) (xs++news)/\
   (q=w.heap.size\/v.ownBlock=some q)/\w.grownBy w' v.ownBlock/\n+m<=cap/\
   ∀b o,b<w.heap.size->(v.ownBlock=some b->o<n*size)->w'.cell? ⟨b,o,none⟩=w.cell? ⟨b,o,none⟩:=by
 subst hsize;subst hby;have hsmall:n+m<=9223372036854775807:=by simp only[maxLen] at h63;omega
 have hlen:(xs++news).length=(n+m)*i.size:=by rw[aRh,hown.1,hl,Nat.add_mul]
 have grown: ∀(old:Nat),old<n+m->∀(row:Option Nat),
   (w.drew.alloc (.cells (xs.toArray++news.toArray++Builtin.zeroCells z.cells (grownCap w (n+m) old e- (n+m))) e)).ownsRow 0 e i.size
    (.slice (some ⟨w.heap.size,0,none⟩) (n+m) (grownCap w (n+m) old e)) (n+m) (xs++news)/\
   w.grownBy (w.drew.alloc (.cells (xs.toArray++news.toArray++Builtin.zeroCells z.cells (grownCap w (n+m) old e- (n+m))) e)) row/\n+m<=grownCap w (n+m) old e/\
   ∀b o,b<w.heap.size->(w.drew.alloc (.cells (xs.toArray++news.toArray++Builtin.zeroCells z.cells (grownCap w (n+m) old e- (n+m))) e)).cell? ⟨b,o,none⟩=w.cell? ⟨b,o,none⟩:=by
  intro old ho row;have hge:=grownCap_ge w (n+m) old e;have hcm:grownCap w (n+m) old e<=maxLen:=grownCap_le_maxLen w (n+m) old e h63;refine⟨⟨hlen,.inr ⟨w.heap.size,_,_,rfl,aSg _,aTs w.drew _,hge,hcm,?_,?_⟩⟩,⟨rfl,rfl,rfl,by simp,fun k hk _=>aRL w.drew _ k hk⟩,hge,fun b o hb=>aRF (w:=w) (a:=⟨b,o,none⟩) (aRL w.drew _ b hb)⟩
  ·simp only[aTq,aR8,size_zeroCells,hzs,hown.1,hl,<-Nat.add_mul];congr 1;omega
  ·simp only[Array.toList_append,aRo];rw[<-aRo,<-hlen];exact aSE
 rcases hown.2 with⟨rfl,rfl⟩ |⟨g,cap,cur,rfl,hbg,hg,hnc,hcm,hcs,htake⟩
 ·have hx:xs=[]:=aRJ (by simpa using hown.1);subst hx;have hr:=run_append_nil (P:=P) w t ty e i z ht hi hz a m c news hl hnews (by omega) (by omega) (by have hb:=hbytes;simp only[aRR] at hb;omega);have hgr:=grown 0 (by omega) (Value.ownBlock (.slice none 0 0));simp only[aRR,List.nil_append,Array.empty_append] at hgr⊢;exact⟨_,_,_,hr,hgr.1,.inl rfl,hgr.2.1,hgr.2.2.1,fun b o hb _=>hgr.2.2.2 b o hb⟩
 ·by_cases hroom:n+m<=cap
  ·have hfit:n*i.size+news.length<=cur.size:=by rw[hl,hcs,<-Nat.add_mul];exact aTc _ hroom
   have hr:=run_append_room (P:=P) w t ty e i ht hi g n cap cur hg a m c news hl hnews h1 hroom hfit;refine⟨_,_,_,hr,⟨hlen,.inr ⟨g,cap,_,rfl,hbg,aTi w g cur _ e _ hg,hroom,hcm,?_,?_⟩⟩,.inr rfl,⟨rfl,rfl,rfl,by simp,fun k _ hk=>aST w g k _ (fun e=>hk (by simp [Value.ownBlock,e]))⟩,hroom,fun b o hb hso=> ?_⟩
   ·simp only[aR8,aRh,aRH,aRy,aRP];omega
   ·rw[htake,<-hlen];exact aSE
   ·by_cases hbg':b=g
    ·subst hbg';have ho:=hso rfl;rw[cell_setRow_same w b o cur _ e _ hg,cell_of_row w b o cur e (0,0) hg];have hlt:o<(cur.toList.take (n*i.size)).length:=by rw[aRH,aRP];omega
     rw[aRo,List.getElem?_toArray,aRz hlt,aS6,if_pos ho,aSt]
    ·exact aRF (w:=w) (a:=⟨b,o,none⟩) (aST w g b _ hbg')
  ·have holds: ∀j u,xs[j]? =some u->w.cell? ((⟨g,0,none⟩:Addr).add j)=some u:=hown.cells (g:=g) rfl;have hr:=run_append_grow (P:=P) w t ty e i z ht hi hz ⟨g,0,none⟩ n cap xs hown.1 holds a m c news hl hnews (by omega) (by omega) (growslice_fits (by omega) hbytes);have hgr:=grown cap (by omega) (Value.ownBlock (.slice (some ⟨g,0,none⟩) n cap));exact⟨_,_,_,hr,hgr.1,.inl rfl,hgr.2.1,hgr.2.2.1,fun b o hb _=>hgr.2.2.2 b o hb⟩
theorem YQ {w:World}{e:TypeId}{c n:Nat}{q cap:Nat}{xs:List Value}(h:w.ownsRow 0 e c (.slice (some ⟨q,0,none⟩) n cap) n xs):w.rangeAt q 0 xs:=fun j u hu=>by
 have:=h.cells (g:=q) rfl j u hu;rwa [aSD] at this
theorem aH7 (w:World) (a:Addr) (v:Value) (b:Nat):(w.setCell a v).shape? b=w.shape? b:=by
 unfold World.shape? World.setCell;simp only[aSN];by_cases h:a.block=b
 ·rw[if_pos h];cases hb:w.heap[b]? with
  |none=>rfl
  |some x=>
   cases x with
   |cells c e f=>
    simp only[Option.map_some];split<;>simp
   |_=>rfl
 ·rw[if_neg h]
theorem OR (b:Nat): ∀(l:List Value) (o:Nat) (w:World) (b':Nat),(w.setCells b o l).shape? b'=w.shape? b'
 |[],_,_,_=>rfl
 |v::l,o,w,b'=>by rw[World.setCells,OR b l,aH7]
section
variable {g:Gh}{w:World}{H:rO}(hH:rZ g w H)
include hH
theorem rS.append {side:List Prop}{rds:List Nat}{k e c n:Nat}{u:Ty}{l r:List u.den}{w':World}{q cap:Nat}{v:Value}{xs news:List Value}(hk:pT H k=some (.grow e c n)) (hc:c=u.cells)
  (hln:l.length=n) (hv:g.cur k n=some v) (hown:w.ownsRow 0 e c v n xs) (hnone: ∀m,n<m->g.cur k m=none) (hseal: ∀b,v.ownBlock=some b->∀o,g.S b o->o<n*c) (hl:sS (Rd g w u) c l xs) (hr:sS (Rd g w u) c r news) (hm:0<r.length)
  (ho:w'.ownsRow 0 e c (.slice (some ⟨q,0,none⟩) (n+r.length) cap) (n+r.length) (xs++news)) (hq:q=w.heap.size\/v.ownBlock=some q) (hg:w.grownBy w' v.ownBlock) (hcap:n+r.length<=cap)
  (hcell: ∀b o,b<w.heap.size->(v.ownBlock=some b->o<n*c)->w'.cell? ⟨b,o,none⟩=w.cell? ⟨b,o,none⟩):
  rS g w H ⟨side,(.val (.list u) (l++r),some k),[(k,.grow e c (n+r.length))],rds⟩ ((g.tok k (n+r.length) (.slice (some ⟨q,0,none⟩) (n+r.length) cap)).shut q ((n+r.length)*c)) w' (.slice (some ⟨q,0,none⟩) (n+r.length) cap):=by
 have hnb:=hnone (n+r.length) (by omega);have hownk: ∀o b,v.ownBlock=some b->sJ g H (pU [(k,pQ.grow e c (n+r.length))]) b o:=fun o b hb=>⟨k,_,by simp [pU],hk,v,hv,hb⟩;have hqlt:q<w'.heap.size:=(ho.lt q rfl).2;have le:Le g w ((g.tok k (n+r.length) (.slice (some ⟨q,0,none⟩) (n+r.length) cap)).shut q ((n+r.length)*c)) w':=⟨fun _ _ h=> .inl h,fun b o h=>hcell b o (hH.sl b o h) (fun hb=>hseal b hb o h),fun _ _ h=>h,fun k' n' v' h=>by
  show (if k'=k/\n'=n+r.length then _ else _)=_;rw[if_neg (fun⟨e1,e2⟩=>by rw[e1,e2,hnb] at h;cases h)];exact h⟩
 have fr:Fr (sJ g H (pU [(k,pQ.grow e c (n+r.length))])) w w' g.S ((g.tok k (n+r.length) (.slice (some ⟨q,0,none⟩) (n+r.length) cap)).shut q ((n+r.length)*c)).S:=by
  have hbk: ∀b,b<w.heap.size->∀o,¬sJ g H (pU [(k,pQ.grow e c (n+r.length))]) b o->w'.heap[b]? =w.heap[b]? :=fun b hb o hno=>hg.block b hb (fun e1=>hno (hownk o b e1.symm));refine⟨hg.os,hg.tape,hg.output,hg.size,fun b hb hno=>hbk b hb 0 (hno 0),fun b o hb hno=>⟨aRF (a:=⟨b,o,none⟩) (hbk b hb o hno),aSj (a:=⟨b,o,none⟩) (hbk b hb o hno)⟩,fun b o h=> ?_,fun b s hs=> ?_⟩
  rotate_left
  ·by_cases e1:v.ownBlock=some b
   ·exact .inr fun o=>hownk o b e1
   ·exact .inl ((CT (hg.block b (CS hs) (fun h=>e1 h.symm))).trans hs)
  rcases h with h|⟨rfl,_⟩
  ·exact .inl h
  ·rcases hq with h|h
   ·exact .inr (.inl (aSW h.symm))
   ·exact .inr (.inr (hownk o b h))
 have gho: ∀i,i∉pU [(k,pQ.grow e c (n+r.length))]->((g.tok k (n+r.length) (.slice (some ⟨q,0,none⟩) (n+r.length) cap)).shut q ((n+r.length)*c)).J i=g.J i/\((g.tok k (n+r.length) (.slice (some ⟨q,0,none⟩) (n+r.length) cap)).shut q ((n+r.length)*c)).cur i=g.cur i:=fun i hi=>⟨rfl,by
  funext n';show (if i=k/\n'=n+r.length then _ else _)=_;rw[if_neg (fun⟨e1,_⟩=>hi (by simp [pU,e1]))]⟩
 have cur1:((g.tok k (n+r.length) (.slice (some ⟨q,0,none⟩) (n+r.length) cap)).shut q ((n+r.length)*c)).cur k (n+r.length)=some (.slice (some ⟨q,0,none⟩) (n+r.length) cap):=by
  show (if k=k/\n+r.length=n+r.length then _ else _)=_;simp
 have get: ∀i blk,i∈pU [(k,pQ.grow e c (n+r.length))]->pT (qG [(k,pQ.grow e c (n+r.length))] H) i=some blk->i=k/\blk= .grow e c (n+r.length):=by
  intro i blk hi hg;simp only[pU,aRr] at hi;subst hi;simp only[qG,pT,aSV,aRg] at hg;exact⟨rfl,hg.symm⟩
 have perm: ∀i blk b o,i∈pU [(k,pQ.grow e c (n+r.length))]->pT (qG [(k,pQ.grow e c (n+r.length))] H) i=some blk->rP ((g.tok k (n+r.length) (.slice (some ⟨q,0,none⟩) (n+r.length) cap)).shut q ((n+r.length)*c)) i blk b o->w.heap.size<=b\/sJ g H (pU [(k,pQ.grow e c (n+r.length))]) b o:=by
  intro i blk b o hi hgt ho';obtain⟨rfl,rfl⟩:=get i blk hi hgt;obtain⟨v',hv',hb⟩:=ho';rw[cur1] at hv';obtain rfl:=aRl hv';cases hb;rcases hq with h|h
  ·exact .inl (aSW h.symm)
  ·exact .inr (hownk o _ h)
 have hF:sS (Rd ((g.tok k (n+r.length) (.slice (some ⟨q,0,none⟩) (n+r.length) cap)).shut q ((n+r.length)*c)) w' u) u.cells (l++r) (xs++news):=hc▸BD (fun _ _ h=>vZ le h) (OI hl hr);have hlr:(l++r).length=n+r.length:=by rw[aRh,hln]
 refine⟨le,⟨.inr ⟨rfl,some ⟨q,0,none⟩,cap,by rw[hlr],by rw[hlr];exact hcap,.inr ⟨q,0,rfl,J8 hF (YQ ho) (fun j hj=> ?_)⟩⟩,?_⟩,hH.upd le fr perm gho (fun i blk hi hgt=> ?_) (fun i j bi bj b o hi hj hij hgi hgj _ _=>hij ((get i bi hi hgi).1.trans (get j bj hj hgj).1.symm)) (fun b o h=> ?_),fr,perm,gho,fun i u' y us h=>by
  simp only[qG,pT] at h;split at h
  ·cases h
  ·exact .inl ⟨y,us,h⟩⟩
 ·right;rw[hlr] at hj;exact⟨rfl,by rw[hc];omega⟩
 ·show _=_;rw[hlr];exact cur1
 ·obtain⟨rfl,rfl⟩:=get i blk hi hgt;refine⟨_,_,cur1,ho,fun m hm'=> ?_,fun b hb o h=> ?_⟩
  ·show (if i=i/\m=n+r.length then _ else _)=_;rw[if_neg (by omega)];exact hnone m (by omega)
  ·cases hb;rcases h with h|⟨_,h⟩
   ·rcases hq with h2|h2
    ·have:q<w.heap.size:=hH.sl _ _ h;omega
    ·have:=hseal _ h2 o h;rw[Nat.add_mul];omega
   ·exact h
 ·rcases h with h|⟨rfl,_⟩
  ·exact aRX (hH.sl b o h) hg.size
  ·exact hqlt
theorem rS.lit {side:List Prop}{rds:List Nat}{base e c n:Nat}{u:Ty}{l:List u.den}{cs:List Value}(hc:c=u.cells) (hln:l.length=n) (hl:sS (Rd g w u) c l cs) (hn:n<=maxLen) (hf: ∀m,g.cur base m=none):
  rS g w H ⟨side,(.val (.list u) l,some base),[(base,.grow e c n)],rds⟩ ((g.tok base n (.slice (some ⟨w.heap.size,0,none⟩) n n)).shut w.heap.size (n*c)) (w.alloc (.cells cs.toArray e)) (.slice (some ⟨w.heap.size,0,none⟩) n n):=by
 have hlen:=H6 hl;have le:Le g w ((g.tok base n (.slice (some ⟨w.heap.size,0,none⟩) n n)).shut w.heap.size (n*c)) (w.alloc (.cells cs.toArray e)):=⟨fun _ _ h=> .inl h,fun b o h=>aRF (a:=⟨b,o,none⟩) (aRL _ _ _ (hH.sl b o h)),fun _ _ h=>h,fun k' n' v' h=>by
  show (if k'=base/\n'=n then _ else _)=_;rw[if_neg (fun⟨e1,e2⟩=>by rw[e1,hf] at h;cases h)];exact h⟩
 have fr:Fr (sJ g H (pU [(base,pQ.grow e c n)])) w (w.alloc (.cells cs.toArray e)) g.S ((g.tok base n (.slice (some ⟨w.heap.size,0,none⟩) n n)).shut w.heap.size (n*c)).S:=
  ⟨rfl,rfl,rfl,by simp,fun b hb _=>aRL _ _ _ hb,fun b o hb _=>⟨aRF (a:=⟨b,o,none⟩) (aRL _ _ _ hb),aSj (a:=⟨b,o,none⟩) (aRL _ _ _ hb)⟩,fun b o h=>h.imp id fun h=> .inl (aSW h.1.symm),fun b s h=> .inl ((CT (aRL _ _ _ (CS h))).trans h)⟩
 have gho: ∀i,i∉pU [(base,pQ.grow e c n)]->((g.tok base n (.slice (some ⟨w.heap.size,0,none⟩) n n)).shut w.heap.size (n*c)).J i=g.J i/\((g.tok base n (.slice (some ⟨w.heap.size,0,none⟩) n n)).shut w.heap.size (n*c)).cur i=g.cur i:=fun i hi=>⟨rfl,by
  funext n';show (if i=base/\n'=n then _ else _)=_;rw[if_neg (fun⟨e1,_⟩=>hi (by simp [pU,e1]))]⟩
 have cur1:((g.tok base n (.slice (some ⟨w.heap.size,0,none⟩) n n)).shut w.heap.size (n*c)).cur base n=some (.slice (some ⟨w.heap.size,0,none⟩) n n):=by
  show (if base=base/\n=n then _ else _)=_;simp
 have get: ∀i blk,i∈pU [(base,pQ.grow e c n)]->pT (qG [(base,pQ.grow e c n)] H) i=some blk->i=base/\blk= .grow e c n:=by
  intro i blk hi hg;simp only[pU,aRr] at hi;subst hi;simp only[qG,pT,aSV,aRg] at hg;exact⟨rfl,hg.symm⟩
 have perm: ∀i blk b o,i∈pU [(base,pQ.grow e c n)]->pT (qG [(base,pQ.grow e c n)] H) i=some blk->rP ((g.tok base n (.slice (some ⟨w.heap.size,0,none⟩) n n)).shut w.heap.size (n*c)) i blk b o->w.heap.size<=b\/sJ g H (pU [(base,pQ.grow e c n)]) b o:=by
  intro i blk b o hi hgt ho';obtain⟨rfl,rfl⟩:=get i blk hi hgt;obtain⟨v',hv',hb⟩:=ho';rw[cur1] at hv';obtain rfl:=aRl hv';cases hb;exact .inl (Nat.le_refl _)
 have hF:sS (Rd ((g.tok base n (.slice (some ⟨w.heap.size,0,none⟩) n n)).shut w.heap.size (n*c)) (w.alloc (.cells cs.toArray e)) u) u.cells l cs:=hc▸BD (fun _ _ h=>vZ le h) hl;have hra:(w.alloc (.cells cs.toArray e)).rangeAt w.heap.size 0 cs:=fun j v hv=>by
  rw[aRR,aSL];simpa using hv
 refine⟨le,⟨.inr ⟨rfl,some ⟨w.heap.size,0,none⟩,n,by rw[hln],by rw[hln];exact Nat.le_refl _,.inr ⟨w.heap.size,0,rfl,J8 hF hra (fun j hj=> ?_)⟩⟩,?_⟩,hH.upd le fr perm gho (fun i blk hi hgt=> ?_) (fun i j bi bj b o hi hj hij hgi hgj _ _=>hij ((get i bi hi hgi).1.trans (get j bj hj hgj).1.symm)) (fun b o h=> ?_),fr,perm,gho,fun i u' y us h=>by
  simp only[qG,pT] at h;split at h
  ·cases h
  ·exact .inl ⟨y,us,h⟩⟩
 ·right;rw[hln] at hj;exact⟨rfl,by rw[hc];omega⟩
 ·show _=_;rw[hln];exact cur1
 ·obtain⟨rfl,rfl⟩:=get i blk hi hgt;refine⟨_,cs,cur1,⟨by rw[hlen,hln],.inr ⟨w.heap.size,n,cs.toArray,rfl,aSg _,aTs w _,Nat.le_refl _,hn,by simp [hlen,hln],by simp [<-hln,<-hlen]⟩⟩,fun m hm'=> ?_,fun b hb o h=> ?_⟩
  ·show (if i=i/\m=n then _ else _)=_;rw[if_neg (by omega)];exact hf m
  ·cases hb;rcases h with h|⟨_,h⟩
   ·exact absurd (hH.sl _ _ h) (aTa _)
   ·exact h
 ·rcases h with h|⟨rfl,_⟩
  ·exact aRX (hH.sl b o h) (by simp)
  ·simp
theorem YR: ∀{toks:List (Nat×Nat)}{off n q k:Nat},(q,k)∈uZ toks off n->(q,k)∈toks/\¬(off<=q/\q<off+n)
 |[],_,_,_,_,h=>by simp [uZ] at h
 |(q',k')::r,off,n,q,k,h=>by
  simp only[uZ] at h;split at h
  ·obtain⟨h1,h2⟩:=YR h;exact⟨aRt _ h1,h2⟩
  ·rename_i hn;rcases aRv.1 h with h|h
   ·cases h;exact⟨by simp,hn⟩
   ·obtain⟨h1,h2⟩:=YR h;exact⟨aRt _ h1,h2⟩
theorem aH8 {u:Ty}{y:u.den}: ∀{t:Ty}{x z:t.den}{o:Nat},u.isRow=false->sF u y t x o=some z->qO u t z o=some y:=by
 intro t
 induction t with
 |pair a b iha ihb=>
  intro x z o hu h;have hne:u≠.pair a b:=by intro e;rw[e] at hu;cases hu
  have key: ∀o,(if o<a.cells then(sF u y a x.1 o).map (fun q=>(q,x.2)) else(sF u y b x.2 (o-a.cells)).map (fun q=>(x.1,q)))=some z->
    (if o<a.cells then qO u a z.1 o else qO u b z.2 (o-a.cells))=some y:=by
   intro o h;by_cases ho:o<a.cells
   ·rw[if_pos ho] at h⊢;obtain⟨q,hq,rfl⟩:=aRx.1 h;exact iha hu hq
   ·rw[if_neg ho] at h⊢;obtain⟨q,hq,rfl⟩:=aRx.1 h;exact ihb hu hq
  cases o with
  |zero=>
   unfold sF at h;unfold qO;rw[aS4 hne] at h;rw[aS4 (Ne.symm hne)];have:=key 0 (by simpa using h);simpa using this
  |succ o=>
   have:=key (o+1) (by simpa[sF] using h);simpa[qO] using this
 |_=>
  intro x z o hu h;cases o with
  |zero=>
   unfold sF at h;split at h
   ·rename_i e;subst e;simp only[tV,aRg] at h
    try subst h
    unfold qO;simp [tV]
   ·simp at h
  |succ o=>simp [sF] at h
theorem a82 {u v:Ty}{y:u.den}: ∀{t:Ty}{x z:t.den}{o q:Nat}{l:(Ty.list v).den},sF u y t x o=some z->qO (.list v) t x q=some l->¬(o<=q/\q<o+u.cells)->qO (.list v) t z q=some l:=by
 intro t
 induction t with
 |pair a b iha ihb=>
  intro x z o q l h g hq;by_cases hu:o=0/\u= .pair a b
  ·obtain⟨rfl,rfl⟩:=hu;exfalso;apply hq;have: ∀(t:Ty) (x:t.den) (q:Nat) (l:(Ty.list v).den),qO (.list v) t x q=some l->q<t.cells:=by
    intro t
    induction t with
    |pair s t ihs iht=>
     intro x q l g;have key: ∀q,(if q<s.cells then qO (.list v) s x.1 q else qO (.list v) t x.2 (q-s.cells))=some l->q<s.cells+t.cells:=by
      intro q g;by_cases h:q<s.cells
      ·omega
      ·rw[if_neg h] at g;have:=iht _ _ _ g;omega
     cases q with
     |zero=>
      unfold qO at g;rw[aS4 (by intro e;cases e)] at g;exact key 0 (by simpa using g)
     |succ q=>exact key (q+1) (by simpa[qO] using g)
    |_=>
     intro x q l g;cases q with
     |zero=>first|(simp [Ty.cells];done) |(unfold qO at g;simp at g)
     |succ q=>simp [qO] at g
   exact⟨aSg _,by simpa using this _ _ _ _ g⟩
  ·have keyh:(if o<a.cells then(sF u y a x.1 o).map (fun q=>(q,x.2)) else(sF u y b x.2 (o-a.cells)).map (fun q=>(x.1,q)))=some z:=by
    cases o with
    |zero=>
     unfold sF at h;rw[aS4 (fun e=>hu ⟨rfl,e⟩)] at h;simpa using h
    |succ o=>simpa[sF] using h
   have keyg: ∀x:(Ty.pair a b).den,qO (.list v) (.pair a b) x q=(if q<a.cells then qO (.list v) a x.1 q else qO (.list v) b x.2 (q-a.cells)):=by
    intro x;cases q with
    |zero=>
     conv=>lhs;unfold qO
     rw[aS4 (by intro e;cases e),Nat.zero_sub]
    |succ q=>simp [qO]
   rw[keyg] at g⊢;by_cases ho:o<a.cells
   ·rw[if_pos ho] at keyh;obtain⟨z',hz',rfl⟩:=aRx.1 keyh;by_cases hqa:q<a.cells
    ·rw[if_pos hqa] at g⊢;exact iha hz' g hq
    ·rw[if_neg hqa] at g⊢;exact g
   ·rw[if_neg ho] at keyh;obtain⟨z',hz',rfl⟩:=aRx.1 keyh;by_cases hqa:q<a.cells
    ·rw[if_pos hqa] at g⊢;exact g
    ·rw[if_neg hqa] at g⊢;exact ihb hz' g (by omega)
 |unit=>
  intro x z o q l h g hq;cases q with
  |zero=>
   unfold qO at g;rw[aS4 (by intro e;cases e)] at g;cases g
  |succ q=>simp [qO] at g
 |_=>
  intro x z o q l h g hq;cases o with
  |zero=>
   unfold sF at h;split at h
   ·rename_i e;subst e;cases q with
    |zero=>exact absurd ⟨Nat.le_refl _,Nat.zero_lt_one⟩ hq
    |succ q=>simp [qO] at g
   ·simp at h
  |succ o=>simp [sF] at h
theorem rS.store {side:List Prop}{rds:List Nat}{i:Nat}{u t:Ty}{x z:u.den}{y:t.den}{off:Nat}{toks:List (Nat×Nat)}{k:Option Nat}{p:Pl}{cy:List Value}{v:Value}(hb:pT H i=some (.cells u x toks)) (hp:g.J i=some p)
  (hset:sF t y u x off=some z) (hy:Rd g w t y cy) (hk:BZ g t y v k) (hk2: ∀a b,t= .pair a b->k=none) (hv:t.isRow=false->cy=[v]):
  rS g w H ⟨side,(.any,none),[(i,.cells u z (qG (x9 k off) (uZ toks off t.cells)))],rds⟩ g (w.setCells p.1 (p.2+off) cy) undef/\w.there p.1 (p.2+off) cy.length:=by
 obtain⟨p',cs,hp',hR,hra,hth,hns,htk⟩:=hH.blk i _ hb;rw[hp] at hp';obtain rfl:=aRl hp';obtain⟨c1,c2,c3,hcs,hl1,hl2,hz⟩:=SW hy hR hset;subst hcs;subst hl1;have hcl:=sH hR;have hyl:=sH hy;simp only[aRh] at hcl;have hthere:w.there p.1 (p.2+c1.length) cy.length:=fun j hj=>by
  have:=hth.1 (c1.length+j) (by omega);rwa [<-aR0] at this
 have hout: ∀b o,(b=p.1->o<p.2+c1.length\/p.2+c1.length+cy.length<=o)->(w.setCells p.1 (p.2+c1.length) cy).cell? ⟨b,o,none⟩=w.cell? ⟨b,o,none⟩:=fun b o h=>World.cell?_setCells_out p.1 cy _ w ⟨b,o,none⟩ (fun e _=>h e);have hin: ∀b o,b=p.1->p.2+c1.length<=o->o<p.2+c1.length+cy.length->rP g i (.cells u x toks) b o:=fun b o e h1 h2=>⟨p,hp,e,by omega,by omega⟩;have hsz:(w.setCells p.1 (p.2+c1.length) cy).heap.size=w.heap.size:=by
  have: ∀(l:List Value) (o:Nat) (w:World),(w.setCells p.1 o l).heap.size=w.heap.size:=by
   intro l
   induction l with
   |nil=>intro o w;rfl
   |cons v l ih=>intro o w;rw[World.setCells,ih];simp [World.setCell]
  exact this _ _ _
 have hbk: ∀b,b≠p.1->(w.setCells p.1 (p.2+c1.length) cy).heap[b]? =w.heap[b]? :=by
  intro b hb;have: ∀(l:List Value) (o:Nat) (w:World),(w.setCells p.1 o l).heap[b]? =w.heap[b]? :=by
   intro l
   induction l with
   |nil=>intro o w;rfl
   |cons v l ih=>intro o w;rw[World.setCells,ih];exact Below.heap_setCell _ _ _ _ hb
  exact this _ _ _
 have hos:(w.setCells p.1 (p.2+c1.length) cy).os=w.os/\(w.setCells p.1 (p.2+c1.length) cy).tape=w.tape/\(w.setCells p.1 (p.2+c1.length) cy).output=w.output:=by
  have: ∀(l:List Value) (o:Nat) (w:World),(w.setCells p.1 o l).os=w.os/\(w.setCells p.1 o l).tape=w.tape/\(w.setCells p.1 o l).output=w.output:=by
   intro l
   induction l with
   |nil=>intro o w;exact⟨rfl,rfl,rfl⟩
   |cons v l ih=>intro o w;rw[World.setCells];exact ih _ _
  exact this _ _ _
 have hiS: ∀b o,g.S b o->¬(b=p.1/\p.2<=o/\o<p.2+u.cells):=fun b o hs ⟨e,h1,h2⟩=>hns (o-p.2) (by omega) (by rw[show p.2+(o-p.2)=o from by omega,<-e];exact hs);have le:Le g w g (w.setCells p.1 (p.2+c1.length) cy):=⟨fun _ _ h=>h,fun b o h=>hout b o (fun e=>by
  have:=hiS b o h;rcases aSw o (p.2+c1.length) with h1|h1
  ·exact .inl h1
  ·rcases aSw o (p.2+c1.length+cy.length) with h2|h2
   ·exact absurd ⟨e,by omega,by omega⟩ this
   ·exact .inr h2),fun _ _ h=>h,fun _ _ _ h=>h⟩
 have hofI: ∀b o,rP g i (.cells u x toks) b o->sJ g H (pU [(i,pQ.cells u z (qG (x9 k c1.length) (uZ toks c1.length t.cells)))]) b o:=fun b o h=>⟨i,_,by simp [pU],hb,h⟩;have fr:Fr (sJ g H (pU [(i,pQ.cells u z (qG (x9 k c1.length) (uZ toks c1.length t.cells)))])) w (w.setCells p.1 (p.2+c1.length) cy) g.S g.S:=by
  refine⟨hos.1,hos.2.1,hos.2.2,aSW hsz.symm,fun b hb' hno=> ?_,fun b o hb' hno=>⟨hout b o (fun e=> ?_),World.frozen?_setCells _ _ _ _ _⟩,fun b o h=> .inl h,fun b s hs=> .inl ((OR _ _ _ _ _).trans hs)⟩
  ·by_cases e:b=p.1
   ·cases hcy:cy with
    |nil=>rfl
    |cons q l=>exact absurd (hofI b (p.2+c1.length) (hin b _ e (Nat.le_refl _) (by rw[hcy];simp))) (hno _)
   ·exact hbk b e
  ·rcases aSw o (p.2+c1.length) with h1|h1
   ·exact .inl h1
   ·rcases aSw o (p.2+c1.length+cy.length) with h2|h2
    ·exact absurd (hofI b o (hin b o e h1 h2)) hno
    ·exact .inr h2
 have gho: ∀j,j∉pU [(i,pQ.cells u z (qG (x9 k c1.length) (uZ toks c1.length t.cells)))]->g.J j=g.J j/\g.cur j=g.cur j:=fun _ _=>⟨rfl,rfl⟩;have get: ∀j blk,j∈pU [(i,pQ.cells u z (qG (x9 k c1.length) (uZ toks c1.length t.cells)))]->pT (qG [(i,pQ.cells u z (qG (x9 k c1.length) (uZ toks c1.length t.cells)))] H) j=some blk->j=i/\blk= .cells u z (qG (x9 k c1.length) (uZ toks c1.length t.cells)):=by
  intro j blk hi hg;simp only[pU,aRr] at hi;subst hi;simp only[qG,pT,aSV,aRg] at hg;exact⟨rfl,hg.symm⟩
 have perm: ∀j blk b o,j∈pU [(i,pQ.cells u z (qG (x9 k c1.length) (uZ toks c1.length t.cells)))]->pT (qG [(i,pQ.cells u z (qG (x9 k c1.length) (uZ toks c1.length t.cells)))] H) j=some blk->rP g j blk b o->w.heap.size<=b\/sJ g H (pU [(i,pQ.cells u z (qG (x9 k c1.length) (uZ toks c1.length t.cells)))]) b o:=by
  intro j blk b o hi hg ho;obtain⟨rfl,rfl⟩:=get j blk hi hg;exact .inr (hofI b o ho)
 refine⟨⟨le,⟨trivial,trivial⟩,hH.upd le fr perm gho (fun j blk hi hg=> ?_) (fun i j bi bj b o hi hj hij hgi hgj _ _=>hij ((get i bi hi hgi).1.trans (get j bj hj hgj).1.symm)) (fun b o h=>by rw[hsz];exact hH.sl b o h),fr,perm,gho,fun j u' y' us h=>by
  simp only[qG,pT] at h;split at h
  ·rename_i e1;subst e1;simp only[aRg,pQ.cells.injEq] at h;obtain⟨rfl,_⟩:=h;exact .inl ⟨x,toks,hb⟩
  ·exact .inl ⟨y',us,h⟩⟩,hthere⟩
 obtain⟨rfl,rfl⟩:=get j blk hi hg;refine⟨p,_,hp,vZ le hz,fun q v hq=> ?_,⟨fun q hq=> ?_,fun h0 s hs=>(OR _ _ _ _ _).trans (hth.2 h0 s hs)⟩,hns,?_⟩
 ·by_cases h1:q<c1.length
  ·rw[hout _ _ (fun _=> .inl (by omega))];refine hra q v ?_;rw[aRo,aRz h1] at hq⊢;exact hq
  ·by_cases h2:q<c1.length+cy.length
   ·have:=aSR p.1 cy (p.2+c1.length) w (fun j hj=>(hthere j hj).1) (q-c1.length) (by omega);rw[show p.2+c1.length+(q-c1.length)=p.2+q from by omega] at this;rw[this];rw[aRo,aRq (by omega),aRz (by omega)] at hq;rw[<-hq,aRn (by omega)]
   ·rw[hout _ _ (fun _=> .inr (by omega))];refine hra q v ?_;rw[aRo,aRq (by omega),aRq (by omega)] at hq⊢;rw[hl2];rw[hyl] at hq;exact hq
 ·have hh:=hth.1 q hq;refine⟨?_,by rw[World.frozen?_setCells];exact hh.2⟩;by_cases h1:q<c1.length\/c1.length+cy.length<=q
  ·rw[hout _ _ (fun _=>by omega)];exact hh.1
  ·have:=aSR p.1 cy (p.2+c1.length) w (fun j hj=>(hthere j hj).1) (q-c1.length) (by omega);rw[show p.2+c1.length+(q-c1.length)=p.2+q from by omega] at this;rw[this];rfl
 ·intro q kk hm;have hsplit:(q,kk)∈x9 k c1.length\/(q,kk)∈uZ toks c1.length t.cells:=by
   cases k with
   |none=>exact .inr (by simpa[x9,qG] using hm)
   |some k=>
    simp only[x9,qG,aRv] at hm;rcases hm with hm|hm
    ·exact .inl (by simp [x9,hm])
    ·exact .inr hm
  rcases hsplit with hm|hm
  ·cases k with
   |none=>simp [x9] at hm
   |some k=>
    simp only[x9,aRr,aRI] at hm;obtain⟨rfl,rfl⟩:=hm;cases t with
    |list t=>
     obtain rfl:=hv rfl;exact⟨t,y,v,aH8 hH rfl hset,by simp,hk⟩
    |pair a b=>cases hk2 a b rfl
    |_=>exact hk.elim
  ·obtain⟨h1,h2⟩:=YR hH hm;obtain⟨v',l,v1,g1,g2,g3⟩:=htk q kk h1;refine⟨v',l,v1,a82 hH hset g1 h2,?_,g3⟩;rcases aSw q c1.length with h3|h3
   ·rw[aRo,aRz h3] at g2⊢;exact g2
   ·have h4:c1.length+t.cells<=q:=by omega
    rw[aRo,aRq (by omega),aRq (by omega)] at g2⊢;rw[hyl];rw[hl2] at g2;exact g2
theorem zB.openS {side:List Prop}{rds:List Nat}{i:Nat}{u u0:Ty}{el:Nat}{kn:Option (Nat×Nat)}{x:u.den}{z: Σ t:Ty,t.den}{off:Nat}{toks:List (Nat×Nat)}{p:Pl}{cy:List Value}(hb:pT H i=some (.cells u x toks)) (hp:g.J i=some p)
  (hset:xK el u0 kn u x off=some z) (hy:BY g kn cy) (hyl:cy.length=1) (hre:GS rds=true):
  zB g w H ⟨side,(.any,none),[(i,.cells z.1 z.2 [])],rds⟩ g (w.setCells p.1 (p.2+off) cy) undef/\w.there p.1 (p.2+off) cy.length:=by
 obtain⟨p',cs,hp',hR,hra,hth,hns,htk⟩:=hH.blk i _ hb;rw[hp] at hp';obtain rfl:=aRl hp';obtain⟨c1,c2,c3,hcs,hl1,hl2,hz⟩:=aHy hy hR hset;subst hcs;subst hl1;have hcl:=sH hR;have hcz:=aHx hset;simp only[aRh] at hcl;have hthere:w.there p.1 (p.2+c1.length) cy.length:=fun j hj=>by
  have:=hth.1 (c1.length+j) (by omega);rwa [<-aR0] at this
 have hout: ∀b o,(b=p.1->o<p.2+c1.length\/p.2+c1.length+cy.length<=o)->(w.setCells p.1 (p.2+c1.length) cy).cell? ⟨b,o,none⟩=w.cell? ⟨b,o,none⟩:=fun b o h=>World.cell?_setCells_out p.1 cy _ w ⟨b,o,none⟩ (fun e _=>h e);have hin: ∀b o,b=p.1->p.2+c1.length<=o->o<p.2+c1.length+cy.length->rP g i (.cells u x toks) b o:=fun b o e h1 h2=>⟨p,hp,e,by omega,by omega⟩;have hsz:(w.setCells p.1 (p.2+c1.length) cy).heap.size=w.heap.size:=by
  have: ∀(l:List Value) (o:Nat) (w:World),(w.setCells p.1 o l).heap.size=w.heap.size:=by
   intro l
   induction l with
   |nil=>intro o w;rfl
   |cons v l ih=>intro o w;rw[World.setCells,ih];simp [World.setCell]
  exact this _ _ _
 have hbk: ∀b,b≠p.1->(w.setCells p.1 (p.2+c1.length) cy).heap[b]? =w.heap[b]? :=by
  intro b hb;have: ∀(l:List Value) (o:Nat) (w:World),(w.setCells p.1 o l).heap[b]? =w.heap[b]? :=by
   intro l
   induction l with
   |nil=>intro o w;rfl
   |cons v l ih=>intro o w;rw[World.setCells,ih];exact Below.heap_setCell _ _ _ _ hb
  exact this _ _ _
 have hos:(w.setCells p.1 (p.2+c1.length) cy).os=w.os/\(w.setCells p.1 (p.2+c1.length) cy).tape=w.tape/\(w.setCells p.1 (p.2+c1.length) cy).output=w.output:=by
  have: ∀(l:List Value) (o:Nat) (w:World),(w.setCells p.1 o l).os=w.os/\(w.setCells p.1 o l).tape=w.tape/\(w.setCells p.1 o l).output=w.output:=by
   intro l
   induction l with
   |nil=>intro o w;exact⟨rfl,rfl,rfl⟩
   |cons v l ih=>intro o w;rw[World.setCells];exact ih _ _
  exact this _ _ _
 have hiS: ∀b o,g.S b o->¬(b=p.1/\p.2<=o/\o<p.2+u.cells):=fun b o hs ⟨e,h1,h2⟩=>hns (o-p.2) (by omega) (by rw[show p.2+(o-p.2)=o from by omega,<-e];exact hs);have le:Le g w g (w.setCells p.1 (p.2+c1.length) cy):=⟨fun _ _ h=>h,fun b o h=>hout b o (fun e=>by
  have:=hiS b o h;rcases aSw o (p.2+c1.length) with h1|h1
  ·exact .inl h1
  ·rcases aSw o (p.2+c1.length+cy.length) with h2|h2
   ·exact absurd ⟨e,by omega,by omega⟩ this
   ·exact .inr h2),fun _ _ h=>h,fun _ _ _ h=>h⟩
 have hofI: ∀b o,rP g i (.cells u x toks) b o->sJ g H (pU [(i,pQ.cells z.1 z.2 [])]) b o:=fun b o h=>⟨i,_,by simp [pU],hb,h⟩;have fr:Fr (sJ g H (pU [(i,pQ.cells z.1 z.2 [])])) w (w.setCells p.1 (p.2+c1.length) cy) g.S g.S:=by
  refine⟨hos.1,hos.2.1,hos.2.2,aSW hsz.symm,fun b hb' hno=> ?_,fun b o hb' hno=>⟨hout b o (fun e=> ?_),World.frozen?_setCells _ _ _ _ _⟩,fun b o h=> .inl h,fun b s hs=> .inl ((OR _ _ _ _ _).trans hs)⟩
  ·by_cases e:b=p.1
   ·cases hcy:cy with
    |nil=>rfl
    |cons q l=>exact absurd (hofI b (p.2+c1.length) (hin b _ e (Nat.le_refl _) (by rw[hcy];simp))) (hno _)
   ·exact hbk b e
  ·rcases aSw o (p.2+c1.length) with h1|h1
   ·exact .inl h1
   ·rcases aSw o (p.2+c1.length+cy.length) with h2|h2
    ·exact absurd (hofI b o (hin b o e h1 h2)) hno
    ·exact .inr h2
 have gho: ∀j,j∉pU [(i,pQ.cells z.1 z.2 [])]->g.J j=g.J j/\g.cur j=g.cur j:=fun _ _=>⟨rfl,rfl⟩;have get: ∀j blk,j∈pU [(i,pQ.cells z.1 z.2 [])]->pT (qG [(i,pQ.cells z.1 z.2 [])] H) j=some blk->j=i/\blk= .cells z.1 z.2 []:=by
  intro j blk hi hg;simp only[pU,aRr] at hi;subst hi;simp only[qG,pT,aSV,aRg] at hg;exact⟨rfl,hg.symm⟩
 have perm: ∀j blk b o,j∈pU [(i,pQ.cells z.1 z.2 [])]->pT (qG [(i,pQ.cells z.1 z.2 [])] H) j=some blk->rP g j blk b o->w.heap.size<=b\/sJ g H (pU [(i,pQ.cells z.1 z.2 [])]) b o:=by
  intro j blk b o hi hg ho;obtain⟨rfl,rfl⟩:=get j blk hi hg;obtain⟨q,hq,e1,e2,e3⟩:=ho;rw[hcz] at e3;exact .inr (hofI b o ⟨q,hq,e1,e2,e3⟩)
 refine⟨⟨le,⟨trivial,trivial⟩,hH.upd le fr perm gho (fun j blk hi hg=> ?_) (fun i j bi bj b o hi hj hij hgi hgj _ _=>hij ((get i bi hi hgi).1.trans (get j bj hj hgj).1.symm)) (fun b o h=>by rw[hsz];exact hH.sl b o h),fr,perm,gho,fun h=>by rw[hre] at h;cases h⟩,hthere⟩;obtain⟨rfl,rfl⟩:=get j blk hi hg;refine⟨p,_,hp,vZ le hz,fun q v hq=> ?_,⟨fun q hq=> ?_,fun h0 s hs=>(OR _ _ _ _ _).trans (hth.2 (by rw[<-hcz];exact h0) s hs)⟩,fun q hq=>hns q (by rw[<-hcz];exact hq),fun _ _ hm=>by cases hm⟩
 ·by_cases h1:q<c1.length
  ·rw[hout _ _ (fun _=> .inl (by omega))];refine hra q v ?_;rw[aRo,aRz h1] at hq⊢;exact hq
  ·by_cases h2:q<c1.length+cy.length
   ·have:=aSR p.1 cy (p.2+c1.length) w (fun j hj=>(hthere j hj).1) (q-c1.length) (by omega);rw[show p.2+c1.length+(q-c1.length)=p.2+q from by omega] at this;rw[this];rw[aRo,aRq (by omega),aRz (by omega)] at hq;rw[<-hq,aRn (by omega)]
   ·rw[hout _ _ (fun _=> .inr (by omega))];refine hra q v ?_;rw[aRo,aRq (by omega),aRq (by omega)] at hq⊢;rw[hl2];rw[hyl] at hq;exact hq
 ·have hh:=hth.1 q (by rw[<-hcz];exact hq);refine⟨?_,by rw[World.frozen?_setCells];exact hh.2⟩;by_cases h1:q<c1.length\/c1.length+cy.length<=q
  ·rw[hout _ _ (fun _=>by omega)];exact hh.1
  ·have:=aSR p.1 cy (p.2+c1.length) w (fun j hj=>(hthere j hj).1) (q-c1.length) (by omega);rw[show p.2+c1.length+(q-c1.length)=p.2+q from by omega] at this;rw[this];rfl
end
def zC (g:Gh) (base:Nat) (e:pY):Prop:= ∀i,i∈pU e.upd->base<=i->g.J i=none/\∀n,g.cur i n=none
section
variable {P:Program}{o:Oper}{a:Act}{g:Gh}{w:World}{H:rO}{T:sG}(hT:wY P T) (hH:rZ g w H)
include hT hH
theorem a83 {x:Operand}(ho:o.op= .move x\/o.op= .assign x) {sx:pR}(hx:qV g w sx (a.eval x)) {base:Nat}{e:pY}(hr:X5 base (rF T o.type) sx=some e) (hf:zC g base e):qP P o a g w H e:=by
 have hrun:(execOp a.eval o).run P w= .ok (.value (a.eval x)) w:=by rcases ho with ho|ho<;>simp [execOp,ho]
 generalize hst:rF T o.type=ot at hr;unfold X5 at hr;split at hr
 ·cases hr;have hv:a.eval x= .slice none 0 0:=hx.1;have hfr:=(hf base (by simp [pU]) (Nat.le_refl _)).2;refine qP.value (v:= .slice none 0 0) (by rw[hrun,hv]) (rS.row (v:= .slice none 0 0) (xs:=[]) hH rfl (World.ownsRow_nil w 0 _ _) rfl (fun m _=>hfr m) (fun u hu=>by rw[hfr] at hu;cases hu) (.inl ⟨rfl,rfl,rfl,Nat.le_refl _,fun _ _ _=>rfl⟩) (fun _ _ _=>rfl) (fun b hb=>by cases hb) (fun b hb=>by cases hb) ⟨⟨by simp [Gh.tok],.inl ⟨rfl,rfl⟩⟩,trivial⟩)
 ·cases hr;have hv:a.eval x= .slice none 0 0:=hx.1;refine qP.value (v:= .slice none 0 0) (by rw[hrun,hv]) (rS.nilTok hH rfl (hf base (by simp [pU]) (Nat.le_refl _)).2)
 ·cases hr
 ·cases hr;exact qP.value hrun (.pure hH hx)
theorem aH9 {u:Ty}{y:List u.den}{k:Option Nat}{v:Value}{cs:List Value}(h:BZ g (.list u) y v k) (hc:cs=[v]):FA g (.list u) y cs (x9 k 0):=by
 intro q kk hm;cases k with
 |none=>simp [x9] at hm
 |some k=>
  simp only[x9,aRr,aRI] at hm;obtain⟨rfl,rfl⟩:=hm;exact⟨u,y,v,by unfold qO;simp [tV],by rw[hc];rfl,h⟩
omit hT hH in
theorem LK {α:Type}: ∀(l m n:List α),qG (qG l m) n=qG l (qG m n)
 |[],_,_=>rfl
 |x::l,m,n=>by simp only[qG,LK l m n]
omit hT hH in
theorem CW {i:Nat}: ∀{l m:List (Nat×pQ)},i∈pU (qG l m)↔i∈pU l\/i∈pU m
 |[],m=>by simp [qG,pU]
 |(k,b)::l,m=>by simp only[qG,pU,aRv,CW (l:=l),or_assoc]
omit hT hH in
theorem rS.trans {H:rO}{e1 e2:pY}{g1 g2:Gh}{w1 w2:World}{v1 v2:Value}{side:List Prop}{rds:List Nat}(h:rS g w H e1 g1 w1 v1) (k:rS g1 w1 (qG e1.upd H) e2 g2 w2 v2):rS g w H ⟨side,e2.slot,qG e2.upd e1.upd,rds⟩ g2 w2 v2:=by
 have hB: ∀b o,sJ g1 (qG e1.upd H) (pU e2.upd) b o->w.heap.size<=b\/sJ g H (pU (qG e2.upd e1.upd)) b o:=by
  rintro b o ⟨i,blk,hi,hg,ho⟩;by_cases h1:i∈pU e1.upd
  ·refine(h.perm i blk b o h1 hg ho).imp id fun⟨j,bj,hj,q⟩=>⟨j,bj,CW.2 (.inr hj),q⟩
  ·exact .inr ⟨i,blk,CW.2 (.inl hi),(BE h1).symm.trans hg,(y8 (h.gho i h1).1 (h.gho i h1).2).1 ho⟩
 have mono: ∀b o,sJ g H (pU e1.upd) b o->sJ g H (pU (qG e2.upd e1.upd)) b o:=fun b o ⟨j,bj,hj,q⟩=>⟨j,bj,CW.2 (.inr hj),q⟩;refine⟨h.le.trans k.le,k.slot,by simp only[LK];exact k.heap,?_,fun i blk b o hi hg ho=> ?_,fun i hi=> ?_,fun i u y us hg=> ?_⟩
 ·have h1:Fr (sJ g H (pU (qG e2.upd e1.upd))) w w1 g.S g1.S:=⟨h.fr.os,h.fr.tape,h.fr.output,h.fr.size,fun b hb hn=>h.fr.blk b hb (fun o ho=>hn o (mono b o ho)),fun b o hb hn=>h.fr.cell b o hb (fun ho=>hn (mono b o ho)),fun b o hs=>(h.fr.new b o hs).imp id (Or.imp id (mono b o)),fun b s hs=>(h.fr.shape b s hs).imp id fun h o=>mono b o (h o)⟩;exact h1.trans k.fr hB
 ·simp only[LK] at hg;by_cases h2:i∈pU e2.upd
  ·rcases k.perm i blk b o h2 hg ho with h3|h3
   ·exact .inl (aSe h.fr.size h3)
   ·exact hB b o h3
  ·have hi1:i∈pU e1.upd:=(CW.1 hi).resolve_left h2;rw[BE h2] at hg;exact(h.perm i blk b o hi1 hg ((y8 (k.gho i h2).1 (k.gho i h2).2).1 ho)).imp id (mono b o)
 ·have h2:i∉pU e2.upd:=fun q=>hi (CW.2 (.inl q));have h1:i∉pU e1.upd:=fun q=>hi (CW.2 (.inr q));exact⟨(k.gho i h2).1.trans (h.gho i h1).1,(k.gho i h2).2.trans (h.gho i h1).2⟩
 ·simp only[LK] at hg;rcases k.ty i u y us hg with⟨x,ts,h3⟩ |⟨h3,h4⟩
  ·exact h.ty i u x ts h3
  ·right;refine⟨?_,fun n=> ?_⟩
   ·cases hj:g.J i with
    |none=>rfl
    |some p=>rw[h.le.J i p hj] at h3;cases h3
   ·cases hj:g.cur i n with
    |none=>rfl
    |some p=>rw[<-h4 n,h.le.cur i n p hj]
omit hT hH in
theorem rS.congrH {H H':rO}{e:pY}{g':Gh}{w':World}{v:Value}(h:rS g w H e g' w' v) (hH:H=H'):rS g w H' e g' w' v:=hH▸h
omit hT hH in
theorem YS {w:World}: ∀(ls:List (Nat×TypeId×Nat)) (i:Nat) (g:Gh) (H:rO),rZ g w H->(∀j,i<=j->j<i+ls.length->∀n,g.cur j n=none)->
  ∃g1,rS g w H ⟨[],(.any,none),CN ls i,[]⟩ g1 w undef/\g1.J=g.J/\(∀o k,(o,k)∈BA ls i->g1.cur k 0=some (.slice none 0 0))/\(∀k,k<i->g1.cur k=g.cur k)
 |[],i,g,H,hH,_=>⟨g,.pure hH ⟨trivial,trivial⟩,rfl,fun _ _ h=>by simp [BA] at h,fun _ _=>rfl⟩
 |(o,e,c)::r,i,g,H,hH,hf=>by
  have e1:=rS.nilTok (side:=[]) (d:= .val (.list .bool) []) (rds:=[]) (base:=i) (e:=e) (c:=c) (u:= .bool) hH rfl (hf i (Nat.le_refl _) (by simp));have hc1: ∀k n,k≠i->(g.tok i 0 (.slice none 0 0)).cur k n=g.cur k n:=fun k n hk=>by
   show (if k=i/\n=0 then _ else _)=_;rw[if_neg (fun h=>hk h.1)]
  obtain⟨g1,k1,k2,k3,k4⟩:=YS r (i+1) (g.tok i 0 (.slice none 0 0)) (qG [(i,pQ.grow e c 0)] H) e1.heap (fun j h1 h2 n=>by rw[hc1 j n (by omega)];exact hf j (by omega) (by simp only[aRj];omega) n);refine⟨g1,e1.trans k1,k2.trans rfl,fun o' k hm=> ?_,fun k hk=> ?_⟩
  ·simp only[BA,aRv,aRI] at hm;rcases hm with⟨rfl,rfl⟩ |hm
   ·rw[k4 _ (by omega)];show (if k=k/\0=0 then _ else _)=_;simp
   ·exact k3 o' k hm
  ·rw[k4 k (by omega)];funext n;exact hc1 k n (by omega)
omit hT hH in
theorem YT: ∀{ls:List (Nat×TypeId×Nat)}{i o k:Nat},(o,k)∈BA ls i->∃q∈ls,q.1=o
 |[],_,_,_,h=>by simp [BA] at h
 |(o',e,c)::r,i,o,k,h=>by
  simp only[BA,aRv,aRI] at h;rcases h with⟨h1,_⟩ |h
  ·exact⟨(o',e,c),by simp,h1.symm⟩
  ·obtain⟨q,h1,h2⟩:=YT h;exact⟨q,by simp [h1],h2⟩
omit hT hH in
theorem YU {t:Ty}: ∀{ls:List (Nat×TypeId×Nat)},DM t ls=true->∀q∈ls,DL t q.1=true
 |[],_,_,h=>by cases h
 |(o,e,c)::r,h,q,hq=>by
  simp only[DM,aRm] at h;rcases aRv.1 hq with rfl|hq
  ·exact h.1
  ·exact YU h.2 q hq
omit hT hH in
theorem OS: ∀(ls:List (Nat×TypeId×Nat)) (i j:Nat),j∈pU (CN ls i)↔i<=j/\j<i+ls.length
 |[],i,j=>by simp only[CN,pU,aTg,aRs,false_iff];omega
 |(o,e,c)::r,i,j=>by
  simp only[CN,CW,OS r (i+1) j,pU,aRr,aRj];omega
omit hT hH in
theorem a84 {w:World}: ∀(R:List (Nat×Nat×Ty)) (i:Nat) (g:Gh) (H:rO),rZ g w H->(∀j,i<=j->j<i+R.length->∀n,g.cur j n=none)->
  ∃g1,rS g w H ⟨[],(.any,none),IW R i,[]⟩ g1 w undef/\g1.J=g.J/\(∀j,j<R.length->g1.cur (i+j) 0=some (.slice none 0 0))/\(∀k,k<i->g1.cur k=g.cur k)
 |[],i,g,H,hH,_=>⟨g,.pure hH ⟨trivial,trivial⟩,rfl,fun _ h=>by simp at h,fun _ _=>rfl⟩
 |(o,e,u)::r,i,g,H,hH,hf=>by
  have hfr:=hf i (Nat.le_refl _) (by simp);have e1:=rS.row (side:=[]) (rds:=[]) (k:=i) (e:=e) (t:=u) (l:=[]) (n:=0) (s:=(.any,none)) (val:=undef) (v:= .slice none 0 0) (xs:=[]) hH rfl (World.ownsRow_nil w 0 _ _) rfl (fun m _=>hfr m) (fun u hu=>by rw[hfr] at hu;cases hu) (.inl ⟨rfl,rfl,rfl,Nat.le_refl _,fun _ _ _=>rfl⟩) (fun _ _ _=>rfl) (fun b hb=>by cases hb) (fun b hb=>by cases hb) ⟨trivial,trivial⟩;have hc1: ∀k n,k≠i->(g.tok i 0 (.slice none 0 0)).cur k n=g.cur k n:=fun k n hk=>by
   show (if k=i/\n=0 then _ else _)=_;rw[if_neg (fun h=>hk h.1)]
  obtain⟨g1,k1,k2,k3,k4⟩:=a84 r (i+1) (g.tok i 0 (.slice none 0 0)) (qG [(i,pQ.row e u [] 0)] H) e1.heap (fun j h1 h2 n=>by rw[hc1 j n (by omega)];exact hf j (by omega) (by simp only[aRj];omega) n);refine⟨g1,e1.trans k1,k2.trans rfl,fun j hj=> ?_,fun k hk=> ?_⟩
  ·cases j with
   |zero=>
    rw[aSG,k4 _ (by omega)];show (if i=i/\0=0 then _ else _)=_;simp
   |succ j=>
    have:=k3 j (by simpa using hj);rwa [show i+1+j=i+(j+1) by omega] at this
  ·rw[k4 k (by omega)];funext n;exact hc1 k n (by omega)
omit hT hH in
theorem a85: ∀(R:List (Nat×Nat×Ty)) (i j:Nat),j∈pU (IW R i)↔i<=j/\j<i+R.length
 |[],i,j=>by simp only[IW,pU,aTg,aRs,false_iff];omega
 |(o,e,c)::r,i,j=>by
  simp only[IW,CW,a85 r (i+1) j,pU,aRr,aRj];omega
omit hT hH in
theorem YV {α:Type}: ∀l:List α,O3 l=l.length
 |[]=>rfl
 |_::l=>by simp only[O3,YV l,aRj]
omit hT hH in
theorem OT {α:Type}{x:α}: ∀{l m:List α},x∈qG l m↔x∈l\/x∈m
 |[],m=>by simp [qG]
 |y::l,m=>by simp only[qG,aRv,OT (l:=l),or_assoc]
omit hT hH in
theorem aIa {g:Gh}{w:World}: ∀{t:Ty}{x:t.den}{cs:List Value}{o:Nat},Rd g w t x cs->∀q∈DN t x o,o<=q.1/\cs[q.1-o]? =some (.slice none 0 0):=by
 intro t
 induction t with
 |pair a b iha ihb=>
  intro x cs o r q hq;obtain⟨c1,c2,rfl,r1,r2⟩:=r;simp only[DN,OT] at hq;have hl:=sH r1;rcases hq with hq|hq
  ·obtain⟨h1,h2⟩:=iha r1 q hq;exact⟨h1,by rw[aRz (aRu.1 h2).1];exact h2⟩
  ·obtain⟨h1,h2⟩:=ihb r2 q hq;refine⟨by omega,?_⟩;rw[aRq (by omega),hl,show q.1-o-a.cells=q.1- (o+a.cells) by omega];exact h2
 |rl e u=>
  intro x cs o r q hq;cases x with
  |none=>
   simp only[DN,X7,aRr] at hq;subst hq;refine⟨Nat.le_refl _,?_⟩;rw[show cs=[.slice none 0 0] from r];simp
  |some z=>simp [DN,X7] at hq
 |_=>intro x cs o r q hq;simp [DN] at hq
omit hT hH in
theorem aIb {g:Gh}{w:World}: ∀{t:Ty}{x:t.den}{cs:List Value}{o:Nat},Rd g w t x cs->∀q∈F5 t x o,o<=q/\cs[q-o]? =some (.pointer none):=by
 intro t
 induction t with
 |pair a b iha ihb=>
  intro x cs o r q hq;obtain⟨c1,c2,rfl,r1,r2⟩:=r;simp only[F5,OT] at hq;have hl:=sH r1;rcases hq with hq|hq
  ·obtain⟨h1,h2⟩:=iha r1 q hq;exact⟨h1,by rw[aRz (aRu.1 h2).1];exact h2⟩
  ·obtain⟨h1,h2⟩:=ihb r2 q hq;refine⟨by omega,?_⟩;rw[aRq (by omega),hl,show q-o-a.cells=q- (o+a.cells) by omega];exact h2
 |mref=>
  intro x cs o r q hq;cases x with
  |none=>
   simp only[F5,X8,aRr] at hq;subst hq;refine⟨Nat.le_refl _,?_⟩;rw[show cs=[.pointer none] from r];simp
  |some z=>simp [F5,X8] at hq
 |_=>intro x cs o r q hq;simp [F5] at hq
omit hT hH in
theorem a86 {g:Gh}{w:World}{t u:Ty}{x z:t.den}{y:u.den}{cs:List Value}{o:Nat}{v:Value}(h:sF u y t x o=some z) (hy:Rd g w u y [v]) (hR:Rd g w t x cs) (hv:cs[o]? =some v):Rd g w t z cs:=by
 obtain⟨c1,c2,c3,rfl,rfl,h2,h3⟩:=SW hy hR h;have hu:=sH hy;simp only[aR5] at hu;rw[<-hu] at h2;obtain⟨v',rfl⟩:=aSH.1 h2;have:(c1++[v']++c3)[c1.length]? =some v':=by simp
 rw[this] at hv;obtain rfl:=aRl hv;exact h3
omit hT hH in
theorem a87 {g:Gh}{w:World}{t:Ty}{cs:List Value}: ∀{R:List (Nat×Nat×Ty)}{i:Nat}{x z:t.den},IV t i R (some x)=some z->Rd g w t x cs->(∀q∈R,cs[q.1]? =some (.slice none 0 0))->(∀j,j<R.length->g.cur (i+j) 0=some (.slice none 0 0))->Rd g w t z cs
 |[],i,x,z,h,hR,_,_=>by simp only[IV,aRg] at h;exact h▸hR
 |(o,e,u)::r,i,x,z,h,hR,hc,hg=>by
  simp only[IV] at h;cases hs:sF (.rl e u) (some (i,0)) t x o with
  |none=>rw[hs] at h;cases r<;>simp [IV] at h
  |some x'=>
   rw[hs] at h;refine a87 h (a86 (v:= .slice none 0 0) hs ⟨_,by simpa using hg 0 (by simp),rfl,.inl ⟨rfl,rfl⟩⟩ hR (hc _ aRB)) (fun q hq=>hc q (aRt _ hq)) (fun j hj=> ?_);have:=hg (j+1) (by simpa using hj);rwa [show i+(j+1)=i+1+j by omega] at this
omit hT hH in
theorem a88 {g:Gh}{w:World}{t:Ty}{cs:List Value}{i:Nat}{p:Pl}(hp:g.J i=some p) (hp2:p.2=0): ∀{M:List Nat}{x z:t.den},GW t i M (some x)=some z->Rd g w t x cs->(∀q∈M,cs[q]? =some (.pointer none)/\Y6 p.3 q)->Rd g w t z cs
 |[],x,z,h,hR,_=>by simp only[GW,aRg] at h;exact h▸hR
 |q::r,x,z,h,hR,hc=>by
  simp only[GW] at h;cases hs:sF .mref (some (i,q)) t x q with
  |none=>rw[hs] at h;cases r<;>simp [GW] at h
  |some x'=>
   rw[hs] at h;exact a88 hp hp2 h (a86 (v:= .pointer none) hs ⟨p,hp,by rw[hp2,aRR];exact(hc _ aRB).2,.inl rfl⟩ hR (hc _ aRB).1) (fun q hq=>hc q (aRt _ hq))
omit hT in
theorem a89 {t:Ty}{y:t.den}{ls:List (Nat×TypeId×Nat)}{base:Nat}{e:pY}{cs:List Value}{el:TypeId}(hr:RU base el t y ls (DM t ls)=some e) (hf:zC g base e) (hR:Rd g w t y cs) (hn:ls≠[]->xF t cs):
  ∃g',rS g w H e g' (w.alloc (.cells cs.toArray el)) (.pointer (some ⟨w.heap.size,0,none⟩)):=by
 cases hl:DM t ls with
 |false=>rw[hl] at hr;cases hr
 |true=>
  rw[hl] at hr;simp only[RU,YV] at hr;have cR:=fun q hq=>aIa (o:=0) hR q hq;have cM: ∀q∈RT el t y,cs[q]? =some (.pointer none)/\Y6 (some (el,cs.length)) q:=by
   intro q hq;unfold RT at hq;split at hq
   ·rename_i hb;have h0:=fun q hq=>aIb (o:=0) hR q hq;have hl:=sH hR;generalize F5 t y 0=M at hq h0;rw[<-hl] at hq;unfold a8d at hq;split at hq
    ·rename_i h2;simp only[aRr] at hq;subst hq;exact⟨by simpa using(h0 0 (by simp)).2,rfl,el,hb,by rw[h2]⟩
    ·cases hq
   ·cases hq
  generalize DN t y 0=R at hr cR;generalize RT el t y=M at hr cM;cases hz1:IV t (base+1+ls.length) R (some y) with
  |none=>
   rw[hz1] at hr;have:GW t base M none=none:=by cases M<;>rfl
   rw[this] at hr;cases hr
  |some z1=>
   rw[hz1] at hr;cases hz2:GW t base M (some z1) with
   |none=>rw[hz2] at hr;cases hr
   |some z=>
    rw[hz2] at hr;simp only[a8e,YV] at hr;obtain rfl:=(aRl hr);have hfr: ∀j,base+1<=j->j<base+1+ls.length+R.length->g.J j=none/\∀n,g.cur j n=none:=fun j h1 h2=>hf j (by
     simp only[pU,aRv];right;rw[CW];by_cases h3:j<base+1+ls.length
     ·exact .inr ((OS ls (base+1) j).2 ⟨h1,h3⟩)
     ·exact .inl ((a85 R (base+1+ls.length) j).2 ⟨by omega,h2⟩)) (by omega)
    have hf0:=hf base (by simp [pU]) (Nat.le_refl _);obtain⟨g1,k1,k2,k3,k4⟩:=YS ls (base+1) g H hH (fun j h1 h2=>(hfr j h1 (by omega)).2);have hfr1: ∀j,base+1+ls.length<=j->j<base+1+ls.length+R.length->∀n,g1.cur j n=none:=by
     intro j h1 h2 n;have:=(k1.gho j (by simp only;rw[OS];omega)).2;rw[this];exact(hfr j (by omega) h2).2 n
    obtain⟨g2,m1,m2,m3,m4⟩:=a84 R (base+1+ls.length) g1 _ k1.heap hfr1;have hJ:(g2.var base w.heap.size (some (el,cs.length))).J base=some ⟨w.heap.size,0,some (el,cs.length)⟩:=by simp [Gh.var]
    have hle:Le g w (g2.var base w.heap.size (some (el,cs.length))) w:=by
     refine((k1.le.trans m1.le).trans ⟨fun _ _ h=>h,fun _ _ _=>rfl,fun i p h=> ?_,fun _ _ _ h=>h⟩);show (if i=base then _ else _)=_;rw[if_neg (fun e1=>by rw[e1,m2,k2,hf0.1] at h;cases h)];exact h
    have hRz:Rd (g2.var base w.heap.size (some (el,cs.length))) w t z cs:=a88 hJ rfl hz2 (a87 hz1 (vZ hle hR) (fun q hq=>by simpa using(cR q hq).2) (fun j hj=>m3 j hj)) cM;have htk:FA g2 t z cs (BA ls (base+1)):=by
     intro o k hm;obtain⟨q,hq,rfl⟩:=YT hm;obtain⟨u,h1,h2⟩:=a8Q (hn (fun e=>by rw[e] at hq;cases hq)) hRz (YU hl q hq);exact⟨u,[],_,h1,h2,m1.le.cur _ _ _ (k3 _ _ hm)⟩
    have e3:=rS.newVarJ (side:=[]) (rds:=[]) (base:=base) (toks:=BA ls (base+1)) (e:=el) m1.heap hRz htk (by rw[m2,k2];exact hf0.1) (by rw[m4 base (by omega),k4 base (by omega)];exact funext hf0.2);have e4:=rS.trans (side:=[]) (rds:=[]) k1 m1;exact⟨_,rS.trans (side:=[]) (rds:=[]) e4 (e3.congrH (H':=qG (qG (IW R (base+1+ls.length)) (CN ls (base+1))) H) (by simp only[LK]))⟩
theorem YW {t:Ty}{y:t.den}{k:Option Nat}{v:Value}(h:qV g w (.val t y,k) v):sO g w t y v/\BZ g t y v k:=by
 refine⟨h.1,?_⟩;cases k with
 |none=>trivial
 |some k=>exact h.2
theorem aIc {t:TypeId}{x:Operand}(ho:o.op= .box t x) {sx:pR}(hx:qV g w sx (a.eval x)) {base:Nat}{e:pY}(hr:XA base t (rF T t) sx=some e) (hf:zC g base e):qP P o a g w H e:=by
 generalize hst:rF T t=ot at hr;have hrun:(execOp a.eval o).run P w= .ok (.value (.pointer (some ⟨w.heap.size,0,none⟩))) (w.alloc (.cells (a.eval x).cells.toList.toArray t)):=by
  unfold execOp;rw[ho];simp only[Instr.box,Go.newVar,newRow,aRw,run_newObj,aRp,aRG,aSQ];rfl
 have one: ∀{u:Ty}{y:u.den},sO g w u y (a.eval x)->u.isRow=false->(a.eval x).cells.toList=[a.eval x]:=fun hv hrow=>by
  have h1:=zV (AD hrow hv) _ (aRr.2 rfl);cases h:a.eval x<;>first|rfl|(rw[h] at h1;simp [Value.oneCell'] at h1)
 unfold XA at hr;split at hr
 ·rename_i ti u y k;split at hr
  ·obtain⟨hv,hk⟩:=YW hT hH hx;have hR:=DS hv;unfold a8f at hr;split at hr
   ·rename_i a' b' y' k' _;have hn:xF (.pair a' b') (a.eval x).cells.toList:=hk;obtain⟨g',h⟩:=a89 (el:=t) hH hr hf hR (fun _=>hn);exact qP.value hrun h
   ·rename_i u' y' k';cases hr;have hfr:=hf base (by simp [pU]) (Nat.le_refl _);exact qP.value hrun (rS.newVar hH hR (aH9 hT hH hk (one hv rfl)) hfr.1 (funext hfr.2))
   ·cases hr;have hfr:=hf base (by simp [pU]) (Nat.le_refl _);exact qP.value hrun (rS.newVar hH hR (fun q k hm=>by cases hm) hfr.1 (funext hfr.2))
  ·cases hr
 ·cases hr
theorem aId {t:TypeId}(ho:o.op= .alloc t) {base:Nat}{e:pY}(hr:X9 base t (rF T t)=some e) (hf:zC g base e):qP P o a g w H e:=by
 generalize hst:rF T t=ot at hr;have run: ∀ti,rF T t=some ti->(execOp a.eval o).run P w= .ok (.value (.pointer (some ⟨w.heap.size,0,none⟩))) (w.alloc (.cells (tD ti.ty).toArray t)):=by
  intro ti hti;obtain⟨i,hi,hsz,hz⟩:=DU (sP hT hti);have hc:(wX ti.ty).cells=(tD ti.ty).toArray:=by
   have:=DS (OL g w ti.ty);unfold wX;cases h:ti.ty<;>simp [Ty.isRow,tD,Value.cells]
  unfold execOp;rw[ho];simp only[Instr.alloc,zeroValue,typeInfo,Go.newVar,newRow,aRw,aSp,hi,hz,hc,run_newObj,aRp,aRG];rfl
 unfold X9 at hr;split at hr
 ·rename_i u el by' ar ls_;cases hr;have hf0:=hf base (by simp [pU]) (Nat.le_refl _);have hf1:=hf (base+1) (by simp [pU]) (by omega);have hty:=sP hT hst;have e1:=rS.nilTok (side:=[]) (d:= .val (.list u) []) (rds:=[]) (base:=base+1) (e:=el) (c:=u.cells) (u:=u) hH rfl hf1.2;have hH1:=e1.heap;have htk:FA (g.tok (base+1) 0 (.slice none 0 0)) (.list u) [] [.slice none 0 0] [(0,base+1)]:=by
   intro q kk hm;simp only[aRr,aRI] at hm;obtain⟨rfl,rfl⟩:=hm;exact⟨u,[],.slice none 0 0,by unfold qO;simp [tV],rfl,by simp [Gh.tok]⟩
  have e2:=rS.newVar (side:=[]) (rds:=[]) (base:=base) (toks:=[(0,base+1)]) (e:=t) hH1 (CU (g.tok (base+1) 0 (.slice none 0 0)) w (.list u)) htk hf0.1 (by
   funext n;show (if base=base+1/\n=0 then _ else _)=_;rw[if_neg (by omega)];exact hf0.2 n)
  exact qP.value (run _ hst) (rS.trans (side:=[]) (rds:=[]) e1 e2)
 ·rename_i ti hno;obtain⟨g',h⟩:=a89 (el:=t) hH hr hf (CU g w ti.ty) (fun _=>T1 _);exact qP.value (run _ hst) h
 ·cases hr
omit hT hH in
theorem aIe {t:Ty}{y:t.den}{k:Option Nat}{v:Value}(h:BZ g t y v k):BZ g t y v (F1 t k):=by
 cases t with
 |list u=>exact h
 |_=>trivial
omit hT hH in
theorem a9a {off:Nat}: ∀{l:List (Nat×Nat)}{o k:Nat},(o,k)∈L4 off l->∃q,o=off+q/\(q,k)∈l
 |[],_,_,h=>by cases h
 |(q,k')::r,o,k,h=>by
  simp only[L4,aRv,aRI] at h;rcases h with⟨rfl,rfl⟩ |h
  ·exact⟨q,rfl,aRB⟩
  ·obtain⟨q',h1,h2⟩:=a9a h;exact⟨q',h1,aRt _ h2⟩
omit hT hH in
theorem a9b {v t:Ty}{y:t.den}: ∀{u:Ty}{x z:u.den}{o q:Nat}{l:(Ty.list v).den},sF t y u x o=some z->qO (.list v) t y q=some l->q<t.cells->qO (.list v) u z (o+q)=some l:=by
 intro u
 induction u with
 |pair a b iha ihb=>
  intro x z o q l h g hq;by_cases hu:o=0/\t= .pair a b
  ·obtain⟨rfl,rfl⟩:=hu;unfold sF at h;rw[aTt rfl] at h;simp only[tV,aRg] at h;subst h;simpa using g
  ·have keyh:(if o<a.cells then(sF t y a x.1 o).map (fun q=>(q,x.2)) else(sF t y b x.2 (o-a.cells)).map (fun q=>(x.1,q)))=some z:=by
    cases o with
    |zero=>
     unfold sF at h;rw[aS4 (fun e=>hu ⟨rfl,e⟩)] at h;simpa using h
    |succ o=>simpa[sF] using h
   have keyg: ∀m,qO (.list v) (.pair a b) z m=(if m<a.cells then qO (.list v) a z.1 m else qO (.list v) b z.2 (m-a.cells)):=by
    intro m;cases m with
    |zero=>
     conv=>lhs;unfold qO
     rw[aS4 (by intro e;cases e),Nat.zero_sub]
    |succ m=>simp [qO]
   rw[keyg];by_cases ho:o<a.cells
   ·rw[if_pos ho] at keyh;obtain⟨z',hz',rfl⟩:=aRx.1 keyh;have hfit:o+t.cells<=a.cells:=by
     have: ∀{u:Ty}{x z:u.den}{o:Nat},sF t y u x o=some z->o+t.cells<=u.cells:=by
      intro u
      induction u with
      |pair a b iha ihb=>
       intro x z o h;have key: ∀o,(if o<a.cells then(sF t y a x.1 o).map (fun q=>(q,x.2)) else(sF t y b x.2 (o-a.cells)).map (fun q=>(x.1,q)))=some z->o+t.cells<=a.cells+b.cells:=by
        intro o h;by_cases ho:o<a.cells
        ·rw[if_pos ho] at h;obtain⟨z',hz',_⟩:=aRx.1 h;have:=iha hz';omega
        ·rw[if_neg ho] at h;obtain⟨z',hz',_⟩:=aRx.1 h;have:=ihb hz';omega
       cases o with
       |zero=>
        unfold sF at h;split at h
        ·rename_i e;subst e;simp
        ·exact key 0 (by simpa using h)
       |succ o=>exact key (o+1) (by simpa[sF] using h)
      |_=>
       intro x z o h;cases o with
       |zero=>
        unfold sF at h;split at h
        ·rename_i e;subst e;simp
        ·simp at h
       |succ o=>simp [sF] at h
     exact this hz'
    rw[if_pos (by omega)];exact iha hz' g hq
   ·rw[if_neg ho] at keyh;obtain⟨z',hz',rfl⟩:=aRx.1 keyh;rw[if_neg (by omega),show o+q-a.cells=o-a.cells+q from by omega];exact ihb hz' g hq
 |_=>
  intro x z o q l h g hq;cases o with
  |zero=>
   unfold sF at h;split at h
   ·rename_i e;subst e;simp only[tV,aRg] at h
    try subst h
    simpa using g
   ·simp at h
  |succ o=>simp [sF] at h
omit hT hH in
theorem a9c {v:Ty}: ∀{t:Ty}{x:t.den}{q:Nat}{l:(Ty.list v).den},qO (.list v) t x q=some l->q<t.cells:=by
 intro t
 induction t with
 |pair s t ihs iht=>
  intro x q l g;have key: ∀q,(if q<s.cells then qO (.list v) s x.1 q else qO (.list v) t x.2 (q-s.cells))=some l->q<s.cells+t.cells:=by
   intro q g;by_cases h:q<s.cells
   ·omega
   ·rw[if_neg h] at g;have:=iht g;omega
  cases q with
  |zero=>
   unfold qO at g;rw[aS4 (by intro e;cases e)] at g;exact key 0 (by simpa using g)
  |succ q=>exact key (q+1) (by simpa[qO] using g)
 |unit=>
  intro x q l g;cases q with
  |zero=>unfold qO at g;rw[aS4 (by intro e;cases e)] at g;cases g
  |succ q=>simp [qO] at g
 |_=>
  intro x q l g;cases q with
  |zero=>simp [Ty.cells]
  |succ q=>simp [qO] at g
omit hT in
theorem rS.retok {i:Nat}{u:Ty}{z:u.den}{toks nt:List (Nat×Nat)}{p:Pl}(hb:pT H i=some (.cells u z toks)) (hp:g.J i=some p)
  (hn: ∀cs,Rd g w u z cs->w.rangeAt p.1 p.2 cs->FA g u z cs nt):rS g w H ⟨[],(.any,none),[(i,.cells u z (qG nt toks))],[]⟩ g w undef:=by
 obtain⟨p',cs,hp',hR,hra,hth,hns,htk⟩:=hH.blk i _ hb;rw[hp] at hp';obtain rfl:=aRl hp';have get: ∀j blk,j∈pU [(i,pQ.cells u z (qG nt toks))]->pT (qG [(i,pQ.cells u z (qG nt toks))] H) j=some blk->j=i/\blk= .cells u z (qG nt toks):=by
  intro j blk hi hg;simp only[pU,aRr] at hi;subst hi;simp only[qG,pT,aSV,aRg] at hg;exact⟨rfl,hg.symm⟩
 have perm: ∀j blk b o,j∈pU [(i,pQ.cells u z (qG nt toks))]->pT (qG [(i,pQ.cells u z (qG nt toks))] H) j=some blk->rP g j blk b o->w.heap.size<=b\/sJ g H (pU [(i,pQ.cells u z (qG nt toks))]) b o:=by
  intro j blk b o hi hg ho;obtain⟨rfl,rfl⟩:=get j blk hi hg;exact .inr ⟨j,_,hi,hb,ho⟩
 have le:Le g w g w:=⟨fun _ _ h=>h,fun _ _ _=>rfl,fun _ _ h=>h,fun _ _ _ h=>h⟩;have fr:Fr (sJ g H (pU [(i,pQ.cells u z (qG nt toks))])) w w g.S g.S:=⟨rfl,rfl,rfl,Nat.le_refl _,fun _ _ _=>rfl,fun _ _ _ _=>⟨rfl,rfl⟩,fun _ _ h=> .inl h,fun _ _ h=> .inl h⟩;refine⟨le,⟨trivial,trivial⟩,hH.upd le fr perm (fun _ _=>⟨rfl,rfl⟩) (fun j blk hi hg=> ?_) (fun i j bi bj b o hi hj hij hgi hgj _ _=>hij ((get i bi hi hgi).1.trans (get j bj hj hgj).1.symm)) (fun b o h=>hH.sl b o h),fr,perm,fun _ _=>⟨rfl,rfl⟩,fun j u' y' us h=> ?_⟩
 ·obtain⟨rfl,rfl⟩:=get j blk hi hg;refine⟨p,cs,hp,hR,hra,hth,hns,fun q kk hm=> ?_⟩;rcases(OT.1 hm) with hm|hm
  ·exact hn cs hR hra q kk hm
  ·exact htk q kk hm
 ·simp only[qG,pT] at h;split at h
  ·rename_i e1;subst e1;simp only[aRg,pQ.cells.injEq] at h;obtain⟨rfl,_⟩:=h;exact .inl ⟨z,toks,hb⟩
  ·exact .inl ⟨y',us,h⟩
omit hT hH in
theorem aIf {g:Gh}{t a b:Ty}{y:t.den}{v:Value}{k:Option Nat}(h:k.isSome=true) (ht:t= .pair a b) (hk:BZ g t y v k):xF t v.cells.toList:=by
 subst ht;cases k with
 |none=>cases h
 |some k=>exact hk
omit hT hH in
theorem aIg {base i off:Nat}{b:Option pQ}{ls:List (Nat×TypeId×Nat)}{t:Ty}{y:t.den}{k:Option Nat}{e:pY}(h:S3 base i off b ls t y k=some e):
  (∃(s:Ty) (x:s.den) (toks:List (Nat×Nat)) (z:s.den),b=some (.cells s x toks)/\sF t y s x off=some z/\k.isSome=true/\(∃a c,t= .pair a c)/\DM t ls=true/\
   e=⟨[],(.any,none),(i,.cells s z (qG (L4 off (BA ls base)) (uZ toks off t.cells)))::qG (CN ls base) [(i,.cells s z (uZ toks off t.cells))],[i]⟩)\/S1 t y k i off b=some e:=by
 unfold S3 at h;split at h
 ·rename_i q r a c y' k';cases hok:DM (.pair a c) (q::r) with
  |false=>rw[hok] at h;unfold S2 at h;split at h<;>first|cases h|(rename_i h2;cases h2)
  |true=>
   rw[hok] at h;unfold S2 at h;split at h
   ·rename_i s x toks _;cases hset:sF (.pair a c) y' s x off with
    |none=>rw[hset] at h;cases h
    |some z=>
     rw[hset] at h;exact .inl ⟨s,x,toks,z,rfl,hset,rfl,⟨a,c,rfl⟩,rfl,(aRl h).symm⟩
   ·cases h
 ·exact .inr h
omit hT hH in
theorem a9d {i off k n el:Nat}{u v:Ty}{x:v.den}{y:Option pY}{e:pY}(h:orO i off k n el u v x y=some e):y=some e\/XM i (xK el u (some (k,n)) v x off)=some e:=by
 cases y with
 |some r=>exact .inl h
 |none=>exact .inr h
theorem aIh {t:TypeId}{x y:Operand}(ho:o.op= .store t x y) {sx sy:pR}(hx:qV g w sx (a.eval x)) (hy:qV g w sy (a.eval y)) {base:Nat}{e:pY}(hr:S5 base H (rF T t) sx sy=some e) (hside: ∀p∈e.side,p) (hf:zC g base e):qP P o a g w H e:=by
 generalize hst:rF T t=ot at hr;unfold S5 at hr;split at hr
 ·rename_i ti i off k kk n k2;generalize hb:pT H i=ob at hr;unfold XN at hr;split at hr
  ·rename_i u el _ _ _ v x' toks;rcases a9d hr with hr|hr
   case inr=>
    generalize hset:xK el u (some (kk,n)) v x' off=oz at hr;cases oz with
    |none=>cases hr
    |some z'=>
     cases hr;have hty:=sP hT hst;obtain⟨p,hp,hv⟩:=yP hx.1;obtain⟨h1,h2⟩:=hy.1;have hR:Rd g w (.rl el u) (some (kk,n)) [a.eval y]:=⟨_,h1,rfl,h2⟩;obtain⟨heff,hth⟩:=zB.openS (side:=[]) (rds:=[1000000000,i]) hH hb hp hset hR rfl rfl;have hce:(a.eval y).cells= #[a.eval y]:=by rcases h2 with⟨h2,_⟩ |⟨_,_,h2,_⟩<;>(rw[h2];rfl)
     refine qP.skipW (w':=w.setCells p.1 (p.2+off) [a.eval y]) ?_ heff;obtain⟨inf,hi,hsz,_⟩:=DU hty;have hcells:=run_storeCells_cells (P:=P) p.1 (p.2+off) [a.eval y] 0 w (fun j hj=>by simpa using(hth j hj).1) (fun j hj=>by simpa using(hth j hj).2) (fun v hv=>zV hR v hv);simp only[aSG] at hcells;have hs2:(a.eval y).cells.size=inf.size:=by rw[hsz,hce];rfl
     have hcl:(a.eval y).cells.toList=[a.eval y]:=by rw[hce]
     simp only[execOp,ho,hv,Instr.storeAt,Instr.sureAddr,storeVar,aRw,aRG,aRp,sizeOf,typeInfo,aSp,hi,hs2,ne_eq,not_true_eq_false,aTr,hcl,hcells]
   generalize hset:sF (.rl el u) (some (kk,n)) v x' off=oz at hr;cases oz with
   |none=>cases hr
   |some z'=>
    cases hr;have hty:=sP hT hst;obtain⟨p,hp,hv⟩:=yP hx.1;obtain⟨h1,h2⟩:=hy.1;have hR:Rd g w (.rl el u) (some (kk,n)) [a.eval y]:=⟨_,h1,rfl,h2⟩;obtain⟨heff,hth⟩:=rS.store (side:=[]) (rds:=[i]) (k:=none) (v:=a.eval y) hH hb hp hset hR trivial (fun _ _ _=>rfl) (fun _=>rfl);have hce:(a.eval y).cells= #[a.eval y]:=by rcases h2 with⟨h2,_⟩ |⟨_,_,h2,_⟩<;>(rw[h2];rfl)
    refine qP.skip (w':=w.setCells p.1 (p.2+off) [a.eval y]) ?_ heff;obtain⟨inf,hi,hsz,_⟩:=DU hty;have hcells:=run_storeCells_cells (P:=P) p.1 (p.2+off) [a.eval y] 0 w (fun j hj=>by simpa using(hth j hj).1) (fun j hj=>by simpa using(hth j hj).2) (fun v hv=>zV hR v hv);simp only[aSG] at hcells;have hs2:(a.eval y).cells.size=inf.size:=by rw[hsz,hce];rfl
    have hcl:(a.eval y).cells.toList=[a.eval y]:=by rw[hce]
    simp only[execOp,ho,hv,Instr.storeAt,Instr.sureAddr,storeVar,aRw,aRG,aRp,sizeOf,typeInfo,aSp,hi,hs2,ne_eq,not_true_eq_false,aTr,hcl,hcells]
  ·cases hr
 ·rename_i ti k n c i o' _ u z kk;split at hr
  ·rename_i hu;subst hu;generalize hk:pT H k=ob at hr;unfold S4 at hr;split at hr
   ·rename_i e' t' l m;split at hr
    ·rename_i hc;generalize hset:sF ti.ty z t' (qD t' l i) o'=oz at hr;cases oz with
     |none=>cases hr
     |some z'=>
      cases hr;have hnm:=hside _ (aRr.2 rfl);obtain⟨b,cap,xs,c1,c2,c3,hv,hcur,hown,hF,hl,hi,h0,e1,e2,e3,e4⟩:=a8V hT hH hx.1 hk hnm hc;subst hnm;have hty:=sP hT hst;obtain⟨hvy,hky⟩:=YW hT hH hy;have hR:=DS hvy;have hRl:=sH hR;obtain⟨d1,d2,d3,f1,f2,f3,f4⟩:=SW hR e4 hset;obtain⟨_,_,_,_,hv0,hown0,_,hnone,hseal⟩: ∃(_:True) (_:True) (v0:Value) (xs0:List Value),g.cur k n=some v0/\w.ownsRow 0 e' t'.cells v0 n xs0/\sS (Rd g w t') t'.cells l xs0/\(∀m,n<m->g.cur k m=none)/\∀b,v0.ownBlock=some b->∀o,¬g.S b o:=by
       obtain⟨_,v0,xs0,q1,q2,q3,q4,q5⟩:=hH.blk k _ hk;exact⟨trivial,trivial,v0,xs0,q1,q2,q3,q4,q5⟩
      rw[hcur] at hv0;obtain rfl:=aRl hv0;rcases hown.2 with⟨h5,_⟩ |⟨q,cap',cur,h5,_,hg,hnc,hcm,hcs,htake⟩
      ·cases h5
      simp only[aTo,aRg,Addr.mk.injEq,and_true,true_and] at h5;obtain⟨rfl,rfl⟩:=h5;have hxl:=hown.1;have hnew:=sH f4;simp only[aRh] at hnew;have hc2l:c2.length=t'.cells:=by rw[e3,hc]
      have hd:d1.length+d2.length+d3.length=t'.cells:=by rw[<-hc2l,f1];simp only[aRh]
      have hx1:c1.length+c2.length+c3.length=n*t'.cells:=by rw[<-hxl,e1];simp only[aRh]
      have hall:cur.toList=(c1++(d1++d2++d3)++c3)++cur.toList.drop (n*t'.cells):=by
       conv=>lhs;rw[<-aSs (n*t'.cells) cur.toList,htake,e1,f1]
      obtain⟨D,hD⟩: ∃D,D=cur.toList.drop (n*t'.cells):=⟨_,rfl⟩;rw[<-hD] at hall;have hall2:cur.toList=(c1++d1)++(d2++(d3++c3++D)):=by rw[hall];simp only[aRo]
      have hpos:i.toNat*c+o'=(c1++d1).length:=by rw[aRh,e2,f2]
      have hD2:(a.eval y).cells.toList.length=d2.length:=by rw[hRl,f3]
      have hfit:i.toNat*c+o'+0+(a.eval y).cells.toList.length<=cur.size:=by
       have:cur.size=cur.toList.length:=by simp
       rw[this,hall2,aSG,hpos,hD2];simp only[aRh];omega
      have hst2:=run_storeCells_at P b (i.toNat*c+o') e' (a.eval y).cells.toList 0 cur w hg hfit (fun v hv=>zV hR v hv);have hrow:cur.toList.take (i.toNat*c+o'+0)++(a.eval y).cells.toList++cur.toList.drop (i.toNat*c+o'+0+(a.eval y).cells.toList.length)=(c1++(d1++(a.eval y).cells.toList++d3)++c3)++D:=by
       rw[aSG,hpos,hD2,hall2,aSE,List.drop_append,List.drop_of_length_le (by omega),List.nil_append,aR1,aSZ];simp only[aRo]
      rw[hrow] at hst2;obtain⟨inf,hinf,hsz,_⟩:=DU hty;have hs2:(a.eval y).cells.size=inf.size:=by rw[hsz,<-hRl,aRP]
      have hnewlen:((c1++(d1++(a.eval y).cells.toList++d3)++c3)++D).length=cur.size:=by
       have:cur.size=cur.toList.length:=by simp
       rw[this,hall];simp only[aRh];omega
      have hxs':(c1++(d1++(a.eval y).cells.toList++d3)++c3).length=n*t'.cells:=by
       rw[<-hx1];simp only[aRh];rw[f1];simp only[aRh];omega
      have hown':(w.setRow b ((c1++(d1++(a.eval y).cells.toList++d3)++c3)++D).toArray).ownsRow 0 e' t'.cells (.slice (some ⟨b,0,none⟩) n cap) n (c1++(d1++(a.eval y).cells.toList++d3)++c3):=
       ⟨hxs',.inr ⟨b,cap,_,rfl,aSg _,aTi w b cur _ e' _ hg,hnc,hcm,by rw[aR8,hnewlen,hcs],by rw[<-hxs'];exact aSE⟩⟩
      have hF':sS (Rd g w t') t'.cells (l.set i.toNat z') (c1++(d1++(a.eval y).cells.toList++d3)++c3):=by
       obtain⟨q1,q2,q3,r1,r2,r3,r4⟩:=YO hF f4 (sH f4) hi;have s1:q1=c1/\q2=c2/\q3=c3:=by
        have h6:q1++(q2++q3)=c1++(c2++c3):=by rw[<-aRo,<-r1,e1,aRo]
        obtain⟨h7,h8⟩:=aTm h6 (by rw[r2,e2,hc]);obtain⟨h9,h10⟩:=aTm h8 (by rw[r3,e3,hc]);exact⟨h7,h9,h10⟩
       obtain⟨rfl,rfl,rfl⟩:=s1;exact r4
      have hownk: ∀o,sJ g H [k] b o:=fun o=>⟨k,_,by simp,hk,_,hcur,rfl⟩;refine qP.skip (w':=w.setRow b ((c1++(d1++(a.eval y).cells.toList++d3)++c3)++D).toArray) ?_ (rS.row (v:= .slice (some ⟨b,0,none⟩) n cap) hH (by rw[List.length_set];exact hl) hown' hF' hnone (fun u hu=>by rw[hcur] at hu;exact(aRl hu).symm)
       (.inr ⟨some b,⟨rfl,rfl,rfl,by simp,fun q _ hq=>aST w b q _ (fun e=>hq (by rw[e]))⟩,fun b' hb' o=>by cases hb';exact hownk o⟩) (fun b' o hS=> ?_) hseal (fun b' hb'=>by cases hb';exact .inr hownk) ⟨trivial,trivial⟩)
      ·simp only[execOp,ho,hv,Instr.storeAt,Instr.sureAddr,storeVar,aRw,aRG,aRp,sizeOf,typeInfo,aSp,hinf,hs2,ne_eq,not_true_eq_false,aTr,hst2]
      ·have hne:b'≠b:=fun e=>hseal b rfl o (e▸hS);exact aRF (a:=⟨b',o,none⟩) (aST w b b' _ hne)
    ·cases hr
   ·cases hr
  ·cases hr
 ·rename_i ti i off k u z kk;split at hr
  ·rename_i hu;subst hu;generalize hb:pT H i=ob at hr;have hty:=sP hT hst;obtain⟨p,hp,hv⟩:=yP hx.1;obtain⟨hvy,hky⟩:=YW hT hH hy;have hR:=DS hvy;have hone:ti.ty.isRow=false->(a.eval y).cells.toList=[a.eval y]:=fun hrow=>by
    have h1:=zV (AD hrow hvy) _ (aRr.2 rfl);cases h:a.eval y<;>first|rfl|(rw[h] at h1;simp [Value.oneCell'] at h1)
   have hrun:w.there p.1 (p.2+off) (a.eval y).cells.toList.length->(execOp a.eval o).run P w= .ok .skip (w.setCells p.1 (p.2+off) (a.eval y).cells.toList):=by
    intro hth;obtain⟨inf,hi,hsz,_⟩:=DU hty;have hlen:=sH hR;have hcells:=run_storeCells_cells (P:=P) p.1 (p.2+off) (a.eval y).cells.toList 0 w (fun j hj=>by simpa using(hth j hj).1) (fun j hj=>by simpa using(hth j hj).2) (fun v hv=>zV hR v hv);simp only[aSG] at hcells;have hs2:(a.eval y).cells.size=inf.size:=by rw[hsz,<-hlen,aRP]
    simp only[execOp,ho,hv,Instr.storeAt,Instr.sureAddr,storeVar,aRw,aRG,aRp,sizeOf,typeInfo,aSp,hi,hs2,ne_eq,not_true_eq_false,aTr,hcells]
   rcases aIg hr with⟨s,x',toks,z',hb',hset,hsome,⟨pa,pb,hpair⟩,hok,rfl⟩ |hr
   ·rw[hb'] at hb;have hn:xF ti.ty (a.eval y).cells.toList:=aIf hsome hpair hky;obtain⟨heff,hth⟩:=rS.store (side:=[]) (rds:=[i]) (k:=none) (v:=undef) hH hb hp hset hR trivial (fun _ _ _=>rfl) (fun h=>by rw[hpair] at h;cases h);have hfr: ∀j,base<=j->j<base+ti.ls.length->∀n,g.cur j n=none:=fun j h1 h2=>(hf j (by
     simp only[pU,aRv];right;rw[CW];exact .inl ((OS _ base j).2 ⟨h1,h2⟩)) h1).2
    obtain⟨g1,k1,k2,k3,k4⟩:=YS ti.ls base g _ heff.heap hfr;have e2:=rS.trans (side:=[]) (rds:=[]) heff k1;have hib:i<base:=by
     rcases aSw i base with h|h
     ·exact h
     ·have:=(hf i (by simp [pU]) h).1;rw[hp] at this;cases this
    have hiN:i∉pU (CN ti.ls base):=fun h=>by
     have:=(OS _ base i).1 h;omega
    have hb3:pT (qG (qG (CN ti.ls base) [(i,pQ.cells s z' (uZ toks off ti.ty.cells))]) H) i=some (.cells s z' (uZ toks off ti.ty.cells)):=by
     rw[LK,BE hiN];simp [qG,pT]
    have hyl:=sH hR;have e3:=rS.retok (p:=p) (nt:=L4 off (BA ti.ls base)) e2.heap hb3 (by rw[k2];exact hp) (fun cs hRz hra o k hm=>by
     obtain⟨q,rfl,hq⟩:=a9a hm;obtain⟨en,he,rfl⟩:=YT hq;obtain⟨u,h1,h2⟩:=a8Q hn hR (YU hok en he);have hql:en.1<(a.eval y).cells.toList.length:=(aRu.1 h2).1;have h3:=a9b hset h1 (by omega);refine⟨u,[],.slice none 0 0,h3,?_,k3 _ _ hq⟩;have hlen:=sH hRz;have hlt:=a9c h3;have hc:cs[off+en.1]? =some cs[off+en.1]:=aRn (by omega);have hr1:=hra _ _ hc;have hr2:=aSR p.1 (a.eval y).cells.toList (p.2+off) w (fun j hj=>(hth j hj).1) en.1 hql;rw[aR0] at hr2;rw[hr2] at hr1;rw[hc,<-hr1,<-h2,aRn hql])
    exact qP.skip (w':=w.setCells p.1 (p.2+off) (a.eval y).cells.toList) (hrun hth) (rS.trans (side:=[]) (rds:=[i]) e2 e3)
   ·unfold S1 at hr;split at hr
    ·rename_i s q toks _;generalize hset:sF ti.ty z s q off=oz at hr;cases oz with
     |none=>cases hr
     |some z'=>
      cases hr;obtain⟨heff,hth⟩:=rS.store (side:=[]) (rds:=[i]) hH hb hp hset hR (aIe hky) (fun a b e=>by rw[e];rfl) hone;exact qP.skip (w':=w.setCells p.1 (p.2+off) (a.eval y).cells.toList) (hrun hth) heff
    ·cases hr
  ·cases hr
 ·cases hr
theorem a9e {t:Ty}{n:Nat}{ev:Operand->Value}{ρ:Operand->pR}: ∀(ps:List (Nat×Operand)) (l z:List t.den) (cs:List Value),sS (Rd g w t) t.cells l cs->l.length=n->(∀q∈ps,qV g w (ρ q.2) (ev q.2))->A7 t n (some l) (tZ ρ ps)=some z->
  ∃cs',Instr.fill (fun i=>some (i*t.cells,t.cells)) cs.toArray (ps.map fun q=>(q.1,ev q.2))=some cs'.toArray/\sS (Rd g w t) t.cells z cs'/\z.length=n
 |[],l,z,cs,r,hl,_,h=>by
  simp only[tZ,A7,aRg] at h;subst h;exact⟨cs,rfl,r,hl⟩
 |(i,q)::ps,l,z,cs,r,hl,hq,h=>by
  have h0:=hq (i,q) (by simp);generalize hs:ρ q=s at h0;simp only[tZ,hs] at h;obtain⟨d,k⟩:=s;cases d with
  |val u y=>
   simp only[A7,a7Y] at h;by_cases hc:u=t/\i<n
   ·rw[aTt hc] at h;obtain⟨rfl,hi⟩:=hc;simp only[tV] at h;have hR:=DS h0.1;obtain⟨c1,c2,c3,rfl,h2,h3,h4⟩:=YO (i:=i) r hR (sH hR) (by omega);obtain⟨cs',k1,k2,k3⟩:=a9e ps (l.set i y) z _ h4 (by simpa using hl) (fun q hq'=>hq q (by simp [hq'])) h;refine⟨cs',?_,k2,k3⟩;simp only[aR2];rw[a8P rfl (by have:=sH hR;simpa using this) (c1:=c1) (c2:=c2) (c3:=c3) (by simp) h2 h3];exact k1
   ·rw[aS4 hc] at h;cases ps with
    |nil=>simp [tZ,A7] at h
    |cons p ps=>simp [tZ,A7] at h
  |_=>simp [A7] at h
theorem YX {t:TypeId}{n:Nat}{ps:Array (Nat×Operand)}(ho:o.op= .buildSlice t n ps) {ρ:Operand->pR}(hρ: ∀q∈ps.toList,qV g w (ρ q.2) (a.eval q.2)) {u:Ty}{el:TypeId}{by':Nat}{ar:Bool}{ls:List (Nat×TypeId×Nat)}(hst:rF T t=some ⟨.list u,el,by',ar,ls⟩) {l:List u.den}
  (hb:A7 u n (some (BT u n)) (tZ ρ ps.toList)=some l) (hn:n<=16777216/\n*u.cells<=16777216):
  ∃cs':List Value,sS (Rd g w u) u.cells l cs'/\l.length=n/\(execOp a.eval o).run P w= .ok (.value (.slice (some ⟨w.heap.size,0,none⟩) n n)) (w.alloc (.cells cs'.toArray el)):=by
    obtain⟨h2,h3,_⟩:=(sP hT hst).2;obtain⟨ei,hei,hz⟩:=aRx.1 h3;simp only[aRI] at hz;obtain⟨cs',k1,k2,k3⟩:=a9e hT hH ps.toList (BT u n) l _ (a80 n) (a81 u n) hρ hb;refine⟨cs',k2,k3,?_⟩;have hzc:(wX u).cells=(tD u).toArray:=by
     unfold wX;cases h:u<;>simp [Ty.isRow,tD,Value.cells]
    have hmap:(ps.map fun(q:Nat×Operand)=>(q.1,a.eval q.2)).toList=ps.toList.map fun q=>(q.1,a.eval q.2):=by simp
    have hzl:(tD u).length=u.cells:=sH (CU g w u);have hrow: ∀z:Array Value,(n*u.cells≠0->z=(tD u).toArray)->(Array.range (n*u.cells)).map (fun i=>z[i%z.size]!)=(List.flatten (List.replicate n (tD u))).toArray:=by
     intro z hz0;by_cases h0:n*u.cells=0
     ·rw[h0];have:List.flatten (List.replicate n (tD u))=[]:=aRJ (by simp [hzl,h0]);rw[this];simp
     ·rw[hz0 h0];have hpos:0<u.cells:=Nat.pos_of_ne_zero (fun h=>h0 (by rw[h];simp));apply aSv.1;apply List.ext_getElem?;intro j;have key: ∀(m j:Nat),j<m*u.cells->(List.flatten (List.replicate m (tD u)))[j]? =(tD u)[j%u.cells]? :=by
       intro m
       induction m with
       |zero=>intro j h;simp at h
       |succ m ih=>
        intro j h;rw[List.replicate_succ,aRS];by_cases hj:j<u.cells
        ·rw[aRz (by omega),Nat.mod_eq_of_lt hj]
        ·rw[aRq (by omega),hzl,ih (j-u.cells) (by rw[aSr] at h;omega)];congr 1
         conv=>rhs;rw[<-Nat.sub_add_cancel (Nat.le_of_not_lt hj),Nat.add_mod_right]
      by_cases hj:j<n*u.cells
      ·have hm:j%u.cells<(tD u).length:=by rw[hzl];exact Nat.mod_lt _ hpos
       simp only[Array.toList_map,Array.toList_range,List.getElem?_map,List.getElem?_range hj,Option.map_some,aR8,hzl];rw[key n j hj,aRn hm];simp [getElem!_pos,hm]
      ·rw[aSy (by simp;omega),aSy (by simp [hzl];omega)]
    have hlim: ¬(n*u.cells>2^24):=by have:=hn.2;omega
    by_cases h0:n*u.cells=0
    ·simp only[execOp,ho,Instr.buildSlice,aRw,aRA h2,aRp,sizeOf,typeInfo,aSp,hei,hz.1,aRG,if_neg hlim,if_pos h0];rw[hrow #[] (fun h=>absurd h0 h),hmap,k1];simp only[newRow,aRw,run_newObj,aRp,aRG];rfl
    ·simp only[execOp,ho,Instr.buildSlice,aRw,aRA h2,aRp,sizeOf,typeInfo,aSp,hei,hz.1,aRG,if_neg hlim,if_neg h0,zeroValue,hz.2.2,hzc];rw[hrow (tD u).toArray (fun _=>rfl),hmap,k1];simp only[newRow,aRw,run_newObj,aRp,aRG];rfl
theorem aIi {t:TypeId}{n:Nat}{ps:Array (Nat×Operand)}(ho:o.op= .buildSlice t n ps) {ρ:Operand->pR}(hρ: ∀q∈ps.toList,qV g w (ρ q.2) (a.eval q.2)) {base:Nat}{e:pY}(hr:XD base n (tZ ρ ps.toList) (rF T t)=some e) (hf:zC g base e):qP P o a g w H e:=by
 generalize hst:rF T t=ot at hr;unfold XD at hr;split at hr
 ·rename_i u el by' ls_;split at hr
  ·rename_i hn0;generalize hb:A7 u n (some (BT u n)) (tZ ρ ps.toList)=ol at hr;cases ol with
   |none=>cases hr
   |some l=>
    simp only[a8g] at hr;split at hr
    ·rename_i hn;cases hr;obtain⟨cs',k2,k3,hrun⟩:=YX hT hH ho hρ hst hb hn.2;have hfr:=(hf base (by simp [pU]) (Nat.le_refl _)).2;have hlen:=H6 k2;have hown:(w.alloc (.cells cs'.toArray el)).ownsRow 0 el u.cells (.slice (some ⟨w.heap.size,0,none⟩) n n) n cs':=⟨by rw[hlen,k3],.inr ⟨w.heap.size,n,cs'.toArray,rfl,aSg _,aTs w _,Nat.le_refl _,by unfold maxLen;omega,by simp [hlen,k3],by simp [<-k3,<-hlen]⟩⟩;refine qP.value hrun (rS.row (v:= .slice (some ⟨w.heap.size,0,none⟩) n n) (xs:=cs') hH k3 hown k2 (fun m _=>hfr m) (fun u hu=>by rw[hfr] at hu;cases hu) (.inl (World.grownBy_alloc w _ _)) (fun b o h=>aRF (a:=⟨b,o,none⟩) (aRL _ _ _ (hH.sl b o h))) (fun b hb o hs=> ?_) (fun b hb=> ?_) ⟨⟨by simp [Gh.tok],.inr ⟨_,_,rfl,Nat.le_refl _⟩⟩,trivial⟩)
     ·cases hb;exact aTa _ (hH.sl _ _ hs)
     ·cases hb;exact .inl (Nat.le_refl _)
    ·cases hr
  ·rename_i hn0;generalize hb:A7 u n (some (BT u n)) (tZ ρ ps.toList)=ol at hr;cases ol with
   |none=>cases hr
   |some l=>
    simp only[RV] at hr;split at hr
    ·rename_i hn;cases hr;obtain⟨cs',k2,k3,hrun⟩:=YX hT hH ho hρ hst hb hn;have hfr:=hf base (by simp [pU]) (Nat.le_refl _);exact qP.value (v:= .slice (some ⟨w.heap.size,0,none⟩) n n) (w':=w.alloc (.cells cs'.toArray el)) hrun (rS.lit hH rfl k3 k2 (by unfold maxLen;omega) hfr.2)
    ·cases hr
 ·rename_i u el by' ls_;generalize hb:A7 u n (some (BT u n)) (tZ ρ ps.toList)=ol at hr;cases ol with
  |none=>cases hr
  |some l=>
   simp only[RV] at hr;split at hr
   ·rename_i hn;cases hr;obtain⟨cs',k2,k3,hrun⟩:=YX hT hH ho hρ hst hb hn;have hfr:=hf base (by simp [pU]) (Nat.le_refl _);exact qP.value (v:= .slice (some ⟨w.heap.size,0,none⟩) n n) (w':=w.alloc (.cells cs'.toArray el)) hrun (rS.lit hH rfl k3 k2 (by unfold maxLen;omega) hfr.2)
   ·cases hr
 ·cases hr
theorem aIj {args:Array Operand}{tys:Array TypeId}(ho:o.op= .call ⟨.builtin .append,args,tys⟩) {ρ:Operand->pR}(hρ: ∀x∈args.toList,qV g w (ρ x) (a.eval x)) {e:pY}
  {t:TypeId}(htt:tys= #[t,t]) (hr:SC H (rF T t) (v6 ρ args.toList)=some e) (hs: ∀p∈e.side,p):qP P o a g w H e:=by
 subst htt;generalize hst:rF T t=ot at hr;generalize hss:v6 ρ args.toList=ss at hr;unfold SC at hr;split at hr
 ·rename_i u el by' ar ls_ k n _ b1 r _;split at hr
  ·rename_i hbu;subst hbu;generalize hk:pT H k=ob at hr;unfold SB at hr;split at hr
   ·rename_i e' t' l m;split at hr
    ·rename_i hbt;subst hbt;split at hr
     ·rename_i hec;obtain⟨rfl,hpos,hb1⟩:=hec;simp only[tV] at hr;cases hr;have hnm:=hs _ (by simp:(n=m)∈_);subst hnm;have hby:=hs _ (by simp:((n+List.length r)*by'<=140737488355328)∈_);obtain⟨v,vr,hv,hs1,hs2⟩:=T3 hT hH hρ hss;obtain⟨h2,h3,_⟩:=(sP hT hst).2;obtain⟨ei,hei,hz⟩:=aRx.1 h3;simp only[aRI] at hz;obtain⟨cs,hx⟩:=FB (a:=a) hT hH ho;obtain⟨hl,v0,xs,hv0,hown,hF0,hnone,hseal⟩:=hH.blk k _ hk;obtain⟨hcur,hshape⟩:=hs1.1;rw[hv0] at hcur;obtain rfl:=aRl hcur;obtain⟨adr,capr,hvr,hler,hlr⟩:=CV hs2.1;have hlen2:(l++r).length=n+List.length r:=by rw[aRh,hl]
      rw[hlen2];have hownk: ∀q,v0.ownBlock=some q->∀o,sJ g H [k] q o:=fun q hq o=>⟨k,_,by simp,hk,v0,hv0,hq⟩;by_cases hm:List.length r=0
      ·obtain rfl:r=[]:=aRJ hm;refine qP.value (v:=v0) (w':=w) ?_ (rS.row (v:=v0) (xs:=xs) hH hlen2 hown (by rw[List.append_nil];exact hF0) hnone (fun u hu=>by
        have h5:g.cur k n=some u:=hu;rw[hv0] at h5;exact(aRl h5).symm) (.inl ⟨rfl,rfl,rfl,Nat.le_refl _,fun _ _ _=>rfl⟩) (fun _ _ _=>rfl) hseal (fun q hq=> .inr (hownk q hq)) ⟨⟨by simp [Gh.tok],hshape⟩,trivial⟩)
       obtain⟨adl,capl,hvl,hlel⟩: ∃adl capl,v0= .slice adl n capl/\n<=capl:=by
        rcases hshape with⟨h,rfl⟩ |⟨b,cap,h,h'⟩
        ·exact⟨_,_,h,Nat.le_refl _⟩
        ·exact⟨_,_,h,h'⟩
       rw[hx,hv,hvr,hvl];have ha0:(#[Value.slice adl n capl,Value.slice adr (List.length ([]:List b1.den)) capr]:Array Value)[0]? =some (.slice adl n capl):=rfl;have ha1:(#[Value.slice adl n capl,Value.slice adr (List.length ([]:List b1.den)) capr]:Array Value)[1]? =some (.slice adr 0 capr):=rfl;have ht0:(#[t,t]:Array TypeId)[0]? =some t:=rfl;have ht1:(#[t,t]:Array TypeId)[1]? =some t:=rfl;simp only[builtin,Builtin.append_,ht0,ht1,ha0,ha1,aRw,aRA h2,aRp,aRG,sizeOf,typeInfo,aSp,hei];cases adr<;>cases adl<;>simp [Builtin.lenOf,Builtin.firstCells,loadCells,loadCellsFrom,storeCells,hlel]
      ·obtain⟨b,off,rfl,hL⟩: ∃b o,adr=some ⟨b,o,none⟩/\xX (Rd g w b1) w g.S b1.cells b o r:=by
        rcases hlr with rfl|h
        ·exact absurd rfl hm
        ·exact h
       obtain⟨news,hF,hra,_⟩:=LJ hL;obtain⟨q,cap,w',hrun,hown',hq,hg,hcap,hcell⟩:=YP (P:=P) w t o.type e' ei (wX b1) b1.cells by' h2 hei hz.2.2 hz.1 hz.2.1 (by
        have:=sH (DS (OL g w b1));simpa using this) v0 n xs hown ⟨b,off,none⟩ (List.length r) capr news (H6 hF) (fun j u hu=>by rw[aSD];exact hra j u hu) (OQ (fun _ _ h=>zV h) hF) (by omega)
        (by
         have:=Nat.mul_le_mul_left (n+List.length r) hb1;unfold maxLen;omega) hby
       refine qP.value (v:= .slice (some ⟨q,0,none⟩) (n+List.length r) cap) (w':=w') ?_ (rS.row (v:= .slice (some ⟨q,0,none⟩) (n+List.length r) cap) (xs:=xs++news) hH hlen2 hown' (OI hF0 hF) (fun m hm'=>hnone m (by omega)) (fun u hu=>by
        rw[hnone _ (by omega)] at hu;cases hu) (.inr ⟨v0.ownBlock,hg,fun b hb o=>hownk b hb o⟩) (fun b o hS=>hcell b o (hH.sl b o hS) (fun hb=>absurd hS (hseal b hb o))) (fun b hb o hS=> ?_) (fun b hb=> ?_) ⟨⟨by simp [Gh.tok],.inr ⟨q,cap,rfl,hcap⟩⟩,trivial⟩)
       ·rw[hx,hv,hvr];simp only[builtin,aRw,hrun,aRp,aRG]
       ·cases hb;rcases hq with h|h
        ·rw[h] at hS;exact aTa _ (hH.sl _ _ hS)
        ·exact hseal _ h o hS
       ·cases hb;rcases hq with h|h
        ·exact .inl (aSW h.symm)
        ·exact .inr (hownk _ h)
     ·cases hr
    ·cases hr
   ·cases hr
  ·cases hr
 ·rename_i u el by' ar ls_ a1 l k b1 r k2;split at hr
  ·rename_i hab;obtain⟨rfl,rfl⟩:=hab;simp only[tV] at hr;generalize hk:pT H k=ob at hr;unfold SA at hr;split at hr
   ·rename_i e' c n;split at hr
    ·rename_i hec;obtain⟨rfl,hcc,hpos,hb1⟩:=hec;cases hr;rw[aRh];have hln:=hs _ (by simp:(List.length l=n)∈_);have hby:=hs _ (by simp:((List.length l+List.length r)*by'<=140737488355328)∈_);obtain⟨v,vr,hv,hs1,hs2⟩:=T3 hT hH hρ hss;obtain⟨h2,h3,_⟩:=(sP hT hst).2;obtain⟨ei,hei,hz⟩:=aRx.1 h3;simp only[aRI] at hz;obtain⟨cs,hx⟩:=FB (a:=a) hT hH ho;obtain⟨v0,xs,hv0,hown,hnone,hseal⟩:=hH.blk k _ hk;have hcur:g.cur k (List.length l)=some v:=hs1.2;rw[hln,hv0] at hcur;obtain rfl:=aRl hcur;obtain⟨adr,capr,hvr,hler,hlr⟩:=CV hs2.1;obtain⟨adl,capl,hvl,hlel,hll⟩:=CV hs1.1;by_cases hm:List.length r=0
     ·
      obtain rfl:r=[]:=aRJ hm;have hlr:List.length l+List.length ([]:List b1.den)=n:=by rw[hln];rfl
      have hget: ∀i,pT (qG [(k,pQ.grow e' c (List.length l+List.length ([]:List b1.den)))] H) i=pT H i:=by
       intro i;simp only[qG,pT];by_cases hi:k=i
       ·subst hi;rw[if_pos rfl,hlr];exact hk.symm
       ·rw[if_neg hi]
      have hkeep:rS g w H ⟨[List.length l=n,(List.length l+List.length ([]:List b1.den))*by'<=140737488355328],(.val (.list b1) (l++[]),some k),[(k,.grow e' c (List.length l+List.length ([]:List b1.den)))],[k]⟩ g w v0:=by
       refine⟨.refl _ _,?_,⟨fun i b h=>hH.blk i b ((hget i).symm.trans h),fun i j bi bj b o' hij h1 h2=>hH.dis i j bi bj b o' hij ((hget i).symm.trans h1) ((hget j).symm.trans h2),hH.sl,hH.tab.1,fun i blk b o' h ho'=>hH.tab.2 i blk b o' ((hget i).symm.trans h) ho'⟩,.refl _ _ _,fun i blk b o' hi hg ho'=> .inr ⟨i,blk,hi,(hget i).symm.trans hg,ho'⟩,fun _ _=>⟨rfl,rfl⟩,fun i u' y us h=> .inl ⟨y,us,(hget i).symm.trans h⟩⟩;rw[List.append_nil];exact hs1
      refine qP.value (v:=v0) (w':=w) ?_ hkeep;rw[hx,hv,hvr,hvl];have ha0:(#[Value.slice adl (List.length l) capl,Value.slice adr (List.length ([]:List b1.den)) capr]:Array Value)[0]? =some (.slice adl (List.length l) capl):=rfl;have ha1:(#[Value.slice adl (List.length l) capl,Value.slice adr (List.length ([]:List b1.den)) capr]:Array Value)[1]? =some (.slice adr 0 capr):=rfl;have ht0:(#[t,t]:Array TypeId)[0]? =some t:=rfl;have ht1:(#[t,t]:Array TypeId)[1]? =some t:=rfl;simp only[builtin,Builtin.append_,ht0,ht1,ha0,ha1,aRw,aRA h2,aRp,aRG,sizeOf,typeInfo,aSp,hei];cases adr<;>cases adl<;>simp [Builtin.lenOf,Builtin.firstCells,loadCells,loadCellsFrom,storeCells,hlel]
     ·obtain⟨b,off,rfl,hL⟩: ∃b o,adr=some ⟨b,o,none⟩/\xX (Rd g w b1) w g.S b1.cells b o r:=by
       rcases hlr with rfl|h
       ·exact absurd rfl hm
       ·exact h
      obtain⟨news,hF,hra,_⟩:=LJ hL;have hxs:sS (Rd g w b1) b1.cells l xs:=by
       by_cases h0:List.length l=0
       ·obtain rfl:l=[]:=aRJ h0;have:xs=[]:=aRJ (by rw[hown.1,<-hln];simp);exact this
       ·rcases hll with rfl|⟨b0,off0,rfl,hL0⟩
        ·exact absurd rfl h0
        ·obtain⟨ls,hF0,hra0,_⟩:=LJ hL0;rcases hown.2 with⟨e1,e2⟩ |⟨q,cap,cur,e1,e2⟩
         ·exact absurd (hln.trans e2) h0
         ·rw[hvl] at e1;simp only[aTo,aRg,Addr.mk.injEq] at e1;obtain⟨⟨rfl,rfl,_⟩,_,rfl⟩:=e1;have hvn:v0= .slice (some ⟨b0,0,none⟩) n capl:=by rw[hvl,hln]
          have hrx:=YQ (hvn▸hown);have:ls=xs:=by
           have hl1:=H6 hF0;have hl2:=hown.1;apply List.ext_getElem?;intro j;by_cases hj:j<ls.length
           ·have h1:=hra0 j ls[j] (aRn hj);have hj':j<xs.length:=by rw[hl2,hcc,<-hln,<-hl1];exact hj
            have h2:=hrx j xs[j] (aRn hj');rw[h1] at h2;rw[aRn hj,aRn hj',aRl h2]
           ·rw[aSy (by omega),aSy (by rw[hl2,hcc,<-hln,<-hl1];omega)]
          rw[<-this];exact hF0
      obtain⟨q,cap,w',hrun,hown',hq,hg,hcap,hcell⟩:=YP (P:=P) w t o.type e' ei (wX b1) c by' h2 hei hz.2.2 (by rw[hz.1,hcc]) hz.2.1 (by
       have:=sH (DS (OL g w b1));rw[hcc];simpa using this) v0 n xs hown ⟨b,off,none⟩ (List.length r) capr news (by rw[H6 hF,hcc]) (fun j u hu=>by rw[aSD];exact hra j u hu) (OQ (fun _ _ h=>zV h) hF) (by omega)
       (by
        have:=Nat.mul_le_mul_left (List.length l+List.length r) hb1;unfold maxLen;omega) (by rw[<-hln];exact hby)
      refine qP.value (v:= .slice (some ⟨q,0,none⟩) (n+List.length r) cap) (w':=w') ?_ (by
       have:=rS.append (side:=[List.length l=n,(List.length l+List.length r)*by'<=140737488355328]) (rds:=[k]) hH hk hcc hln hv0 hown hnone hseal (hcc▸hxs) (hcc▸hF) (by omega) hown' hq hg hcap hcell;rw[hln];rw[hln] at this;exact this)
      rw[hx,hv,hvr];simp only[builtin,aRw,hrun,aRp,aRG]
    ·cases hr
   ·cases hr
  ·cases hr
 ·cases hr
end
def zD:Ty->TypeDesc
 | .int k=> .int k
 | .str=> .string
 |_=> .bool
theorem a9f {P:Program}{t:TypeId}{ti:TI}(h:sY P t ti) (hk:DO ti.ty=true):P.underlying t=some (zD ti.ty):=by
 have h2:=h.2;unfold xZ at h2;obtain⟨ty,el,by',ar,ls⟩:=ti;cases ty<;>simp only[DO,aSf] at hk<;>exact h2
theorem aIk {g:Gh}{w:World}{k:Ty}(hk:DO k=true) {a x:k.den}{v u:Value}(ha:sO g w k a v) (hx:sO g w k x u):Instr.sameNow (zD k) v u=some (F7 k a x)/\(F7 k a x=true->u=v):=by
 cases k with
 |int k=>
  rw[vL ha,vL hx];simp only[zD,Instr.sameNow,aSV,F7];refine⟨?_,fun h=> ?_⟩
  ·congr 1
  ·rw[aRZ h]
 |str=>
  rw[y9 ha,y9 hx];simp only[zD,Instr.sameNow,F7];refine⟨?_,fun h=> ?_⟩
  ·congr 1;rw[aSz,MapKept.bytes_beq,aRk];constructor
   ·intro h;have:=aRN (fun z:ByteArray=>z.data.toList) h;simpa using this
   ·intro h;rw[h]
  ·rw[aRZ h]
 |bool=>
  rw[wZ ha,wZ hx];simp only[zD,Instr.sameNow,F7];refine⟨trivial,fun h=> ?_⟩;rw[aS0.1 h]
 |_=>simp [DO] at hk
theorem YY {g:Gh}{w:World}{k v:Ty}(hk:DO k=true) {a:k.den}{key:Value}(ha:sO g w k a key): ∀{l:List (k.den×v.den)}{es:List MapEntry}(i:Nat),CQ g w k v l es->
  (DP k v l a=false->Instr.findNow (zD k) key es i=some none/\sV k v l a=v.zero/\∀b val born,sO g w v b val->CQ g w k v (v7 k v a b l) (es++[⟨key,val,born⟩]))/\
  (DP k v l a=true->∃j e,es[j]? =some e/\Instr.findNow (zD k) key es i=some (some (i+j,e.val))/\sO g w v (sV k v l a) e.val/\e.key=key/\∀b val,sO g w v b val->CQ g w k v (v7 k v a b l) (es.modify j fun e=>{e with key:=key,val:=val}))
 |[],es,i,h=>by
  rw[show es=[] from h];exact⟨fun _=>⟨rfl,rfl,fun b val born hb=>⟨_,[],rfl,ha,hb,rfl⟩⟩,fun h=>by simp [DP] at h⟩
 |(x,y)::l,_,i,⟨e,es',rfl,h1,h2,h3⟩=>by
  obtain⟨s1,s2⟩:=aIk hk ha h1;cases hq:F7 k a x with
  |true=>
   rw[hq] at s1;refine⟨fun h=>by simp [DP,hq] at h,fun _=>⟨0,e,rfl,?_,?_,s2 hq,fun b val hb=> ?_⟩⟩
   ·simp only[Instr.findNow,s1,aSG]
   ·simp only[sV,hq,aSV];exact h2
   ·simp only[v7,hq,aSV];exact⟨_,es',rfl,ha,hb,h3⟩
  |false=>
   rw[hq] at s1;obtain⟨f1,f2⟩:=YY (v:=v) hk ha (i+1) h3;refine⟨fun h=> ?_,fun h=> ?_⟩
   ·simp only[DP,hq] at h;obtain⟨g1,g2,g3⟩:=f1 (by simpa using h);refine⟨by simp only[Instr.findNow,s1];exact g1,by simp only[sV,hq];simpa using g2,fun b val born hb=> ?_⟩;simp only[v7,hq];exact⟨e,_,rfl,h1,h2,g3 b val born hb⟩
   ·simp only[DP,hq] at h;obtain⟨j,e',g1,g2,g3,g4,g5⟩:=f2 (by simpa using h);refine⟨j+1,e',by simpa using g1,by simp only[Instr.findNow,s1];rw[g2];congr 3;omega,by simp only[sV,hq];simpa using g3,g4,fun b val hb=> ?_⟩;simp only[v7,hq];exact⟨e,_,rfl,h1,h2,g5 b val hb⟩
def T5 (ok:Bool) (z:Value):Option (Nat×Value)->Value
 |some (_,v)=>if ok then .tuple #[v,.bool true] else v
 |none=>if ok then .tuple #[z,.bool false] else z
section
variable {P:Program}{o:Oper}{a:Act}{g:Gh}{w:World}{H:rO}{T:sG}(hT:wY P T) (hH:rZ g w H)
include hT hH
theorem rS.newMap {side:List Prop}{rds:List Nat}{base:Nat}{k v:Ty}(hf:g.J base=none) (hc:g.cur base=fun _=>none):
  rS g w H ⟨side,(.val .mp (some base),none),[(base,.map k v [])],rds⟩ (g.var base w.heap.size none) (w.alloc (.map #[] 0)) (.map (some w.heap.size)):=by
 have hJ:(g.var base w.heap.size none).J base=some ⟨w.heap.size,0,none⟩:=by simp [Gh.var]
 have le:Le g w (g.var base w.heap.size none) (w.alloc (.map #[] 0)):=⟨fun _ _ h=>h,fun b o h=>aRF (a:=⟨b,o,none⟩) (aRL _ _ _ (hH.sl b o h)),fun i p h=>by
  show (if i=base then _ else _)=_;rw[if_neg (fun e1=>by rw[e1,hf] at h;cases h)];exact h,fun _ _ _ h=>h⟩
 have fr:Fr (sJ g H (pU [(base,pQ.map k v [])])) w (w.alloc (.map #[] 0)) g.S (g.var base w.heap.size none).S:=
  ⟨rfl,rfl,rfl,by simp,fun b hb _=>aRL _ _ _ hb,fun b o hb _=>⟨aRF (a:=⟨b,o,none⟩) (aRL _ _ _ hb),aSj (a:=⟨b,o,none⟩) (aRL _ _ _ hb)⟩,fun b o h=> .inl h,fun b s h=> .inl ((CT (aRL _ _ _ (CS h))).trans h)⟩
 have gho: ∀i,i∉pU [(base,pQ.map k v [])]->(g.var base w.heap.size none).J i=g.J i/\(g.var base w.heap.size none).cur i=g.cur i:=fun i hi=>⟨by
  show (if i=base then _ else _)=_;rw[if_neg (fun e1=>hi (by simp [pU,e1]))],rfl⟩
 have get: ∀i blk,i∈pU [(base,pQ.map k v [])]->pT (qG [(base,pQ.map k v [])] H) i=some blk->i=base/\blk= .map k v []:=by
  intro i blk hi hg;simp only[pU,aRr] at hi;subst hi;simp only[qG,pT,aSV,aRg] at hg;exact⟨rfl,hg.symm⟩
 have perm: ∀i blk b o,i∈pU [(base,pQ.map k v [])]->pT (qG [(base,pQ.map k v [])] H) i=some blk->rP (g.var base w.heap.size none) i blk b o->w.heap.size<=b\/sJ g H (pU [(base,pQ.map k v [])]) b o:=by
  intro i blk b o hi hg ho;obtain⟨rfl,rfl⟩:=get i blk hi hg;obtain⟨p,hp,h1⟩:=ho;rw[hJ] at hp;obtain rfl:=aRl hp;exact .inl (aSW h1.symm)
 refine⟨le,⟨.inr ⟨rfl,_,hJ,rfl⟩,trivial⟩,hH.upd le fr perm gho (fun i blk hi hg=> ?_) (fun i j bi bj b o hi hj hij hgi hgj _ _=>hij ((get i bi hi hgi).1.trans (get j bj hj hgj).1.symm)) (fun b o h=>aRX (hH.sl b o h) (by simp)),fr,perm,gho,fun i u' y us h=>by
  simp only[qG,pT] at h;split at h
  ·cases h
  ·exact .inl ⟨y,us,h⟩⟩
 obtain⟨rfl,rfl⟩:=get i blk hi hg;refine⟨⟨w.heap.size,0,none⟩,#[],0,hJ,rfl,?_,rfl,fun o hs=>aTa _ (hH.sl _ _ hs)⟩;show (w.heap.push (.map #[] 0))[w.heap.size]? =_;rw[aTl]
theorem aIl {t:TypeId}{r:Option Operand}(ho:o.op= .makeMap t r) {base:Nat}{e:pY}(hr:XY T base (rF T t) r=some e) (hf:zC g base e):qP P o a g w H e:=by
 generalize hst:rF T t=ot at hr;unfold XY at hr;split at hr
 ·rename_i el fl ar ls_;unfold a8q at hr;split at hr
  ·split at hr
   ·cases hr;have hfr:=hf base (by simp [pU]) (Nat.le_refl _);refine qP.value (v:= .map (some w.heap.size)) (w':=w.alloc (.map #[] 0)) ?_ (rS.newMap hT hH hfr.1 (funext hfr.2));unfold execOp;rw[ho];simp only[Instr.makeMap,aRw,run_newObj,aRp,aRG,Option.map_none];rfl
   ·cases hr
  ·cases hr
 ·cases hr
theorem aIm {xt el fl:TypeId}{ok:Bool}{r:Nat}{es:Array MapEntry}{cl:Nat}{key z res:Value}{kd:TypeDesc}(hm:P.underlying xt=some (.map el fl)) (hb:w.heap[r]? =some (.map es cl)) (hkd:P.underlying el=some kd) (hsim: ∀ty,kd≠.interface ty) (hna: ∀n t,kd≠.array n t) (hns: ∀f,kd≠.struct f)
  {q:Option (Nat×Value)}(hq:Instr.findNow kd key es.toList 0=some q) (hz:(zeroValue fl).run P w= .ok z w)
  (hres:res=T5 ok z q):(Instr.lookup xt (.map (some r)) key ok).run P w= .ok res w:=by
 have hck: ∀em,(Instr.checkKey em 10000 el key).run P w= .ok () w:=by
  intro em;unfold Instr.checkKey;simp only[aRw,aRA hkd,aRp];cases kd<;>first|rfl|(exact absurd rfl (hsim _)) |(exact absurd rfl (hna _ _)) |(exact absurd rfl (hns _))
 have hfk:(Instr.findKey el key es.toList).run P w= .ok q w:=by
  unfold Instr.findKey;simp only[aRw,aRA hkd,aRp,hq,aRG]
 subst hres;unfold Instr.lookup;simp only[aRw,aRA hm,aRp,MapKept.run_getObj_map hb,aRG,hck,hfk];cases q with
 |none=>cases ok<;>simp [hz,aRw,aRp,T5]
 |some q=>cases ok<;>simp [aRw,aRp,T5]
theorem rS.updMap {side:List Prop}{rds:List Nat}{i:Nat}{k v:Ty}{l l':List (k.den×v.den)}{p:Pl}{es es':Array MapEntry}{cl cl':Nat}(hi:pT H i=some (.map k v l)) (hp:g.J i=some p) (hp0:p.2=0) (hb:w.heap[p.1]? =some (.map es cl)) (hS: ∀o,¬g.S p.1 o) (hM:CQ g w k v l' es'.toList):
  rS g w H ⟨side,(.any,none),[(i,.map k v l')],rds⟩ g {w with heap:=w.heap.setIfInBounds p.1 (.map es' cl')} undef:=by
 have hlt:p.1<w.heap.size:=(aRE.1 hb).1;have hoth: ∀b,b≠p.1->(w.heap.setIfInBounds p.1 (.map es' cl'))[b]? =w.heap[b]? :=fun b hne=>by rw[aSK (Ne.symm hne)]
 have hown: ∀o,sJ g H (pU [(i,pQ.map k v l')]) p.1 o:=fun o=>⟨i,_,by simp [pU],hi,p,hp,rfl⟩;have le:Le g w g {w with heap:=w.heap.setIfInBounds p.1 (.map es' cl')}:=⟨fun _ _ h=>h,fun b o h=>aRF (a:=⟨b,o,none⟩) (hoth b (fun e=>hS o (e▸h))),fun _ _ h=>h,fun _ _ _ h=>h⟩
 have fr:Fr (sJ g H (pU [(i,pQ.map k v l')])) w {w with heap:=w.heap.setIfInBounds p.1 (.map es' cl')} g.S g.S:=
  ⟨rfl,rfl,rfl,by simp,fun b _ hn=>hoth b (fun e=>hn 0 (e▸hown 0)),fun b o _ hn=>⟨aRF (a:=⟨b,o,none⟩) (hoth b (fun e=>hn (e▸hown o))),aSj (a:=⟨b,o,none⟩) (hoth b (fun e=>hn (e▸hown o)))⟩,fun b o h=> .inl h,fun b s h=>(by
   by_cases e:b=p.1
   ·exact .inr fun o=>e▸hown o
   ·exact .inl ((CT (hoth b e)).trans h))⟩
 have get: ∀j blk,j∈pU [(i,pQ.map k v l')]->pT (qG [(i,pQ.map k v l')] H) j=some blk->j=i/\blk= .map k v l':=by
  intro j blk hj hg;simp only[pU,aRr] at hj;subst hj;simp only[qG,pT,aSV,aRg] at hg;exact⟨rfl,hg.symm⟩
 have perm: ∀j blk b o,j∈pU [(i,pQ.map k v l')]->pT (qG [(i,pQ.map k v l')] H) j=some blk->rP g j blk b o->w.heap.size<=b\/sJ g H (pU [(i,pQ.map k v l')]) b o:=by
  intro j blk b o hj hg ho;obtain⟨rfl,rfl⟩:=get j blk hj hg;obtain⟨q,hq,rfl⟩:=ho;rw[hp] at hq;obtain rfl:=aRl hq;exact .inr (hown o)
 refine⟨le,⟨trivial,trivial⟩,hH.upd le fr perm (fun _ _=>⟨rfl,rfl⟩) (fun j blk hj hg=> ?_) (fun j j' bi bj b o hj hj' hij hgi hgj _ _=>hij ((get j bi hj hgi).1.trans (get j' bj hj' hgj).1.symm)) (fun b o h=>by simpa using hH.sl b o h),fr,perm,fun _ _=>⟨rfl,rfl⟩,fun j u' y us h=>by
  simp only[qG,pT] at h;split at h
  ·cases h
  ·exact .inl ⟨y,us,h⟩⟩
 obtain⟨rfl,rfl⟩:=get j blk hj hg;exact⟨p,es',cl',hp,hp0,by simp [aS7,hlt],Y9 le hM,hS⟩
theorem a9g {i:Nat}{k:Option Nat}{v:Value}(h:qV g w (.val .mp (some i),k) v): ∃p,g.J i=some p/\v= .map (some p.1):=by
 obtain⟨p,h1,e⟩:=AD rfl h.1;simp only[aR7,and_true] at e;exact⟨p,h1,e⟩
theorem a9h {k:Ty}:(∀ty,zD k≠.interface ty)/\(∀n t,zD k≠.array n t)/\(∀f,zD k≠.struct f):=by
 cases k<;>exact⟨fun _ h=>by simp [zD] at h,fun _ _ h=>by simp [zD] at h,fun _ h=>by simp [zD] at h⟩
theorem aIn {t:TypeId}{x y:Operand}{ok:Bool}(ho:o.op= .lookup t x y ok) {sx sy:pR}(hx:qV g w sx (a.eval x)) (hy:qV g w sy (a.eval y)) {e:pY}(hr:SK T H ok (rF T t) sx sy=some e):qP P o a g w H e:=by
 generalize hst:rF T t=ot at hr;unfold SK at hr;split at hr
 ·rename_i el fl ar ls_ i kk;generalize hk:rF T el=ok1 at hr;generalize hv:rF T fl=ok2 at hr;unfold XZ at hr;split at hr
  ·rename_i kt vt k a' _;split at hr
   ·rename_i hkt;unfold SJ at hr;split at hr
    ·rename_i k' v' l hb;split at hr
     ·rename_i hkv;obtain⟨rfl,rfl⟩:=hkv;split at hr
      ·rename_i hkey;obtain⟨p,es,cl,hp,hp0,hh,hM,hS⟩:=hH.blk i _ hb;obtain⟨p',hp',hxv⟩:=a9g hT hH hx;rw[hp] at hp';obtain rfl:=aRl hp';have hm:=(sP hT hst).2;simp only[xZ] at hm;have hkd:=a9f (sP hT hk) (hkt▸hkey);obtain⟨iv,hi1,hi2,hi3⟩:=DU (sP hT hv);have hz:(zeroValue fl).run P w= .ok (wX vt.ty) w:=by
        simp only[zeroValue,typeInfo,aRw,aSp,hi1,hi3,aRp,aRG]
       obtain⟨f1,f2⟩:=YY (v:=vt.ty) hkey hy.1 0 hM;rw[<-hkt] at hkd;obtain⟨p1,p2,p3⟩:=a9h hT hH (k:=k);have go: ∀{q res},Instr.findNow (zD k) (a.eval y) es.toList 0=some q->res=T5 ok (wX vt.ty) q->(execOp a.eval o).run P w= .ok (.value res) w:=by
        intro q res h1 h2;unfold execOp;rw[ho];simp only[hxv,aRw,aIm hT hH hm hh hkd p1 p2 p3 h1 hz h2,aRp,aRG]
       cases hmh:DP k vt.ty l a' with
       |false=>
        obtain⟨g1,g2,_⟩:=f1 hmh;cases ok with
        |true=>
         cases hr;refine qP.pure hH (v:= .tuple #[wX vt.ty,.bool false]) (go g1 rfl) ?_;simp only[KV,hmh,g2];exact⟨[_,_],rfl,_,[_],rfl,OL g w _,trivial,_,[],rfl,w9 g w false,trivial,rfl⟩
        |false=>
         cases hr;refine qP.pure hH (v:=wX vt.ty) (go g1 rfl) ?_;simp only[KV,g2];exact OL g w _
       |true=>
        obtain⟨j,e',g1,g2,g3,g4,g5⟩:=f2 hmh;cases ok with
        |true=>
         cases hr;refine qP.pure hH (v:= .tuple #[e'.val,.bool true]) (go g2 rfl) ?_;simp only[KV,hmh];exact⟨[_,_],rfl,_,[_],rfl,g3,trivial,_,[],rfl,w9 g w true,trivial,rfl⟩
        |false=>
         cases hr;refine qP.pure hH (v:=e'.val) (go g2 rfl) ?_;simp only[KV];exact g3
      ·cases hr
     ·cases hr
    ·cases hr
   ·cases hr
  ·cases hr
 ·cases hr
theorem aIo {g:Gh}{w:World}{k:Ty}(hk:DO k=true) {x:k.den}{v:Value}(h:sO g w k x v) (n:Nat):Instr.sameBits n v v=true:=by
 cases k with
 |int k=>rw[vL h];cases n<;>simp [Instr.sameBits]
 |str=>rw[y9 h];cases n<;>simp [Instr.sameBits,MapKept.bytes_beq]
 |bool=>rw[wZ h];cases n<;>simp [Instr.sameBits]
 |_=>simp [DO] at hk
omit hT hH in
theorem a9i {T:sG}{ti:Option TI}{s:pR}{v:Value}(h:qV g w s v):qV g w (SM T ti s) v:=by
 unfold SM;split
 ·unfold a8r;split
  ·rename_i f x _;refine⟨.inr ⟨rfl,?_⟩,trivial⟩;rcases h.1 with⟨h1,_⟩ |⟨h1,vs,h2,h3⟩
   ·cases h1
   ·rw[show vs=[] from h2] at h3;exact h3
  ·exact h
 ·exact h
theorem a9j {t:TypeId}{m x y:Operand}(ho:o.op= .mapUpdate t m x y\/o.op= .insert t m x y) {sm sx sy:pR}(hm:qV g w sm (a.eval m)) (hx:qV g w sx (a.eval x)) (hy:qV g w sy (a.eval y)) {e:pY}(hr:L7 T H (rF T t) sm sx sy=some e):qP P o a g w H e:=by
 generalize hst:rF T t=ot at hr;unfold L7 at hr;split at hr
 ·rename_i el fl ar ls_ i kk;generalize hk:rF T el=ok1 at hr;unfold SL at hr;split at hr
  ·rename_i kt k a' _ u b _;split at hr
   ·rename_i hkt;unfold L6 at hr;split at hr
    ·rename_i k' v' l hb;split at hr
     ·rename_i hkv;obtain⟨rfl,rfl⟩:=hkv;split at hr
      ·rename_i hkey;cases hr;obtain⟨p,es,cl,hp,hp0,hh,hM,hS⟩:=hH.blk i _ hb;obtain⟨p',hp',hxv⟩:=a9g hT hH hm;rw[hp] at hp';obtain rfl:=aRl hp';have hmt:=(sP hT hst).2;simp only[xZ] at hmt;have hkd:=a9f (sP hT hk) (hkt▸hkey);rw[<-hkt] at hkd;obtain⟨p1,p2,p3⟩:=a9h hT hH (k:=k);have hck:(Instr.checkKey false 10000 el (a.eval x)).run P w= .ok () w:=by
        unfold Instr.checkKey;simp only[aRw,aRA hkd,aRp];generalize zD k=kd at p1 p2 p3;cases kd<;>first|rfl|(exact absurd rfl (p1 _)) |(exact absurd rfl (p2 _ _)) |(exact absurd rfl (p3 _))
       have hfk: ∀{q},Instr.findNow (zD k) (a.eval x) es.toList 0=some q->(Instr.findKey el (a.eval x) es.toList).run P w= .ok q w:=by
        intro q hq;unfold Instr.findKey;simp only[aRw,aRA hkd,aRp,hq,aRG]
       obtain⟨f1,f2⟩:=YY (v:=u) hkey hx.1 0 hM;cases hmh:DP k u l a' with
       |false=>
        obtain⟨g1,_,g3⟩:=f1 hmh;refine qP.skip (w':={w with heap:=w.heap.setIfInBounds p.1 (.map (es.push ⟨a.eval x,a.eval y,cl⟩) (cl+1))}) ?_ (rS.updMap hT hH hb hp hp0 hh hS ?_)
        ·unfold execOp;rcases ho with ho|ho<;>rw[ho]<;>
          simp only[Instr.mapUpdate,hxv,aRw,aRA hmt,aRp,MapKept.run_getObj_map hh,hck,hfk g1,MapKept.run_setObj_map _ hh,aRG]
        ·simp only[KV,Array.toList_push];exact g3 b _ _ hy.1
       |true=>
        obtain⟨j,e',g1,g2,g3,g4,g5⟩:=f2 hmh;rw[aRR] at g2;refine qP.skip (w':={w with heap:=w.heap.setIfInBounds p.1 (.map (es.modify j fun e=>{e with key:=a.eval x,val:=a.eval y}) cl)}) ?_ (rS.updMap hT hH hb hp hp0 hh hS ?_)
        ·have hj:es[j]? =some e':=by rw[<-aSt];exact g1
         unfold execOp;rcases ho with ho|ho<;>rw[ho]<;>
          simp only[Instr.mapUpdate,hxv,aRw,aRA hmt,aRp,MapKept.run_getObj_map hh,hck,hfk g2,hj,Option.map_some,aSO,g4,Instr.keyThatStays,aIo hT hH hkey hx.1,aSV,MapKept.run_setObj_map _ hh,aRG]
        ·simp only[KV,Array.toList_modify];exact g5 b _ hy.1
      ·cases hr
     ·cases hr
    ·cases hr
   ·cases hr
  ·cases hr
 ·cases hr
end
end Go.Proofs.YtbbpilohihldiaaGreatDoor.Vc
