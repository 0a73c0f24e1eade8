/- Packed by a program of mine (wip/tools/pack.py): the same texts with short names and few blanks. -/
import Derived.Below
import Derived.Calls
import Derived.Deep.MidRow
import Derived.Deep.Upon
import Derived.Laws.AppendOwn
import Derived.Laws.BitsLemmas
import Derived.Laws.OwnMore
import Derived.MapKept
import Derived.Shelf.Unicode.DecodeSlow
import Derived.Still
import Derived.WalkKit
set_option linter.unusedVariables false
set_option linter.unusedSimpArgs false
set_option linter.unusedSectionVars false
set_option maxRecDepth 100000
set_option maxHeartbeats 4000000
set_option linter.defProp false
namespace Go.Proofs
def aMH:=@_root_.Option.bind_some
def aMI:=@_root_.if_pos
def aMJ:=@_root_.Option.some.injEq
def aMK:=@_root_.if_neg
def aML:=@_root_.Option.some.inj
def aMM:=@_root_.Option.isSome_iff_exists
def aMN:=@_root_.List.length_append
def aMO:=@_root_.List.length_cons
def aMP:=@_root_.List.length_drop
def aMQ:=@_root_.decide_eq_true_eq
def aMR:=@_root_.List.getElem?_eq_getElem
def aMS:=@_root_.Bool.and_eq_true
def aMT:=@_root_.Go.Result.andThen_ok
def aMU:=@_root_.List.append_assoc
def aMV:=@_root_.List.getElem?_append_right
def aMW:=@_root_.List.mem_singleton
def aMX:=@_root_.List.getElem?_eq_some_iff
def aMY:=@_root_.Go.Sem.run_bind
def aMZ:=@_root_.Option.map_eq_some_iff
def aM0:=@_root_.List.getElem?_append_left
def aM1:=@_root_.List.mem_cons
def aM2:=@_root_.Nat.le_refl
def aM3:=@_root_.Go.run_underlying
def aM4:=@_root_.List.mem_cons_of_mem
def aM5:=@_root_.List.length_take
def aM6:=@_root_.Go.Sem.run_pure
def aM7:=@_root_.Go.World.cell?_of_block
def aM8:=@_root_.List.drop_eq_getElem_cons
def aM9:=@_root_.Prod.mk.injEq
def aNa:=@_root_.List.getD_eq_getElem?_getD
def aNb:=@_root_.List.eq_nil_of_length_eq_zero
def aNc:=@_root_.Array.getElem?_eq_some_iff
def aNd:=@_root_.Nat.zero_add
def aNe:=@_root_.List.getElem?_cons_zero
def aNf:=@_root_.List.mem_cons_self
def aNg:=@_root_.Go.RowKit.Below.heap_alloc
def aNh:=@_root_.Bool.not_eq_true'
def aNi:=@_root_.Array.length_toList
def aNj:=@_root_.Array.getD_eq_getD_getElem?
def aNk:=@_root_.List.getElem?_cons_succ
def aNl:=@_root_.List.findIdx?_eq_some_iff_getElem
def aNm:=@_root_.Nat.lt_of_lt_of_le
def aNn:=@_root_.Nat.add_assoc
def aNo:=@_root_.List.drop_drop
def aNp:=@_root_.Int.toNat_natCast
def aNq:=@_root_.of_decide_eq_true
def aNr:=@_root_.decide_eq_false_iff_not
def aNs:=@_root_.congrArg
def aNt:=@_root_.Nat.zero_le
def aNu:=@_root_.List.drop_length
def aNv:=@_root_.Nat.add_sub_cancel_left
def aNw:=@_root_.List.length_nil
def aNx:=@_root_.List.reverse_cons
def aNy:=@_root_.Int.le_refl
def aNz:=@_root_.Bool.or_eq_true
def aNA:=@_root_.List.size_toArray
def aNB:=@_root_.List.cons.injEq
def aNC:=@_root_.Nat.le_trans
def aND:=@_root_.List.findIdx?_cons
def aNE:=@_root_.List.mem_append
def aNF:=@_root_.Go.World.frozen?_of_block
def aNG:=@_root_.List.any_eq_false
def aNH:=@_root_.Go.IntKind.wrap_i64
def aNI:=@_root_.List.length_singleton
def aNJ:=@_root_.Go.run_program
def aNK:=@_root_.decide_eq_true
def aNL:=@_root_.List.take_append_of_le_length
def aNM:=@_root_.Bool.eq_iff_iff
def aNN:=@_root_.Nat.add_zero
def aNO:=@_root_.List.take_append_drop
def aNP:=@_root_.List.getElem?_eq_none
def aNQ:=@_root_.Array.getElem?_toList
def aNR:=@_root_.List.getElem_mem
def aNS:=@_root_.Array.toList_inj
def aNT:=@_root_.List.map_cons
def aNU:=@_root_.Nat.succ_mul
def aNV:=@_root_.Nat.lt_or_ge
def aNW:=@_root_.Go.Addr.add_mid
def aNX:=@_root_.List.pairwise_iff_getElem
def aNY:=@_root_.List.drop_zero
def aNZ:=@_root_.Bool.not_eq_true
def aN0:=@_root_.Go.IntKind.wrap_u8
def aN1:=@_root_.Option.getD_some
def aN2:=@_root_.List.length_eq_one_iff
def aN3:=@_root_.List.flatten_cons
def aN4:=@_root_.Array.getElem?_setIfInBounds_ne
def aN5:=@_root_.Nat.le_of_ble_eq_true
def aN6:=@_root_.List.singleton_append
def aN7:=@_root_.List.length_map
def aN8:=@_root_.Array.getElem?_modify
def aN9:=@_root_.Bool.false_eq_true
def aOa:=@_root_.List.all_eq_true
def aOb:=@_root_.Bool.or_eq_false_iff
def aOc:=@_root_.Array.toArray_toList
def aOd:=@_root_.Go.World.cell?_setCells_in
def aOe:=@_root_.List.length_eq_zero_iff
def aOf:=@_root_.Go.setRow_other
def aOg:=@_root_.List.take_left
def aOh:=@_root_.Nat.le_of_eq
def aOi:=@_root_.Classical.choose_spec
def aOj:=@_root_.List.pairwise_append
def aOk:=@_root_.if_true
def aOl:=@_root_.List.pairwise_singleton
def aOm:=@_root_.List.length_pos_iff
def aOn:=@_root_.Go.wpIn_mono
def aOo:=@_root_.List.not_mem_nil
def aOp:=@_root_.List.mem_range
def aOq:=@_root_.dif_neg
def aOr:=@_root_.List.pairwise_cons
def aOs:=@_root_.List.getElem?_take
def aOt:=@_root_.Bool.not_eq_false'
def aOu:=@_root_.Array.getElem?_setIfInBounds
def aOv:=@_root_.Bool.and_eq_false_iff
def aOw:=@_root_.Go.Addr.add_lit
def aOx:=@_root_.Nat.lt_irrefl
def aOy:=@_root_.Int.tmod_eq_emod_of_nonneg
def aOz:=@_root_.List.findIdx?_eq_none_iff
def aOA:=@_root_.Bool.false_and
def aOB:=@_root_.Array.getElem?_eq_getElem
def aOC:=@_root_.List.mem_toArray
def aOD:=@_root_.Go.setRow_heap
def aOE:=@_root_.List.getElem_of_mem
def aOF:=@_root_.List.drop_succ_cons
def aOG:=@_root_.Nat.sub_self
def aOH:=@_root_.List.getElem?_take_of_lt
def aOI:=@_root_.Array.getElem?_push_size
def aOJ:=@_root_.List.append_inj
def aOK:=@_root_.Bool.false_ne_true
def aOL:=@_root_.Array.foldl_toList
def aOM:=@_root_.Go.Value.slice.injEq
def aON:=@_root_.Nat.mul_one
def aOO:=@_root_.Array.size_append
def aOP:=@_root_.Go.heap_alloc_new
def aOQ:=@_root_.Go.World.cell?_alloc_new
def aOR:=@_root_.dif_pos
def aOS:=@_root_.if_false
def aOT:=@_root_.List.drop_left
end Go.Proofs
namespace Go.Proofs.YtbbpilohihldiaaGreatDoor.Vc
def NG:Nat:=3
def a5d:Nat:=84
def aDy:List (Nat×Nat×Value):=[]
def aDz (w:World):Prop:= ∀x∈aDy,x.1<NG/\w.cell? ⟨x.1,x.2.1,none⟩=some x.2.2
def H6 (w:World):Prop:=NG<=w.heap.size/\Lib.Utf8Tabs 1 2 w/\(∃m,w.cell? ⟨0,0,none⟩=some (.int .i64 m))/\aDz w
theorem LP {w w':World}(h:H6 w) (hs:w.heap.size<=w'.heap.size) (hb: ∀b,b<NG->w'.heap[b]? =w.heap[b]?):H6 w':=by
 obtain⟨h0,⟨h1,h2⟩,⟨m,h3⟩,h4⟩:=h;have hc: ∀b o,b<NG->w'.cell? ⟨b,o,none⟩=w.cell? ⟨b,o,none⟩:=fun b o h=>aM7 (a:=⟨b,o,none⟩) (hb b h);refine⟨aNC h0 hs,⟨fun c hc'=> ?_,fun i hi=>⟨?_,?_⟩⟩,⟨m,?_⟩,fun x hx=>⟨(h4 x hx).1,(hc _ _ (h4 x hx).1).trans (h4 x hx).2⟩⟩
 ·rw[hc _ _ (by decide)];exact h1 c hc'
 ·rw[hc _ _ (by decide)];exact(h2 i hi).1
 ·rw[hc _ _ (by decide)];exact(h2 i hi).2
 ·rw[hc _ _ (by decide)];exact h3
attribute [go_sem] a5d
inductive Ty where
 |bool|int (k:IntKind) |str|list (t:Ty) |unit|pair (a b:Ty) |ref|clo|mp|rl (e:Nat) (t:Ty) |mref|fn
 deriving DecidableEq
abbrev Ty.den:Ty->Type
 | .bool=>Bool
 | .int _=>Int
 | .str=>List UInt8
 | .list t=>List t.den
 | .unit=>Unit
 | .pair a b=>a.den×b.den
 | .ref=>Option (Nat×Nat)
 | .clo=>Option (Nat×List (Nat×Nat))
 | .mp=>Option Nat
 | .rl _ _=>Option (Nat×Nat)
 | .fn=>Option Nat
 | .mref=>Option (Nat×Nat)
@[go_sem] def Ty.cells:Ty->Nat
 | .unit=>0
 | .pair a b=>a.cells+b.cells
 | .bool| .int _| .str| .list _| .ref| .clo| .mp| .rl _ _| .mref| .fn=>1
@[go_sem] def Ty.zero:(t:Ty)->t.den
 | .bool=>false
 | .int _=>(0:Int)
 | .str=>[]
 | .list _=>[]
 | .unit=>()
 | .pair a b=>(a.zero,b.zero)
 | .ref=>none
 | .clo=>none
 | .mp=>none
 | .rl _ _=>none
 | .fn=>none
 | .mref=>none
@[go_sem] def Ty.isRow:Ty->Bool
 | .unit| .pair _ _=>true
 | .bool| .int _| .str| .list _| .ref| .clo| .mp| .rl _ _| .mref| .fn=>false
@[go_sem] def Ty.pure:Ty->Bool
 | .ref| .clo| .mp| .rl _ _| .mref=>false
 | .list t=>t.pure
 | .pair a b=>a.pure&&b.pure
 | .bool| .int _| .str| .unit| .fn=>true
def qG (t:Ty) (l:List t.den) (i:Int):t.den:=l.getD i.toNat t.zero
def pI (l:List UInt8) (i:Int):Int:=((l.getD i.toNat 0).toNat:Int)
def sY {t u:Ty}(h:t=u) (x:t.den):u.den:=h▸x
@[go_sem] theorem J2 {t:Ty}(x:t.den):sY (rfl:t=t) x=x:=rfl
@[go_sem] def pO (u:Ty):(t:Ty)->t.den->Nat->Option u.den
 |t,x,0=>if h:t=u then some (sY h x) else match t,x with
  | .pair a b,x=>if 0<a.cells then pO u a x.1 0 else pO u b x.2 0
  |_,_=>none
 | .pair a b,x,o+1=>if o+1<a.cells then pO u a x.1 (o+1) else pO u b x.2 (o+1-a.cells)
 |_,_,_=>none
@[go_sem] def rN (u:Ty) (y:u.den):(t:Ty)->t.den->Nat->Option t.den
 |t,x,0=>if h:u=t then some (sY h y) else match t,x with
  | .pair a b,x=>if 0<a.cells then(rN u y a x.1 0).map (fun z=>(z,x.2)) else(rN u y b x.2 0).map (fun z=>(x.1,z))
  |_,_=>none
 | .pair a b,x,o+1=>if o+1<a.cells then(rN u y a x.1 (o+1)).map (fun z=>(z,x.2)) else(rN u y b x.2 (o+1-a.cells)).map (fun z=>(x.1,z))
 |_,_,_=>none
@[go_sem] def Ty.proj:(t:Ty)->t.den->Nat->Option (Σ u:Ty,u.den)
 | .pair a _,x,0=>some ⟨a,x.1⟩
 | .pair _ b,x,i+1=>b.proj x.2 i
 |_,_,_=>none
@[go_sem] def Ty.offs:Ty->Nat->Option Nat
 | .pair _ _,0=>some 0
 | .pair a b,i+1=>(b.offs i).map fun o=>a.cells+o
 |_,_=>none
@[go_sem] def Ty.fld:Ty->Nat->Option Ty
 | .pair a _,0=>some a
 | .pair _ b,i+1=>b.fld i
 |_,_=>none
@[go_sem] def Ty.setPart (u:Ty) (y:u.den):(t:Ty)->t.den->Nat->Option t.den
 | .pair a b,x,0=>if h:u=a then some (sY h y,x.2) else none
 | .pair a b,x,i+1=>(Ty.setPart u y b x.2 i).map fun z=>(x.1,z)
 |_,_,_=>none
inductive DV where
 |any
 |nilS
 |val (t:Ty) (x:t.den)
 |at (t:Ty) (x:t.den)
 |tup (l:List ((Σ t:Ty,t.den)×Option Nat))
 |cond (p:Bool) (d:DV)
 |flag (p q:Prop)
 |own (k n:Nat)
 |elt (k n c:Nat) (i:Int) (o:Nat)
 |nxt (b:Bool) (p c:Int)
abbrev oZ:=DV×Option Nat
inductive oX where
 |cells (t:Ty) (x:t.den) (toks:List (Nat×Nat))
 |grow (e:TypeId) (c:Nat) (n:Nat)
 |row (e:TypeId) (t:Ty) (l:List t.den) (n:Nat)
 |map (k v:Ty) (l:List (k.den×v.den))
 |iter (s:List UInt8) (p:Nat)
 |dead
structure St where
 env:List (Nat×oZ)
 H:List (Nat×oX)
 nb:Nat
 N:Nat
 np:Nat:=0
@[go_sem] def lk:List (Nat×oZ)->Nat->oZ
 |[],_=>(.any,none)
 |(k,s)::r,t=>if k=t then s else lk r t
@[go_sem] def p9:List (Nat×oX)->Nat->Option oX
 |[],_=>none
 |(k,s)::r,t=>if k=t then some s else p9 r t
structure TI where
 ty:Ty
 elem:TypeId:=0
 bytes:Nat:=0
 arr:Bool:=false
 ls:List (Nat×TypeId×Nat):=[]
abbrev rO:=List (Nat×TI)
@[go_sem] def qC:rO->TypeId->Option TI
 |[],_=>none
 |(k,s)::r,t=>if k=t then some s else qC r t
inductive PK where
 |v|own|p (t:Ty) (os:List Nat) |m|r|f (ks:List (Ty×List Nat))
structure pD where
 side:List Prop
 ret:List oZ
 H:List oX
structure pY where
 ps:List PK
 C:List oZ->List oX->Option pD
 gs:List (Nat×Nat×PK):=[]
 same:List Nat:=[]
 row:Option ((t:Ty)->List t.den->Option (List t.den)):=none
abbrev sZ:=Nat->Option pY
structure pC where
 side:List Prop
 slot:oZ
 upd:List (Nat×oX)
 rds:List Nat
@[go_sem] def FN:List Nat->Bool
 |[]=>false
 |i::_=>if i=1000000000 then true else false
@[go_sem] def orE:Option pC->Option pC->Option pC
 |some r,_=>some r
 |none,r=>r
@[go_sem] def A3:Option (List Prop×DV)->Option pC
 |some (p,d)=>some ⟨p,(d,none),[],[]⟩
 |none=>none
@[go_sem] def U1:Value->DV
 | .bool b=> .val .bool b
 | .int k n=> .val (.int k) n
 | .string s=> .val .str s.data.toList
 | .slice none 0 0=> .nilS
 | .pointer none=> .val .ref none
 | .nilFunc=> .val .clo none
 | .map none=> .val .mp none
 |_=> .any
@[go_sem] def sM (env:List (Nat×oZ)):Operand->oZ
 | .tmp t=>lk env t
 | .const v=>(U1 v,none)
 | .func f=>(.val .clo (some (f,[])),none)
 | .global _=>(.any,none)
@[go_sem] def LQ:Option TI->oZ->oZ
 |some ⟨.list t,_,_,_,_⟩,(.nilS,_)=>(.val (.list t) [],none)
 |_,s=>s
@[go_sem] def H8:IntKind->Int->List Prop×DV
 | .i64,n=>([-9223372036854775808<=n/\n<=9223372036854775807],.val (.int .i64) n)
 |k,n=>([],.val (.int k) (k.wrap n))
@[go_sem] def pF {α:Type}:List α->List α->List α
 |[],m=>m
 |x::l,m=>x::pF l m
@[go_sem] def AT:(t:Ty)->t.den->t.den->Option Bool
 | .bool,a,b=>some (a==b)
 | .int _,a,b=>some (decide ((a:Int)=b))
 | .str,a,b=>some (decide ((a:List UInt8)=b))
 | .unit,_,_=>some true
 | .pair s t,a,b=>eqAnd (AT s a.1 b.1) (AT t a.2 b.2)
 |_,_,_=>none
where
 eqAnd:Option Bool->Option Bool->Option Bool
  |some x,some y=>some (x&&y)
  |_,_=>none
attribute [go_sem] AT.eqAnd
@[go_sem] def U2 (k:IntKind) (a b:Int):BinOp->Option (List Prop×DV)
 | .add=>some (H8 k (a+b))
 | .sub=>some (H8 k (a-b))
 | .mul=>some (H8 k (a*b))
 | .eql=>some ([],.val .bool (decide (a=b)))
 | .neq=>some ([],.val .bool (!decide (a=b)))
 | .lss=>some ([],.val .bool (decide (a<b)))
 | .leq=>some ([],.val .bool (decide (a<=b)))
 | .gtr=>some ([],.val .bool (decide (b<a)))
 | .geq=>some ([],.val .bool (decide (b<=a)))
 | .quo=>some ([b≠0],.val (.int k) (k.wrap (Int.tdiv a b)))
 | .rem=>some ([b≠0],.val (.int k) (Int.tmod a b))
 | .and=>some ([],.val (.int k) (bits .and k a b))
 | .or=>some ([],.val (.int k) (bits .or k a b))
 | .xor=>some ([],.val (.int k) (bits .xor k a b))
 | .andNot=>some ([],.val (.int k) (bits .andNot k a b))
 |_=>none
def U3 (k:IntKind) (a b:Int):Int:=k.wrap (a*2^min b.toNat k.bits)
def w6 (k:IntKind) (a b:Int):Int:=a.fdiv (2^min b.toNat k.bits)
@[go_sem] def a5f (k:IntKind) (a:Int) (k':IntKind) (b:Int):BinOp->Option (List Prop×DV)
 | .shl=>some ([0<=b],.val (.int k) (U3 k a b))
 | .shr=>some ([0<=b],.val (.int k) (w6 k a b))
 |op=>if k=k' then U2 k a b op else none
@[go_sem] def U4 (a b:List UInt8):BinOp->Option (List Prop×DV)
 | .add=>some ([((a++b).length:Int)<=9223372036854775807],.val .str (a++b))
 | .eql=>some ([],.val .bool (decide (a=b)))
 | .neq=>some ([],.val .bool (!decide (a=b)))
 | .lss=>some ([],.val .bool (Op.bytesLess a b))
 | .leq=>some ([],.val .bool (Op.bytesLess a b||decide (a=b)))
 | .gtr=>some ([],.val .bool (!(Op.bytesLess a b||decide (a=b))))
 | .geq=>some ([],.val .bool (!Op.bytesLess a b))
 |_=>none
@[go_sem] def a5g:BinOp->Option Bool->Option (List Prop×DV)
 | .eql,some r=>some ([],.val .bool r)
 | .neq,some r=>some ([],.val .bool (!r))
 |_,_=>none
@[go_sem] def OP (op:BinOp):oZ->oZ->Option (List Prop×DV)
 |(.val (.int k) a,_),(.val (.int k') b,_)=>a5f k a k' b op
 |(.val .str a,_),(.val .str b,_)=>U4 a b op
 |_,_=>none
@[go_sem] def a5h (u:Ty) (b:Nat) (op:BinOp) (t t':Ty) (x:t.den) (y:t'.den):Option (List Prop×DV):=
 if h:t'=t then(if t=u/\(t= .bool\/(t.isRow=true/\b=1)) then a5g op (AT t x (sY h y)) else none) else none
@[go_sem] def OQ {α:Type}(l:List α):BinOp->Option (List Prop×DV)
 | .eql=>some ([],.flag (l=[]) True)
 | .neq=>some ([],.flag True (l=[]))
 |_=>none
@[go_sem] def U5:Option TI->BinOp->oZ->oZ->Option (List Prop×DV)
 |some ⟨.list _,_,_,_,_⟩,op,(.val (.list _) l,_),(.nilS,_)=>OQ l op
 |some ⟨.list _,_,_,_,_⟩,op,(.nilS,_),(.val (.list _) l,_)=>OQ l op
 |some ⟨u,_,b,_,_⟩,op,(.val t x,_),(.val t' y,_)=>a5h u b op t t' x y
 |_,_,_,_=>none
@[go_sem] def a5i:Option (List Prop×DV)->Option (List Prop×DV)->Option (List Prop×DV)
 |some r,_=>some r
 |none,r=>r
@[go_sem] def U6:UnOp->oZ->Option (List Prop×DV)
 | .not,(.val .bool b,_)=>some ([],.val .bool (!b))
 | .neg,(.val (.int k) n,_)=>some (H8 k (-(n:Int)))
 |_,_=>none
def sD (l:List Int):List UInt8:=l.map fun n=>UInt8.ofNat n.toNat
def sP (s:List UInt8):List Int:=s.map fun b=>(b.toNat:Int)
@[go_sem] def OR:Option TI->Option TI->oZ->Option (List Prop×DV)
 |some _,some ⟨.int k,_,_,_,_⟩,(.val (.int _) n,_)=>some ([],.val (.int k) (k.wrap n))
 |some _,some ⟨.str,_,_,_,_⟩,(.val .str s,_)=>some ([],.val .str s)
 |_,_,_=>none
@[go_sem] def a5j (l:List Int):Option TI->Option (List Prop×DV)
 |some ⟨.int .u8,_,_,_,_⟩=>some ([],.val .str (sD l))
 |_=>none
@[go_sem] def U7 (T:rO):Option TI->Option TI->oZ->Option (List Prop×DV)
 |some ⟨.list (.int .u8),e,_,_,_⟩,some ⟨.str,_,_,_,_⟩,(.val (.list (.int .u8)) l,_)=>a5j l (qC T e)
 |_,_,_=>none
def pE {α:Type}(l:List α) (lo hi:Int):List α:=(l.drop lo.toNat).take (hi.toNat-lo.toNat)
@[go_sem] def C9:Option oZ->Int->Option Int
 |none,d=>some d
 |some (.val (.int _) n,_),_=>some n
 |_,_=>none
@[go_sem] def OS (t:Ty) (n:Nat) (f:Int->Int->t.den):Option Int->Option Int->Option (List Prop×DV)
 |some a,some b=>some ([0<=a/\a<=b/\b<=(n:Int)],.val t (f a b))
 |_,_=>none
@[go_sem] def U8:Option TI->oZ->Option oZ->Option oZ->Option (List Prop×DV)
 |some ⟨.str,_,_,_,_⟩,(.val .str l,_),lo,hi=>OS .str (List.length l) (pE l) (C9 lo 0) (C9 hi (List.length l))
 |some ⟨.list u,_,_,_,_⟩,(.val (.list t) l,_),lo,hi=>if t=u then OS (.list t) (List.length l) (pE l) (C9 lo 0) (C9 hi (List.length l)) else none
 |_,_,_,_=>none
@[go_sem] def OT (t:Ty) (x:t.den) (i:Nat):Option Ty->Option t.den
 |some (.list u)=>Ty.setPart (.list u) [] t x i
 |_=>none
@[go_sem] def zL (t:Ty):Option t.den->List (Nat×oZ)->Option t.den
 |some x,[]=>some x
 |some x,(i,(.val u y,_))::r=>zL t (Ty.setPart u y t x i) r
 |some x,(i,(.nilS,_))::r=>zL t (OT t x i (t.fld i)) r
 |_,_=>none
@[go_sem] def BN (t:Ty):Nat->List t.den
 |0=>[]
 |n+1=>t.zero::BN t n
@[go_sem] def a5k (t:Ty) (n:Nat) (l:List t.den) (i:Nat) (u:Ty) (y:u.den):Option (List t.den):=if h:u=t/\i<n then some (l.set i (sY h.1 y)) else none
@[go_sem] def A4 (t:Ty) (n:Nat):Option (List t.den)->List (Nat×oZ)->Option (List t.den)
 |some l,[]=>some l
 |some l,(i,(.val u y,_))::r=>A4 t n (a5k t n l i u y) r
 |_,_=>none
attribute [go_sem] List.set_cons_zero List.set_cons_succ
@[go_sem] def H9:List oZ->Option (List (Nat×Nat))
 |[]=>some []
 |(.val .ref (some p),_)::r=>(H9 r).map (p:: ·)
 |_=>none
@[go_sem] def vI:List (Nat×Nat)->Nat->Option Nat
 |[],_=>none
 |(o,k)::r,a=>if o=a then some k else vI r a
@[go_sem] def vP:Option Nat->Nat->List (Nat×Nat)
 |some k,o=>[(o,k)]
 |none,_=>[]
@[go_sem] def u7:List (Nat×Nat)->Nat->Nat->List (Nat×Nat)
 |[],_,_=>[]
 |(q,k)::r,o,n=>if o<=q/\q<o+n then u7 r o n else(q,k)::u7 r o n
@[go_sem] def EB:Ty->Option Nat->Option Nat
 | .list _,k=>k
 |_,_=>none
@[go_sem] def xM {α:Type}:List α->List α->List α
 |[],acc=>acc
 |x::l,acc=>xM l (x::acc)
inductive pT where
 |box (id:Nat) (u:Ty) (x:u.den) (toks:List (Nat×Nat)) (o:Nat)
 |tok (id:Nat)
@[go_sem] def pT.id:pT->Nat
 | .box i _ _ _ _=>i
 | .tok k=>k
@[go_sem] def BO:Nat->List Nat->Bool
 |_,[]=>false
 |i,j::r=>if i=j then true else BO i r
@[go_sem] def rD:List pT->List Nat
 |[]=>[]
 |w::r=>w.id::rD r
structure rW where
 args:List oZ
 H:List oX
 ws:List pT
 n:Nat
@[go_sem] def HA:List Nat->Nat->List (Nat×Nat)
 |[],_=>[]
 |q::qs,n=>(q,n)::HA qs (n+1)
@[go_sem] def AU (k:Nat):Option oX->Option rW->Option rW
 |some (.grow e c m),some a=>if BO k (rD a.ws)=true then none else some ⟨a.args,.grow e c m::a.H,.tok k::a.ws,a.n+1⟩
 |_,_=>none
@[go_sem] def xN (H:List (Nat×oX)):Option Nat->Option rW->Option rW
 |some k,a=>AU k (p9 H k) a
 |none,_=>none
@[go_sem] def wG (H:List (Nat×oX)) (toks:List (Nat×Nat)) (o:Nat):List Nat->Option rW->Option rW
 |[],a=>a
 |q::qs,a=>wG H toks o qs (xN H (vI toks (o+q)) a)
@[go_sem] def J3 (n:Nat):List Nat->Bool
 |[]=>true
 |q::qs=>decide (q<n)&&J3 n qs
@[go_sem] def D5 (H:List (Nat×oX)) (t:Ty) (os:List Nat) (i o:Nat) (u:Ty) (x:u.den) (toks:List (Nat×Nat)) (a:rW):Option t.den->Option rW
 |some y=>if (J3 t.cells os&& !BO i (rD a.ws))=true then wG H toks o os (some ⟨(.val .ref (some (a.n,0)),none)::a.args,.cells t y (HA os (a.n+1))::a.H,.box i u x toks o::a.ws,a.n+1⟩) else none
 |none=>none
@[go_sem] def uI (H:List (Nat×oX)) (t:Ty) (os:List Nat) (i o:Nat) (a:rW):Option oX->Option rW
 |some (.cells u x toks)=>D5 H t os i o u x toks a (pO t u x o)
 |_=>none
@[go_sem] def AV (t:Ty) (x:t.den) (k:Nat) (a:rW):Option oX->Option rW
 |some (.grow e c m)=>if (t.pure&& !BO k (rD a.ws))=true then some ⟨(.val t x,some a.n)::a.args,.grow e c m::a.H,.tok k::a.ws,a.n+1⟩ else none
 |_=>none
@[go_sem] def OU (t:Ty) (x:t.den) (a:rW):Option rW:=
 if t.pure=true then some ⟨(.val t x,none)::a.args,a.H,a.ws,a.n⟩ else none
@[go_sem] def OV (f:FuncId) (a:rW):Option rW:=some ⟨(.val .clo (some (f,[])),none)::a.args,a.H,a.ws,a.n⟩
@[go_sem] def AW (i:Nat) (a:rW):Option oX->Option rW
 |some (.map k v l)=>if (k.pure&&v.pure&& !BO i (rD a.ws))=true then some ⟨(.val .mp (some a.n),none)::a.args,.map k v l::a.H,.tok i::a.ws,a.n+1⟩ else none
 |_=>none
@[go_sem] def AX (k n:Nat) (a:rW):Option oX->Option rW
 |some (.row e t l m)=>if (t.pure&& !BO k (rD a.ws))=true then some ⟨(.own a.n n,none)::a.args,.row e t l m::a.H,.tok k::a.ws,a.n+1⟩ else none
 |_=>none
@[go_sem] def vQ (H:List (Nat×oX)) (f:FuncId) (args:List oZ):List (Ty×List Nat)->List (Nat×Nat)->List (Nat×Nat)->Option rW->Option rW
 |[],[],ids,some a=>some ⟨(.val .clo (some (f,xM ids [])),none)::args,a.H,a.ws,a.n⟩
 |(t,os)::ks,(i,o)::cs,ids,some a=>vQ H f args ks cs ((a.n,0)::ids) (uI H t os i o a (p9 H i))
 |_,_,_,_=>none
@[go_sem] def w7 (H:List (Nat×oX)) (a:rW):PK->oZ->Option rW
 | .v,(.val .clo (some (f,[])),_)=>OV f a
 | .v,(.val t x,_)=>OU t x a
 | .own,(.val t x,some k)=>AV t x k a (p9 H k)
 | .p t os,(.val .ref (some (i,o)),_)=>uI H t os i o a (p9 H i)
 | .m,(.val .mp (some i),_)=>AW i a (p9 H i)
 | .r,(.own k n,_)=>AX k n a (p9 H k)
 | .f ks,(.val .clo (some (f,cs)),_)=>vQ H f a.args ks cs [] (some a)
 |_,_=>none
@[go_sem] def vR (H:List (Nat×oX)):List PK->List oZ->Option rW->Option rW
 |_,_,none=>none
 |[],[],some a=>some a
 |p::ps,s::ss,some a=>vR H ps ss (w7 H a p s)
 |_,_,some _=>none
@[go_sem] def aDA:Option (Option (Nat×Nat))->oZ
 |some (some p)=>(.val .ref (some p),none)
 |_=>(.any,none)
@[go_sem] def aDB:Option (Option Nat)->oZ
 |some (some i)=>(.val .mp (some i),none)
 |_=>(.any,none)
@[go_sem] def aDC:Option (Option (Nat×Nat))->oZ
 |some (some (k,n))=>(.own k n,none)
 |_=>(.any,none)
@[go_sem] def EC:(t:Ty)->t.den->Nat->Option (Option (Nat×Nat))
 | .rl _ _,x,0=>some x
 | .pair a b,x,o=>if o<a.cells then EC a x.1 o else EC b x.2 (o-a.cells)
 |_,_,_=>none
@[go_sem] def HB (q:Nat):PK->Option oX->oZ
 | .r,some (.cells t y _)=>aDC (EC t y q)
 | .p _ _,some (.cells t y _)=>aDA (pO .ref t y q)
 | .m,some (.cells t y _)=>aDB (pO .mp t y q)
 |_,_=>(.any,none)
@[go_sem] def FO:List oX->Nat->Option oX
 |[],_=>none
 |b::_,0=>some b
 |_::r,n+1=>FO r n
@[go_sem] def J4 (l:List oZ):Option rW->Option rW
 |some a=>some ⟨l,a.H,a.ws,a.n⟩
 |none=>none
@[go_sem] def A5 (H:List (Nat×oX)):List (Nat×Nat×PK)->Option rW->Option rW
 |_,none=>none
 |[],some a=>some a
 |(c,q,pk)::r,some a=>A5 H r (J4 a.args (w7 H a pk (HB q pk (FO a.H (a.n-1-c)))))
@[go_sem] def ED (i o:Nat):List pT->Nat->Option (Nat×Nat)
 |[],_=>none
 | .box j _ _ _ oc::r,c=>if j=i/\oc<=o then some (c,o-oc) else ED i o r (c+1)
 | .tok _::r,c=>ED i o r (c+1)
@[go_sem] def uO (i:Nat):List pT->Nat->Option Nat
 |[],_=>none
 | .tok j::r,c=>if j=i then some c else uO i r (c+1)
 | .box _ _ _ _ _::r,c=>uO i r (c+1)
@[go_sem] def HC {α β:Type}:Option α->Option β->Option (α×β)
 |some a,some b=>some (a,b)
 |_,_=>none
@[go_sem] def OW (W:List pT):Option (Nat×Nat)->Option (Option (Nat×Nat))
 |none=>some none
 |some (i,o)=>(ED i o W 0).map some
@[go_sem] def a5l (W:List pT):Option Nat->Option (Option Nat)
 |none=>some none
 |some i=>(uO i W 0).map some
@[go_sem] def a5m (W:List pT):Option (Nat×Nat)->Option (Option (Nat×Nat))
 |none=>some none
 |some (k,n)=>(uO k W 0).map fun c=>some (c,n)
@[go_sem] def LR:Option (Nat×List (Nat×Nat))->Option (Option (Nat×List (Nat×Nat)))
 |none=>some none
 |some (f,[])=>some (some (f,[]))
 |_=>none
@[go_sem] def BP (W:List pT):(t:Ty)->t.den->Option t.den
 | .ref,x=>OW W x
 | .clo,x=>LR x
 | .mp,x=>a5l W x
 | .pair a b,x=>HC (if a.pure=true then some x.1 else BP W a x.1) (if b.pure=true then some x.2 else BP W b x.2)
 | .list t,x=>if t.pure=true then some x else none
 | .bool,x=>some x
 | .int _,x=>some x
 | .str,x=>some x
 | .unit,x=>some x
 | .rl _ _,x=>a5m W x
 | .fn,x=>some x
 | .mref,x=>OW W x
@[go_sem] def U9:Option oX->Option (List oX)->Option (List oX)
 |some b,some l=>some (b::l)
 |_,_=>none
@[go_sem] def aDD (t:Ty) (ts:List (Nat×Nat)):Option t.den->Option oX
 |some y=>some (.cells t y ts)
 |none=>none
@[go_sem] def OX (W:List pT):oX->Option oX
 | .cells t y ts=>if t.pure=true then some (.cells t y ts) else aDD t ts (BP W t y)
 |b=>some b
@[go_sem] def FP (W:List pT):List oX->Option (List oX)
 |[]=>some []
 |b::r=>U9 (OX W b) (FP W r)
@[go_sem] def zM:List pT->Nat->Option pT
 |[],_=>none
 |w::_,0=>some w
 |_::r,n+1=>zM r n
@[go_sem] def J5 (n:Nat) (c:Nat):Option pT->Bool
 |some _=>false
 |none=>decide (c<n)
@[go_sem] def zN (base n c:Nat):Option pT->Option Nat
 |some (.box _ _ _ _ _)=>none
 |some (.tok k)=>some k
 |none=>if c<n then some (base+c) else none
@[go_sem] def a5n (base n c o:Nat):Option pT->oZ
 |some (.box i _ _ _ o')=>(.val .ref (some (i,o'+o)),none)
 |wh=>if J5 n c wh=true then(.val .ref (some (base+c,o)),none) else(.any,none)
@[go_sem] def HD (base n:Nat) (W:List pT):Option Nat->Option Nat
 |some c=>zN base n c (zM W c)
 |none=>none
@[go_sem] def aDE (m:Nat):Option Nat->oZ
 |some k=>(.own k m,none)
 |none=>(.any,none)
@[go_sem] def aDF:Option Nat->oZ
 |some k=>(.val .mp (some k),none)
 |none=>(.any,none)
@[go_sem] def UA (base n c o:Nat):Option pT->Option (Nat×Nat)
 |some (.box i _ _ _ o')=>some (i,o'+o)
 |wh=>if J5 n c wh=true then some (base+c,o) else none
@[go_sem] def aDG:Option (Nat×Nat)->Option (List (Nat×Nat))->Option (List (Nat×Nat))
 |some p,some l=>some (p::l)
 |_,_=>none
@[go_sem] def J6 (base n:Nat) (W:List pT):List (Nat×Nat)->Option (List (Nat×Nat))
 |[]=>some []
 |(c,o)::r=>aDG (UA base n c o (zM W c)) (J6 base n W r)
@[go_sem] def aDH (f:Nat):Option (List (Nat×Nat))->oZ
 |some l=>(.val .clo (some (f,l)),none)
 |none=>(.any,none)
@[go_sem] def OY (base n:Nat) (W:List pT):oZ->oZ
 |(.own c m,_)=>aDE m (HD base n W (some c))
 |(.val .ref (some (c,o)),_)=>a5n base n c o (zM W c)
 |(.val .ref none,_)=>(.val .ref none,none)
 |(.val .mp (some c),_)=>aDF (HD base n W (some c))
 |(.val .clo (some (f,cs)),_)=>aDH f (J6 base n W cs)
 |(.val t x,k)=>if t.pure=true then(.val t x,HD base n W (EB t k)) else(.any,none)
 |_=>(.any,none)
@[go_sem] def aDI (q:Nat):Option Nat->List (Nat×Nat)->List (Nat×Nat)
 |some k,r=>(q,k)::r
 |none,r=>r
@[go_sem] def CA (base n:Nat) (W:List pT) (o:Nat):List (Nat×Nat)->List (Nat×Nat)
 |[]=>[]
 |(q,c)::r=>aDI (o+q) (zN base n c (zM W c)) (CA base n W o r)
@[go_sem] def HE (base n:Nat) (W:List pT):Option (Nat×Nat)->Option (Option (Nat×Nat))
 |none=>some none
 |some (c,o)=>back2 c o (zM W c)
where
 back2 (c o:Nat):Option pT->Option (Option (Nat×Nat))
  |some (.box i _ _ _ o')=>some (some (i,o'+o))
  |wh=>if J5 n c wh=true then some (some (base+c,o)) else none
attribute [go_sem] HE.back2
@[go_sem] def a5o (base n:Nat) (W:List pT):Option Nat->Option (Option Nat)
 |none=>some none
 |some c=>(zN base n c (zM W c)).map some
@[go_sem] def a5p (base n:Nat) (W:List pT):Option (Nat×Nat)->Option (Option (Nat×Nat))
 |none=>some none
 |some (c,q)=>(zN base n c (zM W c)).map fun k=>some (k,q)
@[go_sem] def AY (base n:Nat) (W:List pT):(t:Ty)->t.den->Option t.den
 | .ref,x=>HE base n W x
 | .clo,x=>LR x
 | .mp,x=>a5o base n W x
 | .pair a b,x=>HC (if a.pure=true then some x.1 else AY base n W a x.1) (if b.pure=true then some x.2 else AY base n W b x.2)
 | .list t,x=>if t.pure=true then some x else none
 | .bool,x=>some x
 | .int _,x=>some x
 | .str,x=>some x
 | .unit,x=>some x
 | .rl _ _,x=>a5p base n W x
 | .fn,x=>some x
 | .mref,x=>HE base n W x
@[go_sem] def OZ (i o:Nat) (u t:Ty) (toks ts:List (Nat×Nat)):Option u.den->Option (Nat×oX)
 |some z=>some (i,.cells u z (pF ts (u7 toks o t.cells)))
 |none=>none
@[go_sem] def a5q (i:Nat) (t:Ty) (ts:List (Nat×Nat)):Option t.den->Option (Nat×oX)
 |some y=>some (i,.cells t y ts)
 |none=>none
@[go_sem] def CB (base n c:Nat) (W:List pT):oX->Option (Nat×oX)
 | .cells t y ts=>if t.pure=true then some (base+c,.cells t y (CA base n W 0 ts)) else a5q (base+c) t (CA base n W 0 ts) (AY base n W t y)
 | .grow e m k=>some (base+c,.grow e m k)
 | .row e t l n=>if t.pure=true then some (base+c,.row e t l n) else none
 | .map k v l=>if (k.pure&&v.pure)=true then some (base+c,.map k v l) else none
 | .iter _ _=>none
 | .dead=>some (base+c,.dead)
@[go_sem] def yJ (k:Nat):oX->Option (Nat×oX)
 | .cells _ _ _=>none
 | .grow e m n=>some (k,.grow e m n)
 | .row e t l n=>if t.pure=true then some (k,.row e t l n) else none
 | .map s v l=>if (s.pure&&v.pure)=true then some (k,.map s v l) else none
 | .iter _ _=>none
 | .dead=>some (k,.dead)
@[go_sem] def a5r (i o:Nat) (u t:Ty) (toks ts:List (Nat×Nat)) (x:u.den):Option t.den->Option (Nat×oX)
 |some y=>OZ i o u t toks ts (rN t y u x o)
 |none=>none
@[go_sem] def vS (base n i o:Nat) (W:List pT) (u:Ty) (x:u.den) (toks:List (Nat×Nat)):oX->Option (Nat×oX)
 | .cells t y ts=>if t.pure=true then OZ i o u t toks (CA base n W o ts) (rN t y u x o) else a5r i o u t toks (CA base n W o ts) x (AY base n W t y)
 | .dead=>some (i,.dead)
 | .grow _ _ _=>none
 | .row _ _ _ _=>none
 | .map _ _ _=>none
 | .iter _ _=>none
@[go_sem] def LS:Option (Nat×oX)->Option (List (Nat×oX))->Option (List (Nat×oX))
 |some q,some r=>some (q::r)
 |_,_=>none
@[go_sem] def A6 (base n:Nat) (W:List pT):Nat->List pT->List oX->Option (List (Nat×oX))
 |_,[],[]=>some []
 |c,[],b::L=>LS (CB base n c W b) (A6 base n W (c+1) [] L)
 |c,.box i u x toks o::ws,b::L=>LS (vS base n i o W u x toks b) (A6 base n W (c+1) ws L)
 |c,.tok k::ws,b::L=>LS (yJ k b) (A6 base n W (c+1) ws L)
 |_,_::_,[]=>none
@[go_sem] def HF:List oZ->Option (List ((Σ t:Ty,t.den)×Option Nat))
 |[]=>some []
 |(.val t x,k)::r=>(HF r).map ((⟨t,x⟩,k):: ·)
 |_=>none
@[go_sem] def aDJ:Option (List ((Σ t:Ty,t.den)×Option Nat))->oZ
 |some q=>(.tup q,none)
 |none=>(.any,none)
@[go_sem] def J7:List oZ->Option oZ
 |[]=>some (.tup [],none)
 |[s]=>some s
 |s::s'::l=>some (aDJ (HF (s::s'::l)))
@[go_sem] def UB (W:List pT):List Nat->List Nat
 |[]=>[]
 |c::r=>sameId (zM W c) (UB W r)
where
 sameId:Option pT->List Nat->List Nat
  |some w,r=>w.id::r
  |none,r=>r
attribute [go_sem] UB.sameId
@[go_sem] def LT (side:List Prop) (rds:List Nat):Option (List (Nat×oX))->Option oZ->Option pC
 |some H,some s=>some ⟨side,s,H,rds⟩
 |_,_=>none
@[go_sem] def LU (base n:Nat) (W:List pT):List oZ->List oZ
 |[]=>[]
 |s::r=>OY base n W s::LU base n W r
@[go_sem] def pN:List oX->Nat
 |[]=>0
 |_::r=>pN r+1
@[go_sem] def P0 (base:Nat) (W:List pT) (sm:List Nat):Option pD->Option pC
 |some r=>LT r.side (pF (rD W) (UB W sm)) (A6 base (pN r.H) W 0 W r.H) (J7 (LU base (pN r.H) W r.ret))
 |none=>none
@[go_sem] def P4 (C:List oZ->List oX->Option pD) (sm:List Nat) (base:Nat) (W:List pT) (args:List oZ):Option (List oX)->Option pC
 |some L=>P0 base W sm (C args L)
 |none=>none
@[go_sem] def LV (C:List oZ->List oX->Option pD) (sm:List Nat) (base:Nat):Option rW->Option pC
 |some a=>P4 C sm base (xM a.ws []) (xM a.args []) (FP (xM a.ws []) (xM a.H []))
 |none=>none
@[go_sem] def EE (H:List (Nat×oX)) (base:Nat) (args:List oZ):Option pY->Option pC
 |some g=>LV g.C g.same base (A5 H g.gs (vR H g.ps args (some ⟨[],[],[],0⟩)))
 |none=>none
@[go_sem] def LW:List PK->List oZ->Option Nat
 | .r::ps,_::ss=>LW ps ss
 |_::_,(.own k _,_)::_=>some k
 |_::ps,_::ss=>LW ps ss
 |_,_=>none
@[go_sem] def a5s (k:Nat) (t:Ty) (l:List t.den):oZ->oZ
 |(.own j m,x)=>if j=k then(.val (.list t) l,none) else(.own j m,x)
 |s=>s
@[go_sem] def LX (k:Nat) (t:Ty) (l:List t.den):List oZ->List oZ
 |[]=>[]
 |s::r=>a5s k t l s::LX k t l r
@[go_sem] def HG (k n:Nat):List oZ->List Prop
 |[]=>[]
 |(.own j m,_)::r=>(j=k->m=n)::HG k n r
 |_::r=>HG k n r
@[go_sem] def FQ:Ty->Bool
 | .list _=>false
 | .pair a b=>FQ a&&FQ b
 | .bool| .int _| .str| .unit| .fn=>true
 | .ref| .clo| .mp| .rl _ _| .mref=>false
@[go_sem] def pB:List (Nat×oX)->List Nat
 |[]=>[]
 |(i,_)::r=>i::pB r
@[go_sem] def J8:List (Nat×oX)->Bool
 |[]=>true
 |(_,.cells t _ [])::r=>FQ t&&J8 r
 |_=>false
@[go_sem] def UC (sd:List Prop) (k:Nat):Option pC->Option pC
 |some ⟨side,(.val t x,_),U,rds⟩=>if (FQ t&&J8 U&& !BO k (pB U))=true then some ⟨pF sd side,(.val t x,none),U,k::rds⟩ else none
 |_=>none
@[go_sem] def LY (H:List (Nat×oX)) (base:Nat) (args:List oZ) (g:pY) (k:Nat):Option oX->Option pC
 |some (.row _ t l m)=>UC (HG k m args) k (EE ((k,.dead)::H) base (LX k t l args) (some g))
 |_=>none
@[go_sem] def a5t (H:List (Nat×oX)) (base:Nat) (args:List oZ) (g:pY):Option Nat->Option pC
 |some k=>LY H base args g k (p9 H k)
 |none=>EE H base args (some g)
@[go_sem] def a5u (k n m e:Nat) (t:Ty):Option (List t.den)->Option pC
 |some l=>some ⟨[n=m,m<4611686018427387904],(.tup [],none),[(k,.row e t l m)],[k]⟩
 |none=>none
@[go_sem] def UD (F:(t:Ty)->List t.den->Option (List t.den)) (k n:Nat):Option oX->Option pC
 |some (.row e t l m)=>a5u k n m e t (F t l)
 |_=>none
@[go_sem] def P5 (H:List (Nat×oX)) (F:(t:Ty)->List t.den->Option (List t.den)):List oZ->Option pC
 |[(.own k n,_)]=>UD F k n (p9 H k)
 |_=>none
@[go_sem] def UE (base:Nat):Option TI->oZ->Option pC
 |some ⟨.list u,e,_,true,_⟩,(.nilS,_)=>some ⟨[],(.own base 0,none),[(base,.row e u [] 0)],[]⟩
 |some ⟨.list u,e,_,false,_⟩,(.nilS,_)=>some ⟨[],(.val (.list u) [],some base),[(base,.grow e u.cells 0)],[]⟩
 |_,(.nilS,_)=>none
 |_,s=>some ⟨[],s,[],[]⟩
@[go_sem] def D6:Ty->Nat->Bool
 | .list _,0=>true
 | .pair a b,o=>if o<a.cells then D6 a o else D6 b (o-a.cells)
 |_,_=>false
@[go_sem] def D7 (t:Ty):List (Nat×TypeId×Nat)->Bool
 |[]=>true
 |(o,_,_)::r=>D6 t o&&D7 t r
@[go_sem] def AZ:List (Nat×TypeId×Nat)->Nat->List (Nat×Nat)
 |[],_=>[]
 |(o,_,_)::r,i=>(o,i)::AZ r (i+1)
@[go_sem] def CC:List (Nat×TypeId×Nat)->Nat->List (Nat×oX)
 |[],_=>[]
 |(_,e,c)::r,i=>pF (CC r (i+1)) [(i,.grow e c 0)]
@[go_sem] def UF (e:Nat):Bool:=if e=84 then true else if e=a5d then true else false
@[go_sem] def UG (e:Nat) (u:Ty) (o:Nat):Option (Nat×Nat)->List (Nat×Nat×Ty)
 |none=>[(o,e,u)]
 |some _=>[]
@[go_sem] def D8:(t:Ty)->t.den->Nat->List (Nat×Nat×Ty)
 | .rl e u,x,o=>UG e u o x
 | .pair a b,x,o=>pF (D8 a x.1 o) (D8 b x.2 (o+a.cells))
 |_,_,_=>[]
@[go_sem] def UH (o:Nat):Option (Nat×Nat)->List Nat
 |none=>[o]
 |some _=>[]
@[go_sem] def EF:(t:Ty)->t.den->Nat->List Nat
 | .mref,x,o=>UH o x
 | .pair a b,x,o=>pF (EF a x.1 o) (EF b x.2 (o+a.cells))
 |_,_,_=>[]
@[go_sem] def a5v:Nat->List Nat->List Nat
 |2,[0]=>[0]
 |_,_=>[]
@[go_sem] def P6 (el:Nat) (t:Ty) (y:t.den):List Nat:=if UF el=true then a5v t.cells (EF t y 0) else[]
@[go_sem] def HH (t:Ty):Nat->List (Nat×Nat×Ty)->Option t.den->Option t.den
 |_,[],x=>x
 |i,(o,e,u)::r,some x=>HH t (i+1) r (rN (.rl e u) (some (i,0)) t x o)
 |_,_::_,none=>none
@[go_sem] def FR (t:Ty) (i:Nat):List Nat->Option t.den->Option t.den
 |[],x=>x
 |q::r,some x=>FR t i r (rN .mref (some (i,q)) t x q)
 |_::_,none=>none
@[go_sem] def HI:List (Nat×Nat×Ty)->Nat->List (Nat×oX)
 |[],_=>[]
 |(_,e,u)::r,i=>pF (HI r (i+1)) [(i,.row e u [] 0)]
@[go_sem] def LZ {α:Type}:List α->Nat
 |[]=>0
 |_::r=>LZ r+1
@[go_sem] def a5w (base:Nat) (t:Ty) (ls:List (Nat×TypeId×Nat)) (R:List (Nat×Nat×Ty)):Option t.den->Option pC
 |some z=>some ⟨[],(.val .ref (some (base,0)),none),(base,.cells t z (AZ ls (base+1)))::pF (HI R (base+1+LZ ls)) (CC ls (base+1)),[]⟩
 |none=>none
@[go_sem] def P7 (base el:Nat) (t:Ty) (y:t.den) (ls:List (Nat×TypeId×Nat)):Bool->Option pC
 |true=>a5w base t ls (D8 t y 0) (FR t base (P6 el t y) (HH t (base+1+LZ ls) (D8 t y 0) (some y)))
 |false=>none
@[go_sem] def a5x (base el:Nat) (ls:List (Nat×TypeId×Nat)):(t:Ty)->t.den->Option Nat->Option pC
 | .pair a b,y,some _=>P7 base el (.pair a b) y ls (D7 (.pair a b) ls)
 | .list u,y,k=>some ⟨[],(.val .ref (some (base,0)),none),[(base,.cells (.list u) y (vP k 0))],[]⟩
 |t,y,_=>some ⟨[],(.val .ref (some (base,0)),none),[(base,.cells t y [])],[]⟩
@[go_sem] def UI (base el:Nat):Option TI->Option pC
 |some ⟨.list u,e,_,_,_⟩=>some ⟨[],(.val .ref (some (base,0)),none),[(base,.cells (.list u) [] [(0,base+1)]),(base+1,.grow e u.cells 0)],[]⟩
 |some ti=>P7 base el ti.ty ti.ty.zero ti.ls (D7 ti.ty ti.ls)
 |none=>none
@[go_sem] def UJ (base el:Nat):Option TI->oZ->Option pC
 |some ti,(.val t y,k)=>if t=ti.ty then a5x base el ti.ls t y k else none
 |_,_=>none
@[go_sem] def J9:Ty->Bool
 | .list _=>true
 | .pair a b=>J9 a||J9 b
 | .bool| .int _| .str| .unit| .ref| .clo| .mp| .rl _ _| .mref| .fn=>false
@[go_sem] def A7:List (Nat×oZ)->Bool
 |[]=>true
 |(_,(.nilS,_))::r=>A7 r
 |(_,(.val u _,_))::r=> !J9 u&&A7 r
 |_=>false
@[go_sem] def UK:Ty->Bool->Option Nat
 | .pair _ _,true=>some 0
 |_,_=>none
@[go_sem] def aDK (t:Ty) (k:Option Nat):Option t.den->Option pC
 |some x=>some ⟨[],(.val t x,k),[],[]⟩
 |none=>none
@[go_sem] def UL (sl:List (Nat×oZ)):Option TI->Option pC
 |some ti=>if ti.ty.isRow=true then aDK ti.ty (UK ti.ty (A7 sl)) (zL ti.ty (some ti.ty.zero) sl) else none
 |none=>none
@[go_sem] def P8 (base e c n:Nat) (t:Ty):Option (List t.den)->Option pC
 |some l=>if n<=16777216/\n*c<=16777216 then some ⟨[],(.val (.list t) l,some base),[(base,.grow e c n)],[]⟩ else none
 |none=>none
@[go_sem] def a5y (base e n:Nat) (t:Ty):Option (List t.den)->Option pC
 |some l=>if t.pure=true/\n<=16777216/\n*t.cells<=16777216 then some ⟨[],(.own base n,none),[(base,.row e t l n)],[]⟩ else none
 |none=>none
@[go_sem] def UM (base n:Nat) (sl:List (Nat×oZ)):Option TI->Option pC
 |some ⟨.list u,e,_,true,_⟩=>if n=0 then a5y base e n u (A4 u n (some (BN u n)) sl) else P8 base e u.cells n u (A4 u n (some (BN u n)) sl)
 |some ⟨.list u,e,_,false,_⟩=>P8 base e u.cells n u (A4 u n (some (BN u n)) sl)
 |_=>none
@[go_sem] def a5z (t:Ty) (k:Option Nat) (i:Nat):Option t.den->Option pC
 |some y=>some ⟨[],(.val t y,k),[],[i]⟩
 |none=>none
@[go_sem] def M0 (t:Ty) (i off:Nat):Option oX->Option pC
 |some (.cells u x toks)=>a5z t (EB t (vI toks off)) i (pO t u x off)
 |_=>none
@[go_sem] def a5A (u:Ty) (k n m:Nat):Option u.den->Option pC
 |some y=>some ⟨[n=m],(.val u y,none),[],[k]⟩
 |none=>none
@[go_sem] def M1 (u:Ty) (k n c:Nat) (i:Int) (o:Nat):Option oX->Option pC
 |some (.row _ t l m)=>if c=t.cells then a5A u k n m (pO u t (qG t l i) o) else none
 |_=>none
@[go_sem] def UN (i:Nat):Option (Option (Nat×Nat))->Option pC
 |some (some (k,n))=>some ⟨[],(.own k n,none),[],[i]⟩
 |_=>none
@[go_sem] def P9 (i off:Nat):TI->Option oX->Option pC
 |⟨.list u,e,_,_,_⟩,some (.cells v x _)=>UN i (pO (.rl e u) v x off)
 |_,_=>none
@[go_sem] def UO (k:Nat) (u0:Ty) (l:List u0.den) (e:Nat) (u:Ty):Option (Nat×Nat)-> Σ t:Ty,t.den
 |some (j,n)=>if j=k/\u=u0 then⟨.list u0,l⟩ else⟨.rl e u,some (j,n)⟩
 |none=>⟨.rl e u,none⟩
@[go_sem] def zO (k:Nat) (u0:Ty) (l:List u0.den):(t:Ty)->t.den-> Σ t:Ty,t.den
 | .rl e u,x=>UO k u0 l e u x
 | .pair a b,x=>if (Ty.pair a b).pure=true then⟨.pair a b,x⟩ else⟨.pair (zO k u0 l a x.1).1 (zO k u0 l b x.2).1,((zO k u0 l a x.1).2,(zO k u0 l b x.2).2)⟩
 |t,x=>⟨t,x⟩
@[go_sem] def aDL (k n:Nat):Option (Nat×Nat)->Prop
 |some (j,m)=>j=k->m=n
 |none=>True
@[go_sem] def M2 (k n:Nat):(t:Ty)->t.den->Prop
 | .rl _ _,x=>aDL k n x
 | .pair a b,x=>M2 k n a x.1/\M2 k n b x.2
 |_,_=>True
@[go_sem] def UP:Option (Nat×Nat)->Option (Nat×Nat)->Option (Nat×Nat)
 |some p,_=>some p
 |none,q=>q
@[go_sem] def A8:(t:Ty)->t.den->Option (Nat×Nat)
 | .rl _ _,x=>x
 | .pair a b,x=>UP (A8 a x.1) (A8 b x.2)
 |_,_=>none
@[go_sem] def UQ (u0:Ty) (l:List u0.den) (u:Ty):Option (Nat×Nat)->Option (Σ t:Ty,t.den)
 |some _=>if u=u0 then some ⟨.list u0,l⟩ else none
 |none=>none
@[go_sem] def HJ (a b:Ty) (x:a.den) (y:b.den):Option (Nat×Nat)->Option (Σ t:Ty,t.den)->Option (Σ t:Ty,t.den)->Option (Σ t:Ty,t.den)
 |some _,some ⟨a',x'⟩,_=>some ⟨.pair a' b,(x',y)⟩
 |some _,none,_=>none
 |none,_,some ⟨b',y'⟩=>some ⟨.pair a b',(x,y')⟩
 |none,_,none=>none
@[go_sem] def xO (u0:Ty) (l:List u0.den):(t:Ty)->t.den->Option (Σ t:Ty,t.den)
 | .rl _ u,x=>UQ u0 l u x
 | .pair a b,x=>HJ a b x.1 x.2 (A8 a x.1) (xO u0 l a x.1) (xO u0 l b x.2)
 |_,_=>none
@[go_sem] def UR (t:Ty) (i k:Nat) (sd:Prop) (e:TypeId) (c n:Nat) (v:Ty) (x:v.den):Option t.den->Option pC
 |some y=>some ⟨[sd],(.val t y,none),[(i,.cells v x []),(k,.grow e c n)],[1000000000,i,k]⟩
 |none=>none
@[go_sem] def US (t:Ty) (i off k:Nat) (sd:Prop) (e:TypeId) (c n:Nat):Option (Σ t:Ty,t.den)->Option pC
 |some ⟨v,x⟩=>UR t i k sd e c n v x (pO t v x off)
 |none=>none
@[go_sem] def PA (t:Ty) (i off k n0:Nat) (v:Ty) (x:v.den):Option oX->Option pC
 |some (.row e u0 l m)=>US t i off k (n0=m) e u0.cells (List.length l) (xO u0 l v x)
 |_=>none
@[go_sem] def PB (H:List (Nat×oX)) (t:Ty) (i off:Nat) (v:Ty) (x:v.den):Option (Nat×Nat)->Option pC
 |some (k,n0)=>PA t i off k n0 v x (p9 H k)
 |none=>none
@[go_sem] def FS (H:List (Nat×oX)) (t:Ty) (i off:Nat):Option oX->Option pC
 |some (.cells v x _)=>PB H t i off v x (A8 v x)
 |_=>none
@[go_sem] def orS (H:List (Nat×oX)) (t:Ty) (i off:Nat) (b:Option oX):Option pC->Option pC
 |some r=>some r
 |none=>FS H t i off b
@[go_sem] def PC (H:List (Nat×oX)):Option TI->oZ->Option pC
 |some ti,(.elt k n c i o,_)=>M1 ti.ty k n c i o (p9 H k)
 |some ti,(.at u x,_)=>if u=ti.ty then some ⟨[],(.val u x,none),[],[]⟩ else none
 |some ti,(.val .ref (some (i,off)),_)=>orS H ti.ty i off (p9 H i) (orE (M0 ti.ty i off (p9 H i)) (P9 i off ti (p9 H i)))
 |_,_=>none
@[go_sem] def PD (u:Ty) (i:Nat) (toks:List (Nat×Nat)):Option u.den->Option pC
 |some z=>some ⟨[],(.any,none),[(i,.cells u z toks)],[i]⟩
 |none=>none
@[go_sem] def PE (t:Ty) (y:t.den) (k:Option Nat) (i off:Nat):Option oX->Option pC
 |some (.cells u x toks)=>PD u i (pF (vP (EB t k) off) (u7 toks off t.cells)) (rN t y u x off)
 |_=>none
@[go_sem] def JA (off:Nat):List (Nat×Nat)->List (Nat×Nat)
 |[]=>[]
 |(o,k)::r=>(off+o,k)::JA off r
@[go_sem] def a5C (u:Ty) (i:Nat) (nt toks:List (Nat×Nat)) (bs:List (Nat×oX)):Option u.den->Option pC
 |some z=>some ⟨[],(.any,none),(i,.cells u z (pF nt toks))::pF bs [(i,.cells u z toks)],[i]⟩
 |none=>none
@[go_sem] def PF (t:Ty) (y:t.den) (ls:List (Nat×TypeId×Nat)) (base i off:Nat):Option oX->Bool->Option pC
 |some (.cells u x toks),true=>a5C u i (JA off (AZ ls base)) (u7 toks off t.cells) (CC ls base) (rN t y u x off)
 |_,_=>none
@[go_sem] def PG (base i off:Nat) (b:Option oX):List (Nat×TypeId×Nat)->(t:Ty)->t.den->Option Nat->Option pC
 |q::r,.pair a c,y,some _=>PF (.pair a c) y (q::r) base i off b (D7 (.pair a c) (q::r))
 |_,t,y,k=>PE t y k i off b
@[go_sem] def a5D (k n m:Nat) (e:TypeId) (t:Ty) (l:List t.den) (i:Int):Option t.den->Option pC
 |some z=>some ⟨[n=m],(.any,none),[(k,.row e t (l.set i.toNat z) m)],[k]⟩
 |none=>none
@[go_sem] def PH (u:Ty) (y:u.den) (k n c:Nat) (i:Int) (o:Nat):Option oX->Option pC
 |some (.row e t l m)=>if c=t.cells then a5D k n m e t l i (rN u y t (qG t l i) o) else none
 |_=>none
@[go_sem] def UT (b:Ty) (y:b.den):Option (Σ t:Ty,t.den)->Option (Σ t:Ty,t.den)
 |some ⟨a,x⟩=>some ⟨.pair a b,(x,y)⟩
 |none=>none
@[go_sem] def UU (a:Ty) (x:a.den):Option (Σ t:Ty,t.den)->Option (Σ t:Ty,t.den)
 |some ⟨b,y⟩=>some ⟨.pair a b,(x,y)⟩
 |none=>none
@[go_sem] def w8 (e:Nat) (u:Ty) (kn:Option (Nat×Nat)):(t:Ty)->t.den->Nat->Option (Σ t:Ty,t.den)
 | .list v,_,0=>if v=u then some ⟨.rl e u,kn⟩ else none
 | .pair a b,x,o=>if o<a.cells then UT b x.2 (w8 e u kn a x.1 o) else UU a x.1 (w8 e u kn b x.2 (o-a.cells))
 |_,_,_=>none
@[go_sem] def UV (i:Nat):Option (Σ t:Ty,t.den)->Option pC
 |some ⟨v,z⟩=>some ⟨[],(.any,none),[(i,.cells v z [])],[1000000000,i]⟩
 |none=>none
@[go_sem] def orO (i off k n e:Nat) (u v:Ty) (x:v.den):Option pC->Option pC
 |some r=>some r
 |none=>UV i (w8 e u (some (k,n)) v x off)
@[go_sem] def UW (i off k n:Nat):TI->Option oX->Option pC
 |⟨.list u,e,_,_,_⟩,some (.cells v x toks)=>orO i off k n e u v x (PD v i (u7 toks off 1) (rN (.rl e u) (some (k,n)) v x off))
 |_,_=>none
@[go_sem] def PI (base:Nat) (H:List (Nat×oX)):Option TI->oZ->oZ->Option pC
 |some ti,(.val .ref (some (i,off)),_),(.own k n,_)=>UW i off k n ti (p9 H i)
 |some ti,(.elt k n c i o,_),(.val t y,_)=>if t=ti.ty then PH t y k n c i o (p9 H k) else none
 |some ti,(.val .ref (some (i,off)),_),(.val t y,k)=>if t=ti.ty then PG base i off (p9 H i) ti.ls t y k else none
 |_,_,_=>none
@[go_sem] def UX:oZ->Option pC
 |(.val .ref (some p),_)=>some ⟨[],(.val .ref (some p),none),[],[]⟩
 |(.at t x,_)=>some ⟨[],(.at t x,none),[],[]⟩
 |(.elt k n c i o,_)=>some ⟨[],(.elt k n c i o,none),[],[]⟩
 |_=>none
@[go_sem] def a5F (f:FuncId):Option (List (Nat×Nat))->Option pC
 |some l=>some ⟨[],(.val .clo (some (f,l)),none),[],[]⟩
 |none=>none
@[go_sem] def aDM (f:FuncId) (l:Option (List (Nat×Nat))):List Operand->Option pC
 |[]=>a5F f l
 |_=>none
@[go_sem] def PJ (side:List Prop):Option (Σ t:Ty,t.den)->Option pC
 |some ⟨t,x⟩=>if 0<t.cells then some ⟨side,(.at t x,none),[],[]⟩ else none
 |none=>none
@[go_sem] def PL (side:List Prop) (i off:Nat):Option Nat->Option Ty->Option pC
 |some o,some u=>if 0<u.cells then some ⟨side,(.val .ref (some (i,off+o)),none),[],[]⟩ else none
 |_,_=>none
@[go_sem] def a5G (k n c:Nat) (i:Int) (o:Nat):Option Nat->Option Ty->Option pC
 |some q,some u=>if 0<u.cells then some ⟨[],(.elt k n c i (o+q),none),[],[]⟩ else none
 |_,_=>none
@[go_sem] def UY (f:Nat):Option TI->oZ->Option pC
 |some ⟨t,_,_,false,_⟩,(.elt k n c i o,_)=>a5G k n c i o (t.offs f) (t.fld f)
 |some ⟨t,_,_,false,_⟩,(.at u y,_)=>if u=t then PJ [] (u.proj y f) else none
 |some ⟨t,_,_,false,_⟩,(.val .ref (some (i,off)),_)=>PL [] i off (t.offs f) (t.fld f)
 |_,_=>none
@[go_sem] def aDN:Option (Σ t:Ty,t.den)->Option pC
 |some ⟨t,x⟩=>some ⟨[],(.val t x,none),[],[]⟩
 |none=>none
@[go_sem] def UZ (f:Nat):Option TI->oZ->Option pC
 |some ⟨t,_,_,false,_⟩,(.val u y,_)=>if u=t then aDN (u.proj y f) else none
 |_,_=>none
@[go_sem] def V0:Option TI->oZ->oZ->Option pC
 |some ⟨.list t',_,_,_,_⟩,(.own k n,_),(.val (.int _) i,_)=>if 0<t'.cells then some ⟨[0<=i/\i<(n:Int)],(.elt k n t'.cells i 0,none),[],[]⟩ else none
 |some ⟨.list t',_,_,_,_⟩,(.val (.list t) l,_),(.val (.int _) i,_)=>if t=t' then some ⟨[0<=i/\i<(List.length l:Int)],(.at t (qG t l i),none),[],[]⟩ else none
 |some ⟨.pair a b,_,_,true,_⟩,(.val .ref (some (i,off)),_),(.val (.int _) n,_)=>PL [(0:Int)<=n] i off ((Ty.pair a b).offs (Int.toNat n)) ((Ty.pair a b).fld (Int.toNat n))
 |some ⟨.pair a b,_,_,true,_⟩,(.at u x,_),(.val (.int _) n,_)=>if u= .pair a b then PJ [(0:Int)<=n] (u.proj x (Int.toNat n)) else none
 |_,_,_=>none
@[go_sem] def V1:Option TI->oZ->oZ->Option pC
 |some ⟨.str,_,_,_,_⟩,(.val .str l,_),(.val (.int _) i,_)=>some ⟨[0<=i/\i<(List.length l:Int)],(.val (.int .u8) (pI l i),none),[],[]⟩
 |_,_,_=>none
@[go_sem] def PM:List ((Σ t:Ty,t.den)×Option Nat)->Nat->Option pC
 |[],_=>none
 |(⟨t,x⟩,k)::_,0=>some ⟨[],(.val t x,k),[],[]⟩
 |_::r,n+1=>PM r n
@[go_sem] def a5H (b:Bool) (p c:Int):Nat->Option pC
 |0=>some ⟨[],(.val .bool b,none),[],[]⟩
 |1=>some ⟨[b=true],(.val (.int .i64) p,none),[],[]⟩
 |2=>some ⟨[b=true],(.val (.int .i32) c,none),[],[]⟩
 |_=>none
@[go_sem] def V2 (i:Nat):oZ->Option pC
 |(.tup l,_)=>PM l i
 |(.nxt b p c,_)=>a5H b p c i
 |_=>none
@[go_sem] def PN (i:Nat):Option oX->Option pC
 |some (.map _ _ l)=>some ⟨[],(.val (.int .i64) (List.length l:Int),none),[],[i]⟩
 |_=>none
@[go_sem] def V3 (H:List (Nat×oX)):Option TI->List oZ->Option pC
 |some ⟨.mp,_,_,_,_⟩,[(.val .mp (some i),_)]=>PN i (p9 H i)
 |some ⟨.str,_,_,_,_⟩,[(.val .str l,_)]=>some ⟨[],(.val (.int .i64) (List.length l:Int),none),[],[]⟩
 |some ⟨.list _,_,_,_,_⟩,[(.val (.list _) l,_)]=>some ⟨[],(.val (.int .i64) (List.length l:Int),none),[],[]⟩
 |some ⟨.list _,_,_,_,_⟩,[(.own _ n,_)]=>some ⟨[],(.val (.int .i64) (n:Int),none),[],[]⟩
 |_,_=>none
@[go_sem] def PO (a:Ty) (l r:List a.den) (k e' by':Nat):Option oX->Option pC
 |some (.grow e c n)=>if e=e'/\c=a.cells/\0<c/\0<by' then some ⟨[List.length l=n,(List.length l+List.length r)*by'<=140737488355328],(.val (.list a) (l++r),some k),[(k,.grow e c (List.length (l++r)))],[k]⟩ else none
 |_=>none
@[go_sem] def PP (b:Ty) (r:List b.den) (k n e' by':Nat):Option oX->Option pC
 |some (.row e t l m)=>if h:b=t then(if e=e'/\0<t.cells/\0<by' then some ⟨[n=m,(n+List.length r)*by'<=140737488355328],(.own k (List.length (l++sY (t:= .list b) (u:= .list t) (by rw[h]) r)),none),[(k,.row e t (l++sY (t:= .list b) (u:= .list t) (by rw[h]) r) (List.length (l++sY (t:= .list b) (u:= .list t) (by rw[h]) r)))],[k]⟩ else none) else none
 |_=>none
@[go_sem] def PQ (H:List (Nat×oX)):Option TI->List oZ->Option pC
 |some ⟨.list u,e,by',_,_⟩,[(.own k n,_),(.val (.list b) r,_)]=>if b=u then PP b r k n e by' (p9 H k) else none
 |some ⟨.list u,e,by',_,_⟩,[(.val (.list a) l,some k),(.val (.list b) r,_)]=>if h:b=a/\a=u then PO a l (sY (t:= .list b) (u:= .list a) (by rw[h.1]) r) k e by' (p9 H k) else none
 |_,_=>none
@[go_sem] def PR (mx:Bool):List oZ->Option (List Prop×DV)
 |[(.val (.int k) a,_),(.val (.int k') b,_)]=>if k=k' then some ([],.val (.int k) (if mx then max (a:Int) b else min (a:Int) b)) else none
 |_=>none
@[go_sem] def V4:List (Nat×Nat)->List oZ
 |[]=>[]
 |c::r=>(.val .ref (some c),none)::V4 r
@[go_sem] def PS (H:List (Nat×oX)) (base:Nat) (args:List oZ) (g:pY):Option ((t:Ty)->List t.den->Option (List t.den))->Option pC
 |some F=>P5 H F args
 |none=>a5t H base args g (LW g.ps args)
@[go_sem] def HK (H:List (Nat×oX)) (base:Nat) (args:List oZ):Option pY->Option pC
 |some g=>PS H base args g g.row
 |none=>none
@[go_sem] def JB (Γ:sZ) (H:List (Nat×oX)) (base:Nat) (args:List oZ):oZ->Option pC
 |(.val .clo (some (f,caps)),_)=>HK H base (args++V4 caps) (Γ f)
 |(.val .fn (some f),_)=>HK H base args (Γ f)
 |_=>none
@[go_sem] def EG (T:rO) (ρ:Operand->oZ):List Operand->List TypeId->List oZ
 |x::xs,t::ts=>LQ (qC T t) (ρ x)::EG T ρ xs ts
 |_,_=>[]
@[go_sem] def uA (ρ:Operand->oZ):List Operand->List oZ
 |[]=>[]
 |x::xs=>ρ x::uA ρ xs
@[go_sem] def t7 (ρ:Operand->oZ):List (Nat×Operand)->List (Nat×oZ)
 |[]=>[]
 |(i,x)::xs=>(i,ρ x)::t7 ρ xs
@[go_sem] def xP (ρ:Operand->oZ):Option Operand->Option oZ
 |some x=>some (ρ x)
 |none=>none
@[go_sem] def PT (T:rO) (H:List (Nat×oX)) (ss:List oZ):List TypeId->Option pC
 |t::_=>V3 H (qC T t) ss
 |[]=>none
@[go_sem] def PU (l:List Int) (s:List UInt8) (k e':Nat):Option oX->Option pC
 |some (.grow e c n)=>if e=e'/\c=1 then some ⟨[List.length l=n,List.length l+List.length s<=140737488355328],(.val (.list (.int .u8)) (l++sP s),some k),[(k,.grow e c (List.length (l++sP s)))],[k]⟩ else none
 |_=>none
@[go_sem] def V5 (H:List (Nat×oX)):Option TI->Option TI->List oZ->Option pC
 |some ⟨.list (.int .u8),e,1,_,_⟩,some ⟨.str,_,_,_,_⟩,[(.val (.list (.int .u8)) l,some k),(.val .str s,_)]=>PU l s k e (p9 H k)
 |_,_,_=>none
@[go_sem] def PV (T:rO) (H:List (Nat×oX)) (ss:List oZ):List TypeId->Option pC
 |[t,u]=>if t=u then PQ H (qC T t) ss else V5 H (qC T t) (qC T u) ss
 |_=>none
@[go_sem] def HL:List Operand->List TypeId->Bool
 |[],[]=>true
 |_::xs,_::ts=>HL xs ts
 |_,_=>false
@[go_sem] def V6 (T:rO) (Γ:sZ) (ρ:Operand->oZ) (base:Nat) (H:List (Nat×oX)) (args:List Operand) (tys:List TypeId) (f:oZ):Bool->Option pC
 |true=>JB Γ H base (EG T ρ args tys) f
 |false=>none
@[go_sem] def HM (T:rO) (Γ:sZ) (ρ:Operand->oZ) (base:Nat) (H:List (Nat×oX)) (args:Array Operand) (tys:Array TypeId):Callee->Option pC
 | .builtin .len=>PT T H (uA ρ args.toList) tys.toList
 | .builtin .append=>PV T H (uA ρ args.toList) tys.toList
 | .builtin .max=>A3 (PR true (uA ρ args.toList))
 | .builtin .min=>A3 (PR false (uA ρ args.toList))
 | .value f=>V6 T Γ ρ base H args.toList tys.toList (ρ f) (HL args.toList tys.toList)
 |_=>none
@[go_sem] def D9:Ty->Bool
 | .int _| .str| .bool=>true
 |_=>false
def EH:(k:Ty)->k.den->k.den->Bool
 | .int _,a,b=>decide ((a:Int)=b)
 | .str,a,b=>decide ((a:List UInt8)=b)
 | .bool,a,b=>a==b
 |_,_,_=>false
def rM (k v:Ty):List (k.den×v.den)->k.den->v.den
 |[],_=>v.zero
 |(x,y)::r,a=>if EH k a x=true then y else rM k v r a
def w9 (k v:Ty):List (k.den×v.den)->k.den->Bool
 |[],_=>false
 |(x,_)::r,a=>if EH k a x=true then true else w9 k v r a
def sI (k v:Ty) (a:k.den) (b:v.den):List (k.den×v.den)->List (k.den×v.den)
 |[]=>[(a,b)]
 |(x,y)::r=>if EH k a x=true then(a,b)::r else(x,y)::sI k v a b r
@[go_sem] def a5I (base:Nat):Option TI->Option TI->Option pC
 |some k,some v=>if D9 k.ty=true then some ⟨[],(.val .mp (some base),none),[(base,.map k.ty v.ty [])],[]⟩ else none
 |_,_=>none
@[go_sem] def V7 (T:rO) (base:Nat):Option TI->Option Operand->Option pC
 |some ⟨.mp,e,f,_,_⟩,none=>a5I base (qC T e) (qC T f)
 |_,_=>none
@[go_sem] def PW (k:Ty) (a:k.den) (u:Ty) (i:Nat) (ok:Bool):Option oX->Option pC
 |some (.map k' v l)=>if h:k=k'/\v=u then(if D9 k=true then(match ok with
   |true=>some ⟨[],(.tup [(⟨v,rM k' v l (sY h.1 a)⟩,none),(⟨.bool,w9 k' v l (sY h.1 a)⟩,none)],none),[],[i]⟩
   |false=>some ⟨[],(.val v (rM k' v l (sY h.1 a)),none),[],[i]⟩) else none) else none
 |_=>none
@[go_sem] def V8 (H:List (Nat×oX)) (ok:Bool) (i:Nat):Option TI->Option TI->oZ->Option pC
 |some kt,some vt,(.val k a,_)=>if k=kt.ty then PW k a vt.ty i ok (p9 H i) else none
 |_,_,_=>none
@[go_sem] def PX (T:rO) (H:List (Nat×oX)) (ok:Bool):Option TI->oZ->oZ->Option pC
 |some ⟨.mp,e,f,_,_⟩,(.val .mp (some i),_),s=>V8 H ok i (qC T e) (qC T f) s
 |_,_,_=>none
@[go_sem] def JC (k:Ty) (a:k.den) (u:Ty) (b:u.den) (i:Nat):Option oX->Option pC
 |some (.map k' v l)=>if h:k=k'/\u=v then(if D9 k=true then some ⟨[],(.any,none),[(i,.map k' v (sI k' v (sY h.1 a) (sY h.2 b) l))],[i]⟩ else none) else none
 |_=>none
@[go_sem] def PY (H:List (Nat×oX)) (i:Nat):Option TI->oZ->oZ->Option pC
 |some kt,(.val k a,_),(.val u b,_)=>if k=kt.ty then JC k a u b i (p9 H i) else none
 |_,_,_=>none
@[go_sem] def a5J:Option TI->oZ->oZ
 |some ⟨.fn,_,_,_,_⟩,(.val .clo (some (f,[])),_)=>(.val .fn (some f),none)
 |_,s=>s
@[go_sem] def PZ (T:rO):Option TI->oZ->oZ
 |some ⟨.mp,_,f,_,_⟩,s=>a5J (qC T f) s
 |_,s=>s
@[go_sem] def JD (T:rO) (H:List (Nat×oX)):Option TI->oZ->oZ->oZ->Option pC
 |some ⟨.mp,e,_,_,_⟩,(.val .mp (some i),_),s,x=>PY H i (qC T e) s x
 |_,_,_,_=>none
def tM (s:List UInt8) (p:Nat):Int:=((Utf8.decode ⟨s.toArray⟩ p).1:Int)
def V9 (s:List UInt8) (p:Nat):Nat:=(Utf8.decode ⟨s.toArray⟩ p).2
def yK (s:List UInt8) (p:Nat):Nat:=if p<s.length then p+V9 s p else p
@[go_sem] def VA (base:Nat):Option TI->oZ->Option pC
 |some ⟨.str,_,_,_,_⟩,(.val .str s,_)=>some ⟨[],(.val .ref (some (base,0)),none),[(base,.iter s 0)],[]⟩
 |_,_=>none
@[go_sem] def VB (i:Nat):Option oX->Option pC
 |some (.iter s p)=>some ⟨[],(.nxt (decide (p<List.length s)) ((p:Nat):Int) (tM s p),none),[(i,.iter s (yK s p))],[i]⟩
 |_=>none
@[go_sem] def Q0 (H:List (Nat×oX)):Bool->oZ->Option pC
 |true,(.val .ref (some (i,0)),_)=>VB i (p9 H i)
 |_,_=>none
@[go_sem] def t6 (T:rO) (Γ:sZ) (ty:TypeId) (ρ:Operand->oZ) (base:Nat) (H:List (Nat×oX)):Op->Option pC
 | .move x| .assign x=>UE base (qC T ty) (ρ x)
 | .alloc e=>UI base e (qC T e)
 | .box e x=>UJ base e (qC T e) (LQ (qC T e) (ρ x))
 | .build t ps=>UL (t7 ρ ps.toList) (qC T t)
 | .buildSlice t n ps=>UM base n (t7 ρ ps.toList) (qC T t)
 | .load t a=>PC H (qC T t) (ρ a)
 | .store t a x=>PI base H (qC T t) (ρ a) (LQ (qC T t) (ρ x))
 | .nilCheck x=>UX (ρ x)
 | .binOp op t x y _=>A3 (a5i (OP op (ρ x) (ρ y)) (U5 (qC T t) op (ρ x) (ρ y)))
 | .unOp op _ x=>A3 (U6 op (ρ x))
 | .convert src dst x=>A3 (a5i (OR (qC T src) (qC T dst) (ρ x)) (U7 T (qC T src) (qC T dst) (ρ x)))
 | .makeFunc (.func f) first caps=>aDM f (H9 (uA ρ caps.toList)) first.toList
 | .slice t x lo hi none=>A3 (U8 (qC T t) (ρ x) (xP ρ lo) (xP ρ hi))
 | .fieldAddr t x f=>UY f (qC T t) (ρ x)
 | .field t x f=>UZ f (qC T t) (ρ x)
 | .indexAddr t x ix=>V0 (qC T t) (ρ x) (ρ ix)
 | .index t x ix=>V1 (qC T t) (ρ x) (ρ ix)
 | .extract x i=>V2 i (ρ x)
 | .makeMap t r=>V7 T base (qC T t) r
 | .range t x=>VA base (qC T t) (ρ x)
 | .next x b=>Q0 H b (ρ x)
 | .lookup t x i ok=>PX T H ok (qC T t) (ρ x) (ρ i)
 | .mapUpdate t m k x=>JD T H (qC T t) (ρ m) (ρ k) (PZ T (qC T t) (ρ x))
 | .insert t m k x=>JD T H (qC T t) (ρ m) (ρ k) (PZ T (qC T t) (ρ x))
 | .call c=>HM T Γ ρ base H c.args c.argTypes c.callee
 |_=>none
@[go_sem] def vT:oZ->oZ
 |(.cond _ d,_)=>(d,none)
 |s=>s
@[go_sem] def wZ (G:Bool):List oZ->List Prop
 |[]=>[]
 |(.cond p _,_)::r=>(G=true->p=true)::wZ G r
 |_::r=>wZ G r
@[go_sem] def a5K (b:Bool):oZ->Option Bool
 |(.val .bool c,_)=>some (c==b)
 |(.cond p (.val .bool c),_)=>some (p&&(c==b))
 |_=>none
@[go_sem] def CD:List Oper->Nat->Option Tmp
 |[],_=>none
 |o::_,0=>o.dst
 |_::r,n+1=>CD r n
@[go_sem] def EI (env:List (Nat×oZ)) (b:Bool):Option Tmp->Option Bool
 |some t=>a5K b (lk env t)
 |none=>none
@[go_sem] theorem aLf (x y:Bool):cond x y false=(x&&y):=by cases x<;>rfl
@[go_sem] theorem aLg (x y:Bool):cond x true y=(x||y):=by cases x<;>rfl
@[go_sem] def a5L (x:Bool):oZ->oZ->Option pC
 |(.val .bool y,_),(.val .bool z,_)=>some ⟨[],(.val .bool (cond x y z),none),[],[]⟩
 |(.cond p (.val .bool y),_),(.val .bool z,_)=>some ⟨[x=true->p=true],(.val .bool (cond x y z),none),[],[]⟩
 |(.val .bool y,_),(.cond p (.val .bool z),_)=>some ⟨[x=false->p=true],(.val .bool (cond x y z),none),[],[]⟩
 |(.cond q (.val .bool y),_),(.cond p (.val .bool z),_)=>some ⟨[x=true->q=true,x=false->p=true],(.val .bool (cond x y z),none),[],[]⟩
 |_,_=>none
@[go_sem] def M3:oZ->oZ->oZ->Option pC
 |(.val .bool x,_),a,b=>a5L x a b
 |_,_,_=>none
@[go_sem] def rK:Op->List Operand
 | .move x| .assign x| .box _ x| .load _ x| .nilCheck x| .unOp _ _ x| .convert _ _ x| .fieldAddr _ x _| .field _ x _| .extract x _=>[x]
 | .build _ ps| .buildSlice _ _ ps=>parts ps.toList
 | .store _ a v| .binOp _ _ a v _| .indexAddr _ a v| .index _ a v=>[a,v]
 | .lookup _ a v _=>[a,v]
 | .range _ x| .next x _=>[x]
 | .mapUpdate _ m k x=>[m,k,x]
 | .insert _ m k x=>[m,k,x]
 | .makeFunc _ _ caps=>caps.toList
 | .slice _ x l h _=>x::pF (opt l) (opt h)
 | .call ⟨.value f,args,_⟩=>f::args.toList
 | .call ⟨_,args,_⟩=>args.toList
 |_=>[]
where
 parts:List (Nat×Operand)->List Operand
  |[]=>[]
  |(_,x)::r=>x::parts r
 opt:Option Operand->List Operand
  |some x=>[x]
  |none=>[]
attribute [go_sem] rK.parts rK.opt
@[go_sem] def JE (l:List Prop):Option pC->Option pC
 |some e=>some ⟨pF l e.side,e.slot,e.upd,e.rds⟩
 |none=>none
@[go_sem] def M4 (G:Bool):List Prop->List Prop
 |[]=>[]
 |p::r=>(G=true->p)::M4 G r
@[go_sem] def FT (G:Bool) (l:List Prop):Option pC->Option pC
 |some ⟨side,(d,_),[],rds⟩=>some ⟨pF l (M4 G side),(.cond G d,none),[],rds⟩
 |some ⟨side,s,u::us,rds⟩=>some ⟨(G=true)::pF l (M4 G side),s,u::us,rds⟩
 |none=>none
@[go_sem] def B3 (env:List (Nat×oZ)):List Operand->List oZ
 |[]=>[]
 |x::r=>sM env x::B3 env r
@[go_sem] def JF (T:rO) (Γ:sZ) (o:Oper) (s:St):Option Bool->Op->Option pC
 |some G,.pick c a b=>FT G (wZ G [sM s.env c]) (M3 (vT (sM s.env c)) (sM s.env a) (sM s.env b))
 |some G,op=>FT G (wZ G (B3 s.env (rK op))) (t6 T Γ o.type (fun x=>vT (sM s.env x)) s.nb s.H op)
 |none,_=>none
@[go_sem] def JG (T:rO) (Γ:sZ) (o:Oper) (s:St):Op->Option pC
 | .pick c a b=>M3 (sM s.env c) (sM s.env a) (sM s.env b)
 |op=>JE (wZ true (B3 s.env (rK op))) (t6 T Γ o.type (fun x=>vT (sM s.env x)) s.nb s.H op)
@[go_sem] def FU (np:Nat):List (Nat×oX)->Bool
 |[]=>true
 |(i,.cells _ _ _)::r=>if np<=i then FU np r else false
 |_::r=>FU np r
@[go_sem] def a5M (np:Nat) (e:pC):Bool->Option pC
 |true=>if FU np e.upd=true then some e else none
 |false=>some e
@[go_sem] def VC (np:Nat):Option pC->Option pC
 |some e=>a5M np e (FN e.rds)
 |none=>none
@[go_sem] def JH (T:rO) (Γ:sZ) (ops:List Oper) (o:Oper) (s:St):Option pC:=
 match o.guard with
 |none=>JG T Γ o s o.op
 |some (j,b)=>JF T Γ o s (EI s.env b (CD ops j)) o.op
@[go_sem] def DA (T:rO) (Γ:sZ) (ops:List Oper) (o:Oper) (s:St):Option pC:=VC s.np (JH T Γ ops o s)
@[go_sem] def sQ:Option Tmp->oZ->List (Nat×oZ)->List (Nat×oZ)
 |some d,s,env=>(d,s)::env
 |none,_,env=>env
structure uP where
 s:St
 side:List Prop
 es:List pC
@[go_sem] def FV (N:Nat):Option Tmp->Bool
 |some d=>decide (d<N)
 |none=>true
@[go_sem] def FW (n:Nat):List (Nat×oX)->Bool
 |[]=>true
 |(i,_)::r=>decide (i<n)&&FW n r
@[go_sem] def CE (i:Nat):List Nat->Bool
 |[]=>false
 |j::r=>if j=i then BO i r else CE i r
@[go_sem] def HN (H U:List (Nat×oX)) (rds:List Nat):List (Nat×oX)->List Prop
 |[]=>[]
 |(i,_)::r=>if CE i rds=true then(p9 U i=p9 H i)::HN H U rds r else HN H U rds r
@[go_sem] def JI (rds:List Nat):List (Nat×oX)->List (Nat×oX)
 |[]=>[]
 |(i,b)::r=>if CE i rds=true then JI rds r else(i,b)::JI rds r
@[go_sem] def BQ (e:pC):List (Nat×oX):=JI e.rds e.upd
@[go_sem] def VD (o:Oper) (a:uP):Option pC->Option uP
 |some e=>if (FV a.s.N o.dst&&FW (a.s.nb+32) e.upd)=true then some ⟨⟨sQ o.dst e.slot a.s.env,pF e.upd a.s.H,a.s.nb+32,a.s.N,a.s.np⟩,pF a.side (pF (HN a.s.H e.upd e.rds e.upd) e.side),e::a.es⟩ else none
 |none=>none
@[go_sem] def uQ (T:rO) (Γ:sZ) (ops:List Oper):List Oper->Option uP->Option uP
 |[],a=>a
 |o::r,some a=>uQ T Γ ops r (VD o a (DA T Γ ops o a.s))
 |_::_,none=>none
@[go_sem] def M5:List (Nat×oX)->List Nat->Bool
 |[],_=>false
 |(i,_)::r,l=>l.contains i||M5 r l
@[go_sem] def EJ (a b:pC):Bool:= !M5 (BQ a) (pF b.rds (pB b.upd))&& !M5 (BQ b) a.rds
def HO (lo:Nat):List (Nat×oX)->Bool
 |[]=>true
 |(i,_)::r=>(decide (i<lo)||decide (lo+32<=i))&&HO lo r
def Q1 (ops:Array Oper) (bs:List Nat) (nb i:Nat) (o:Oper) (e:pC):List Oper->List pC->Nat->Bool
 |p::ps,f::fs,j=>((bs.getD j 0).testBit i||(o.apart ops p&&EJ e f&&HO (nb+32*i) f.upd))&&Q1 ops bs nb i o e ps fs (j+1)
 |_,_,_=>true
def Q2 (ops:Array Oper) (bs:List Nat) (nb:Nat):List Oper->List pC->Nat->Bool
 |o::os,e::es,i=>Q1 ops bs nb i o e os es (i+1)&&Q2 ops bs nb os es (i+1)
 |_,_,_=>true
def Q3:List Oper->Nat->Bool
 |[],_=>true
 |o::r,i=>o.after.toList.all (fun e=> !Region.binds .any e||decide (e.on<i))&&Q3 r (i+1)
def DB (ops:Array Oper) (nb:Nat) (es:List pC):Bool:=Q3 ops.toList 0&&Q2 ops (Region.before ops).toList nb ops.toList es 0
@[go_sem] def a5N (ops:Array Oper) (nb:Nat):Option uP->Option uP
 |some a=>if DB ops nb a.es.reverse then some a else none
 |none=>none
@[go_sem] def M6 (T:rO) (Γ:sZ) (ops:Array Oper) (s:St):Bool->Option uP
 |true=>a5N ops s.nb (uQ T Γ ops.toList ops.toList (some ⟨s,[],[]⟩))
 |false=>uQ T Γ ops.toList ops.toList (some ⟨s,[],[]⟩)
inductive Ex where
 |normal|exit (id:Nat) |ret
structure uL where
 slots:List Nat
 ids:List (Nat×Nat):=[]
@[go_sem] def vB:List (Nat×Nat)->Nat->Option Nat
 |[],_=>none
 |(n,o)::r,k=>if o=k then some n else vB r k
@[go_sem] def a5O (m:List (Nat×Nat)):Option (Nat×Nat)->Option (Nat×Nat)
 |some (i,o)=>(vB m i).map fun j=>(j,o)
 |none=>none
@[go_sem] def B4 (m:List (Nat×Nat)):List (Nat×Nat)->Option (List (Nat×Nat))
 |[]=>some []
 |(i,o)::r=>renCons (vB m i) o (B4 m r)
where
 renCons:Option Nat->Nat->Option (List (Nat×Nat))->Option (List (Nat×Nat))
  |some j,o,some r=>some ((j,o)::r)
  |_,_,_=>none
attribute [go_sem] B4.renCons
@[go_sem] def a5P (m:List (Nat×Nat)):Option Nat->Option Nat
 |some k=>vB m k
 |none=>none
@[go_sem] def aDO (n:Nat):Option Nat->oZ
 |some k=>(.own k n,none)
 |none=>(.any,none)
@[go_sem] def a5Q (m:List (Nat×Nat)):Option (Nat×List (Nat×Nat))->Option (Option (Nat×List (Nat×Nat)))
 |none=>some none
 |some (f,l)=>(B4 m l).map fun l'=>some (f,l')
@[go_sem] def Q4 (m:List (Nat×Nat)):Option (Nat×Nat)->Option (Option (Nat×Nat))
 |none=>some none
 |some (i,o)=>(vB m i).map fun j=>some (j,o)
@[go_sem] def a5R (m:List (Nat×Nat)):Option Nat->Option (Option Nat)
 |none=>some none
 |some i=>(vB m i).map some
@[go_sem] def a5S (m:List (Nat×Nat)):Option (Nat×Nat)->Option (Option (Nat×Nat))
 |none=>some none
 |some (k,n)=>(vB m k).map fun j=>some (j,n)
@[go_sem] def xQ (m:List (Nat×Nat)):(t:Ty)->t.den->Option t.den
 | .ref,x=>Q4 m x
 | .clo,x=>a5Q m x
 | .mp,x=>a5R m x
 | .pair a b,x=>HC (if a.pure=true then some x.1 else xQ m a x.1) (if b.pure=true then some x.2 else xQ m b x.2)
 | .list t,x=>if t.pure=true then some x else none
 | .bool,x=>some x
 | .int _,x=>some x
 | .str,x=>some x
 | .unit,x=>some x
 | .rl _ _,x=>a5S m x
 | .fn,x=>some x
 | .mref,x=>Q4 m x
@[go_sem] def yM (m:List (Nat×Nat)):oZ->oZ
 |(.own k n,_)=>aDO n (vB m k)
 |(.val .ref none,_)=>(.val .ref none,none)
 |(.val .ref (some p),_)=>refSlot (a5O m (some p))
 |(.val .clo (some (f,l)),_)=>cloSlot f (B4 m l)
 |(.val .mp (some i),_)=>mpSlot (vB m i)
 |(.val t x,k)=>if t.pure then(.val t x,a5P m (EB t k)) else valSlot t (xQ m t x)
 |(.at t x,_)=>if t.pure then(.at t x,none) else(.any,none)
 |_=>(.any,none)
where
 refSlot:Option (Nat×Nat)->oZ
  |some p=>(.val .ref (some p),none)
  |none=>(.any,none)
 cloSlot (f:Nat):Option (List (Nat×Nat))->oZ
  |some l=>(.val .clo (some (f,l)),none)
  |none=>(.any,none)
 valSlot (t:Ty):Option t.den->oZ
  |some y=>(.val t y,none)
  |none=>(.any,none)
 mpSlot:Option Nat->oZ
  |some j=>(.val .mp (some j),none)
  |none=>(.any,none)
attribute [go_sem] yM.refSlot yM.cloSlot yM.mpSlot yM.valSlot
@[go_sem] def Q5 (q j:Nat):List (Nat×Nat)->List (Nat×Nat)
 |[]=>[(q,j)]
 |(a,b)::r=>if q<=a then(q,j)::(a,b)::r else(a,b)::Q5 q j r
@[go_sem] def HP (m:List (Nat×Nat)):List (Nat×Nat)->List (Nat×Nat)
 |[]=>[]
 |(q,k)::r=>renTok1 q (vB m k) (HP m r)
where
 renTok1 (q:Nat):Option Nat->List (Nat×Nat)->List (Nat×Nat)
  |some j,r=>Q5 q j r
  |none,r=>r
attribute [go_sem] HP.renTok1
@[go_sem] def VE (t:Ty) (toks:List (Nat×Nat)):Option t.den->oX
 |some y=> .cells t y toks
 |none=> .dead
@[go_sem] def FX (m:List (Nat×Nat)):Option oX->oX
 |some (.cells t x toks)=>if t.pure then .cells t x (HP m toks) else VE t (HP m toks) (xQ m t x)
 |some (.grow e c n)=> .grow e c n
 |some (.row e t l n)=>if t.pure then .row e t l n else .dead
 |some (.map k v l)=>if k.pure&&v.pure then .map k v l else .dead
 |some (.iter s p)=> .iter s p
 |_=> .dead
@[go_sem] def M7 (m:List (Nat×Nat)) (env:List (Nat×oZ)):List Nat->List (Nat×oZ)
 |[]=>[]
 |t::r=>(t,yM m (lk env t))::M7 m env r
@[go_sem] def Q6 (m:List (Nat×Nat)) (H:List (Nat×oX)):List (Nat×Nat)->List (Nat×oX)
 |[]=>[]
 |(n,o)::r=>(n,FX m (p9 H o))::Q6 m H r
@[go_sem] def Q7:List (Nat×Nat)->Nat
 |[]=>0
 |(n,_)::r=>max (n+1) (Q7 r)
@[go_sem] def JJ (n o:Nat):List (Nat×Nat)->Bool
 |[]=>false
 |(n',o')::r=>decide (n'=n)||decide (o'=o)||JJ n o r
@[go_sem] def vU (np:Nat):List (Nat×Nat)->Bool
 |[]=>true
 |(n,o)::r=>(decide (np<=n)||decide (n=o))&& !JJ n o r&&vU np r
@[go_sem] def M8 (s:St) (k:uL):Bool->St
 |true=>⟨M7 k.ids s.env k.slots,Q6 k.ids s.H k.ids,max s.np (Q7 k.ids),s.N,s.np⟩
 |false=>⟨[],[],s.nb,s.N,s.np⟩
@[go_sem] def St.keep (s:St) (k:uL):St:=M8 s k (vU s.np k.ids)
@[go_sem] def qE:List Prop->Prop
 |[]=>True
 |[p]=>p
 |p::q::r=>p/\qE (q::r)
@[go_sem] def a5T (Q:Ex->St->Prop):Option uP->Prop
 |some a=>qE a.side/\Q .normal a.s
 |none=>False
@[go_sem] def a5U (A B:Prop):oZ->Prop
 |(.val .bool x,_)=>(x=true->A)/\(x=false->B)
 |(.flag p q,_)=>(p->A)/\(q->B)
 |_=>False
@[go_sem] def M9 (f:St->Prop) (Q:Ex->St->Prop):Ex->St->Prop
 | .normal,s=>f s
 | .exit j,s=>Q (.exit j) s
 | .ret,s=>Q .ret s
@[go_sem] def FY (id:Nat) (Q:Ex->St->Prop):Ex->St->Prop
 | .normal,s=>Q .normal s
 | .exit j,s=>if j=id then Q .normal s else Q (.exit j) s
 | .ret,s=>Q .ret s
@[go_sem] def aDP (I:St->Prop) (μ:St->Nat) (m:Nat) (Q:Ex->St->Prop):Ex->St->Prop
 | .normal,s=> ∃k:uL,I (s.keep k)/\μ (s.keep k)<m
 | .exit j,s=>Q (.exit j) s
 | .ret,s=>Q .ret s
def uR (T:rO) (Γ:sZ):Code->St->(Ex->St->Prop)->Prop
 | .skip,s,Q=>Q .normal s
 | .label _,s,Q=>Q .normal s
 | .region _ ops draw,s,Q=>a5T Q (M6 T Γ ops s draw)
 | .seq a b,s,Q=>uR T Γ a s (M9 (fun s'=>uR T Γ b s' Q) Q)
 | .cond c a b,s,Q=>a5U (uR T Γ a s Q) (uR T Γ b s Q) (sM s.env c)
 | .block id c,s,Q=>uR T Γ c s (FY id Q)
 | .loop c,s,Q=> ∃(k:uL) (I:St->Prop) (μ:St->Nat),I (s.keep k)/\∀s,I s->uR T Γ c s (aDP I μ (μ s) Q)
 | .exit id,s,Q=>Q (.exit id) s
 | .ret,s,Q=>Q .ret s
 |_,_,_=>False
attribute [go_sem] Ty.list.injEq Ty.pair.injEq Ty.int.injEq
section
variable {T:rO}{Γ:sZ}{s:St}{Q:Ex->St->Prop}
theorem aDQ {id:Nat}{ops:Array Oper}{a:uP}(h:uQ T Γ ops.toList ops.toList (some ⟨s,[],[]⟩)=some a) (hp:qE a.side) (hq:Q .normal a.s):uR T Γ (.region id ops false) s Q:=by
 unfold uR M6;rw[h];exact⟨hp,hq⟩
theorem aDR {id:Nat}{ops:Array Oper}{a:uP}(h:uQ T Γ ops.toList ops.toList (some ⟨s,[],[]⟩)=some a) (hf:DB ops s.nb a.es.reverse=true) (hp:qE a.side) (hq:Q .normal a.s):uR T Γ (.region id ops true) s Q:=by
 unfold uR M6;rw[h];show a5T Q (if DB ops s.nb a.es.reverse=true then some a else none);rw[aMI hf];exact⟨hp,hq⟩
end
end Go.Proofs.YtbbpilohihldiaaGreatDoor.Vc
namespace Go.Proofs.YtbbpilohihldiaaGreatDoor.Vc
open Go.RowKit
abbrev qO:=List (Nat×oX)
structure Pl where
 b:Nat
 o:Nat
 k:Option (TypeId×Nat):=none
structure Gh where
 S:Nat->Nat->Prop
 J:Nat->Option Pl
 cur:Nat->Nat->Option Value
def wH {α:Type}(R:α->List Value->Prop) (w:World) (S:Nat->Nat->Prop) (c b:Nat):Nat->List α->Prop
 |_,[]=>True
 |o,x::xs=>(∃cs,cs.length=c/\w.rangeAt b o cs/\(∀j,j<c->S b (o+j))/\R x cs)/\wH R w S c b (o+c) xs
def wA (g:Gh):List (Nat×Nat)->List Value->Prop
 |[],vs=>vs=[]
 |(i,o)::l,vs=> ∃p vs',g.J i=some p/\vs= .pointer (some ⟨p.1,p.2+o,none⟩)::vs'/\wA g l vs'
def MA (g:Gh):Option (Nat×Nat)->List Value->Prop
 |none,cs=>cs=[.pointer none]
 |some (i,o),cs=> ∃p,g.J i=some p/\cs=[.pointer (some ⟨p.1,p.2+o,none⟩)]
def MB (g:Gh):Option (Nat×List (Nat×Nat))->List Value->Prop
 |none,cs=>cs=[.nilFunc]
 |some (f,l),cs=> ∃vs,wA g l vs/\cs=[.func (.func f) #[] vs.toArray]
def JK (g:Gh):Option Nat->List Value->Prop
 |none,cs=>cs=[.map none]
 |some i,cs=> ∃p,g.J i=some p/\cs=[.map (some p.1)]
def VF (k:Option (TypeId×Nat)) (o:Nat):Prop:=o=0/\∃e,UF e=true/\k=some (e,2)
def BR (g:Gh):Option (Nat×Nat)->List Value->Prop
 |none,cs=>cs=[.slice none 0 0]
 |some (k,n),cs=> ∃v,g.cur k n=some v/\cs=[v]/\((v= .slice none 0 0/\n=0)\/∃b cap,v= .slice (some ⟨b,0,none⟩) n cap/\n<=cap)
def MC (g:Gh):Option (Nat×Nat)->List Value->Prop
 |none,cs=>cs=[.pointer none]
 |some (i,o),cs=> ∃p,g.J i=some p/\VF p.3 (p.2+o)/\(cs=[.pointer none]\/cs=[.pointer (some ⟨p.1,p.2+o,none⟩)])
def a5V:Option Nat->List Value->Prop
 |none,cs=>cs=[.nilFunc]
 |some f,cs=>cs=[.func (.func f) #[] #[]]
def Rd (g:Gh) (w:World):(t:Ty)->t.den->List Value->Prop
 | .bool,x,cs=>cs=[.bool x]
 | .int k,n,cs=>cs=[.int k n]
 | .str,l,cs=>cs=[.string ⟨List.toArray l⟩]
 | .list t,l,cs=> ∃a cap,cs=[.slice a (List.length l) cap]/\List.length l<=cap/\(l=[]\/∃b o,a=some ⟨b,o,none⟩/\wH (Rd g w t) w g.S t.cells b o l)
 | .unit,_,cs=>cs=[]
 | .pair s t,x,cs=> ∃c1 c2,cs=c1++c2/\Rd g w s x.1 c1/\Rd g w t x.2 c2
 | .ref,x,cs=>MA g x cs
 | .clo,x,cs=>MB g x cs
 | .mp,x,cs=>JK g x cs
 | .rl _ _,x,cs=>BR g x cs
 | .fn,x,cs=>a5V x cs
 | .mref,x,cs=>MC g x cs
def rZ (g:Gh) (w:World) (t:Ty) (x:t.den) (v:Value):Prop:=
 (t.isRow=true/\∃cs:List Value,v= .agg cs.toArray/\Rd g w t x cs)\/(t.isRow=false/\Rd g w t x [v])
def vV:Ty->List Value->Prop
 | .list _,cs=>cs=[.slice none 0 0]
 | .pair a b,cs=> ∃c1 c2,cs=c1++c2/\c1.length=a.cells/\vV a c1/\vV b c2
 |_,_=>True
def BS (g:Gh) (t:Ty) (x:t.den) (v:Value):Option Nat->Prop
 |none=>True
 |some k=>match t,x with
  | .list _,l=>g.cur k (List.length l)=some v
  | .pair a b,_=>vV (.pair a b) v.cells.toList
  |_,_=>False
def JL (g:Gh) (w:World):List ((Σ t:Ty,t.den)×Option Nat)->List Value->Prop
 |[],vs=>vs=[]
 |(⟨t,x⟩,k)::l,vs=> ∃v vs',vs=v::vs'/\rZ g w t x v/\BS g t x v k/\JL g w l vs'
def yN (g:Gh) (w:World):DV->Value->Prop
 | .any,_=>True
 | .nilS,v=>v= .slice none 0 0
 | .val t x,v=>rZ g w t x v
 | .at t x,v=> ∃b o cs,v= .pointer (some ⟨b,o,none⟩)/\w.rangeAt b o cs/\(∀j,j<t.cells->g.S b (o+j))/\Rd g w t x cs
 | .tup l,v=> ∃vs:List Value,v= .tuple vs.toArray/\JL g w l vs
 | .cond p d,v=>(p=true->yN g w d v)/\(p=false->v=undef)
 | .flag p q,v=> ∃b,v= .bool b/\(b=true->p)/\(b=false->q)
 | .own k n,v=>g.cur k n=some v/\((v= .slice none 0 0/\n=0)\/∃b cap,v= .slice (some ⟨b,0,none⟩) n cap/\n<=cap)
 | .nxt b p c,v=>(b=true->v= .tuple #[.bool true,.int .i64 p,.int .i32 c])/\(b=false->v= .tuple #[.bool false])
 | .elt k n c i o,v=> ∃b cap,g.cur k n=some (.slice (some ⟨b,0,none⟩) n cap)/\0<=i/\i<(n:Int)/\v= .pointer (some ⟨b,i.toNat*c+o,none⟩)
def pW (g:Gh) (w:World) (s:oZ) (v:Value):Prop:=
 yN g w s.1 v/\match s with
  |(_,none)=>True
  |(.val t x,some k)=>BS g t x v (some k)
  |(_,some _)=>False
structure Le (g:Gh) (w:World) (g':Gh) (w':World):Prop where
 S: ∀b o,g.S b o->g'.S b o
 cell: ∀b o,g.S b o->w'.cell? ⟨b,o,none⟩=w.cell? ⟨b,o,none⟩
 J: ∀i p,g.J i=some p->g'.J i=some p
 cur: ∀k n v,g.cur k n=some v->g'.cur k n=some v
theorem Le.refl (g:Gh) (w:World):Le g w g w:=⟨fun _ _ h=>h,fun _ _ _=>rfl,fun _ _ h=>h,fun _ _ _ h=>h⟩
theorem Le.trans {g g' g'':Gh}{w w' w'':World}(h:Le g w g' w') (k:Le g' w' g'' w''):Le g w g'' w'':=
 ⟨fun b o x=>k.S b o (h.S b o x),fun b o x=>(k.cell b o (h.S b o x)).trans (h.cell b o x),fun i p x=>k.J i p (h.J i p x),fun i n v x=>k.cur i n v (h.cur i n v x)⟩
theorem VG {g g':Gh}(hJ: ∀i p,g.J i=some p->g'.J i=some p): ∀{l:List (Nat×Nat)}{vs:List Value},wA g l vs->wA g' l vs
 |[],_,h=>h
 |(_,_)::_,_,⟨p,vs',h1,h2,h3⟩=>⟨p,vs',hJ _ _ h1,h2,VG hJ h3⟩
theorem aDS {g g':Gh}(hJ: ∀i p,g.J i=some p->g'.J i=some p): ∀{x:Option (Nat×Nat)}{cs:List Value},MA g x cs->MA g' x cs
 |none,_,h=>h
 |some (_,_),_,⟨p,h1,h2⟩=>⟨p,hJ _ _ h1,h2⟩
theorem aDT {g g':Gh}(hJ: ∀i p,g.J i=some p->g'.J i=some p): ∀{x:Option (Nat×List (Nat×Nat))}{cs:List Value},MB g x cs->MB g' x cs
 |none,_,h=>h
 |some (_,_),_,⟨vs,h1,h2⟩=>⟨vs,VG hJ h1,h2⟩
theorem aDU {g g':Gh}(hJ: ∀i p,g.J i=some p->g'.J i=some p): ∀{x:Option Nat}{cs:List Value},JK g x cs->JK g' x cs
 |none,_,h=>h
 |some _,_,⟨p,h1,h2⟩=>⟨p,hJ _ _ h1,h2⟩
theorem aDV {g g':Gh}(hc: ∀k n v,g.cur k n=some v->g'.cur k n=some v): ∀{x:Option (Nat×Nat)}{cs:List Value},BR g x cs->BR g' x cs
 |none,_,h=>h
 |some (_,_),_,⟨v,h1,h2⟩=>⟨v,hc _ _ _ h1,h2⟩
theorem aDW {g g':Gh}(hJ: ∀i p,g.J i=some p->g'.J i=some p): ∀{x:Option (Nat×Nat)}{cs:List Value},MC g x cs->MC g' x cs
 |none,_,h=>h
 |some (_,_),_,⟨p,h1,h2⟩=>⟨p,hJ _ _ h1,h2⟩
theorem VH {α:Type}{R R':α->List Value->Prop}{w w':World}{S S':Nat->Nat->Prop}{c b:Nat}(hR: ∀x cs,R x cs->R' x cs) (hS: ∀o,S b o->S' b o)
  (hc: ∀o,S b o->w'.cell? ⟨b,o,none⟩=w.cell? ⟨b,o,none⟩): ∀{l:List α}{o:Nat},wH R w S c b o l->wH R' w' S' c b o l
 |[],_,_=>trivial
 |_::_,o,⟨⟨cs,h1,h2,h3,h4⟩,h5⟩=>⟨⟨cs,h1,fun j v hv=>by
   have hj:j<c:=h1▸(aMX.1 hv).1;rw[hc _ (h3 j hj)];exact h2 j v hv,fun j hj=>hS _ (h3 j hj),hR _ _ h4⟩,VH hR hS hc h5⟩
theorem uX {g g':Gh}{w w':World}(h:Le g w g' w'): ∀{t:Ty}{x:t.den}{cs:List Value},Rd g w t x cs->Rd g' w' t x cs
 | .bool,_,_,r=>r
 | .int _,_,_,r=>r
 | .str,_,_,r=>r
 | .unit,_,_,r=>r
 | .ref,_,_,r=>aDS h.J r
 | .clo,_,_,r=>aDT h.J r
 | .mp,_,_,r=>aDU h.J r
 | .rl _ _,_,_,r=>aDV h.cur r
 | .fn,_,_,r=>r
 | .mref,_,_,r=>aDW h.J r
 | .pair _ _,_,_,⟨c1,c2,e,r1,r2⟩=>⟨c1,c2,e,uX h r1,uX h r2⟩
 | .list _,_,_,⟨a,cap,e,hle,hl⟩=>⟨a,cap,e,hle,hl.imp id fun⟨b,o,ea,hr⟩=>⟨b,o,ea,VH (fun _ _=>uX h) (fun _=>h.S _ _) (fun _=>h.cell _ _) hr⟩⟩
theorem rP {g:Gh}{w:World}: ∀{t:Ty}{x:t.den}{cs:List Value},Rd g w t x cs->cs.length=t.cells
 | .bool,_,_,r=>by cases r;rfl
 | .int _,_,_,r=>by cases r;rfl
 | .str,_,_,r=>by cases r;rfl
 | .unit,_,_,r=>by cases r;rfl
 | .ref,none,_,r=>by cases r;rfl
 | .ref,some (_,_),_,⟨_,_,e⟩=>by cases e;rfl
 | .clo,none,_,r=>by cases r;rfl
 | .clo,some (_,_),_,⟨_,_,e⟩=>by cases e;rfl
 | .mp,none,_,r=>by cases r;rfl
 | .mp,some _,_,⟨_,_,e⟩=>by cases e;rfl
 | .fn,none,_,r=>by cases r;rfl
 | .fn,some _,_,r=>by cases r;rfl
 | .rl _ _,none,_,r=>by cases r;rfl
 | .rl _ _,some (_,_),_,⟨_,_,e,_⟩=>by cases e;rfl
 | .mref,none,_,r=>by cases r;rfl
 | .mref,some (_,_),_,⟨_,_,_,e⟩=>by rcases e with e|e<;>(cases e;rfl)
 | .pair _ _,_,_,⟨c1,c2,e,r1,r2⟩=>by rw[e,aMN,rP r1,rP r2];rfl
 | .list _,_,_,⟨_,_,e,_,_⟩=>by cases e;rfl
theorem Q8 {g g':Gh}{w w':World}(h:Le g w g' w') {t:Ty}{x:t.den}{v:Value}(r:rZ g w t x v):rZ g' w' t x v:=
 r.imp (fun⟨a,cs,e,q⟩=>⟨a,cs,e,uX h q⟩) (fun⟨a,q⟩=>⟨a,uX h q⟩)
theorem a5W {g g':Gh}{w w':World}(h:Le g w g' w') {t:Ty}{x:t.den}{v:Value}{k:Option Nat}(r:BS g t x v k):BS g' t x v k:=by
 cases k with
 |none=>trivial
 |some k=>
  cases t with
  |list u=>exact h.cur _ _ _ r
  |pair a b=>exact r
  |_=>exact r.elim
theorem a5X {g g':Gh}{w w':World}(h:Le g w g' w'): ∀{l:List ((Σ t:Ty,t.den)×Option Nat)}{vs:List Value},JL g w l vs->JL g' w' l vs
 |[],_,r=>r
 |(⟨_,_⟩,_)::_,_,⟨v,vs',e,r1,r2,r3⟩=>⟨v,vs',e,Q8 h r1,a5W h r2,a5X h r3⟩
theorem a5Y {g g':Gh}{w w':World}(h:Le g w g' w'): ∀{d:DV}{v:Value},yN g w d v->yN g' w' d v
 | .any,_,r=>r
 | .nilS,_,r=>r
 | .val _ _,_,r=>Q8 h r
 | .at t _,_,⟨b,o,cs,e,h1,h2,h3⟩=>⟨b,o,cs,e,fun j v hv=>by
   by_cases hj:j<t.cells
   ·rw[h.cell _ _ (h2 j hj)];exact h1 j v hv
   ·exact absurd (aMX.1 hv).1 (by rw[rP h3];exact hj),fun j hj=>h.S _ _ (h2 j hj),uX h h3⟩
 | .tup _,_,⟨vs,e,r⟩=>⟨vs,e,a5X h r⟩
 | .cond _ _,_,⟨r1,r2⟩=>⟨fun p=>a5Y h (r1 p),r2⟩
 | .flag _ _,_,r=>r
 | .own _ _,_,⟨h1,h2⟩=>⟨h.cur _ _ _ h1,h2⟩
 | .nxt _ _ _,_,r=>r
 | .elt _ _ _ _ _,_,⟨b,cap,h1,h2⟩=>⟨b,cap,h.cur _ _ _ h1,h2⟩
theorem A9 {g g':Gh}{w w':World}(h:Le g w g' w') {s:oZ}{v:Value}(r:pW g w s v):pW g' w' s v:=by
 obtain⟨d,k⟩:=s;refine⟨a5Y h r.1,?_⟩;have r2:=r.2;cases k with
 |none=>trivial
 |some k=>
  cases d with
  |val t x=>exact a5W h r2
  |_=>exact r2.elim
theorem zP {g:Gh}{w:World}: ∀{t:Ty}{x:t.den}{cs:List Value},Rd g w t x cs->∀v∈cs,v.oneCell'=true
 | .bool,_,_,r=>by cases r;intro v hv;simp at hv;subst hv;rfl
 | .int _,_,_,r=>by cases r;intro v hv;simp at hv;subst hv;rfl
 | .str,_,_,r=>by cases r;intro v hv;simp at hv;subst hv;rfl
 | .unit,_,_,r=>by cases r;intro v hv;simp at hv
 | .ref,none,_,r=>by cases r;intro v hv;simp at hv;subst hv;rfl
 | .ref,some (_,_),_,⟨_,_,e⟩=>by cases e;intro v hv;simp at hv;subst hv;rfl
 | .clo,none,_,r=>by cases r;intro v hv;simp at hv;subst hv;rfl
 | .clo,some (_,_),_,⟨_,_,e⟩=>by cases e;intro v hv;simp at hv;subst hv;rfl
 | .mp,none,_,r=>by cases r;intro v hv;simp at hv;subst hv;rfl
 | .mp,some _,_,⟨_,_,e⟩=>by cases e;intro v hv;simp at hv;subst hv;rfl
 | .fn,none,_,r=>by cases r;intro v hv;simp at hv;subst hv;rfl
 | .fn,some _,_,r=>by cases r;intro v hv;simp at hv;subst hv;rfl
 | .rl _ _,none,_,r=>by cases r;intro v hv;simp at hv;subst hv;rfl
 | .rl _ _,some (_,_),_,⟨_,_,e,hs⟩=>by
  cases e;intro v hv;simp at hv;subst hv;rcases hs with⟨rfl,_⟩ |⟨_,_,rfl,_⟩<;>rfl
 | .mref,none,_,r=>by cases r;intro v hv;simp at hv;subst hv;rfl
 | .mref,some (_,_),_,⟨_,_,_,e⟩=>by rcases e with e|e<;>(cases e;intro v hv;simp at hv;subst hv;rfl)
 | .pair _ _,_,_,⟨c1,c2,e,r1,r2⟩=>by
  subst e;intro v hv;rcases aNE.1 hv with h|h
  ·exact zP r1 v h
  ·exact zP r2 v h
 | .list _,_,_,⟨_,_,e,_,_⟩=>by cases e;intro v hv;simp at hv;subst hv;rfl
theorem uJ {g g':Gh}{w:World}(hS:g'.S=g.S): ∀{t:Ty}{x:t.den}{cs:List Value},t.pure=true->Rd g w t x cs->Rd g' w t x cs
 | .bool,_,_,_,r=>r
 | .int _,_,_,_,r=>r
 | .str,_,_,_,r=>r
 | .unit,_,_,_,r=>r
 | .ref,_,_,h,_=>by simp [Ty.pure] at h
 | .clo,_,_,h,_=>by simp [Ty.pure] at h
 | .mp,_,_,h,_=>by simp [Ty.pure] at h
 | .rl _ _,_,_,h,_=>by simp [Ty.pure] at h
 | .fn,_,_,_,r=>r
 | .mref,_,_,h,_=>by simp [Ty.pure] at h
 | .pair _ _,_,_,h,⟨c1,c2,e,r1,r2⟩=>by
  simp only[Ty.pure,aMS] at h;exact⟨c1,c2,e,uJ hS h.1 r1,uJ hS h.2 r2⟩
 | .list _,_,_,h,⟨a,cap,e,hle,hl⟩=>by
  simp only[Ty.pure] at h;exact⟨a,cap,e,hle,hl.imp id fun⟨b,o,ea,hr⟩=>⟨b,o,ea,VH (fun _ _ r=>uJ hS h r) (fun _ q=>by rw[hS];exact q) (fun _ _=>rfl) hr⟩⟩
def CF (g:Gh) (w:World) (k v:Ty):List (k.den×v.den)->List MapEntry->Prop
 |[],es=>es=[]
 |(a,b)::l,es=> ∃e es',es=e::es'/\rZ g w k a e.key/\rZ g w v b e.val/\CF g w k v l es'
theorem VI {g g':Gh}{w w':World}(h:Le g w g' w') {k v:Ty}: ∀{l:List (k.den×v.den)}{es:List MapEntry},CF g w k v l es->CF g' w' k v l es
 |[],_,r=>r
 |_::_,_,⟨e,es',h1,h2,h3,h4⟩=>⟨e,es',h1,Q8 h h2,Q8 h h3,VI h h4⟩
theorem a5Z {g g':Gh}{w:World}(hS:g'.S=g.S) {t:Ty}{x:t.den}{v:Value}(hp:t.pure=true) (r:rZ g w t x v):rZ g' w t x v:=
 r.imp (fun⟨a,cs,e,q⟩=>⟨a,cs,e,uJ hS hp q⟩) (fun⟨a,q⟩=>⟨a,uJ hS hp q⟩)
theorem MD {g g':Gh}{w:World}(hS:g'.S=g.S) {k v:Ty}(hk:k.pure=true) (hv:v.pure=true): ∀{l:List (k.den×v.den)}{es:List MapEntry},CF g w k v l es->CF g' w k v l es
 |[],_,r=>r
 |_::_,_,⟨e,es',h1,h2,h3,h4⟩=>⟨e,es',h1,a5Z hS hk h2,a5Z hS hv h3,MD hS hk hv h4⟩
def sC {α:Type}(R:α->List Value->Prop) (c:Nat):List α->List Value->Prop
 |[],cs=>cs=[]
 |x::xs,cs=> ∃c1 c2,cs=c1++c2/\c1.length=c/\R x c1/\sC R c xs c2
theorem FZ {α:Type}{R:α->List Value->Prop}{c:Nat}: ∀{l:List α}{cs:List Value},sC R c l cs->cs.length=l.length*c
 |[],_,h=>by rw[h];simp
 |_::l,_,⟨c1,c2,e,h1,_,h3⟩=>by rw[e,aMN,h1,FZ h3,aMO,aNU];omega
theorem ME {α:Type}{R:α->List Value->Prop}{c:Nat}: ∀{l m:List α}{cs ds:List Value},sC R c l cs->sC R c m ds->sC R c (l++m) (cs++ds)
 |[],_,_,_,h,k=>by rw[h];exact k
 |_::_,_,_,_,⟨c1,c2,e,h1,h2,h3⟩,k=>⟨c1,c2++_,by rw[e,aMU],h1,h2,ME h3 k⟩
theorem B5 {α:Type}{R R':α->List Value->Prop}{c:Nat}(hR: ∀x cs,R x cs->R' x cs): ∀{l:List α}{cs:List Value},sC R c l cs->sC R' c l cs
 |[],_,h=>h
 |_::_,_,⟨c1,c2,e,h1,h2,h3⟩=>⟨c1,c2,e,h1,hR _ _ h2,B5 hR h3⟩
theorem CG {g:Gh}{w:World}{u:Ty}: ∀{t:Ty}{x:t.den}{cs:List Value}{o:Nat}{y:u.den},Rd g w t x cs->pO u t x o=some y->
  ∃c1 c2 c3,cs=c1++c2++c3/\c1.length=o/\Rd g w u y c2:=by
 intro t
 induction t with
 |pair a b iha ihb=>
  intro x cs o y r h;obtain⟨c1,c2,e,r1,r2⟩:=r;have key: ∀o,(if o<a.cells then pO u a x.1 o else pO u b x.2 (o-a.cells))=some y->∃d1 d2 d3,cs=d1++d2++d3/\d1.length=o/\Rd g w u y d2:=by
   intro o h;by_cases ho:o<a.cells
   ·rw[aMI ho] at h;obtain⟨d1,d2,d3,e',hl,hr⟩:=iha r1 h;exact⟨d1,d2,d3++c2,by rw[e,e'];simp,hl,hr⟩
   ·rw[aMK ho] at h;obtain⟨d1,d2,d3,e',hl,hr⟩:=ihb r2 h;refine⟨c1++d1,d2,d3,by rw[e,e'];simp,?_,hr⟩;rw[aMN,hl,rP r1];omega
  cases o with
  |zero=>
   unfold pO at h;by_cases hu:Ty.pair a b=u
   ·rw[aOR hu] at h;subst hu;simp only[sY,aMJ] at h;subst h;exact⟨[],cs,[],by simp,rfl,⟨c1,c2,e,r1,r2⟩⟩
   ·rw[aOq hu] at h;refine key 0 ?_;simpa using h
  |succ o=>exact key (o+1) (by simpa[pO] using h)
 |_=>
  intro x cs o y r h;cases o with
  |zero=>
   unfold pO at h;split at h
   ·rename_i hu;subst hu;simp only[sY,aMJ] at h
    try subst h
    exact⟨[],cs,[],by simp,rfl,r⟩
   ·simp at h
  |succ o=>simp [pO] at h
theorem Q9 {g:Gh}{w:World}{u:Ty}{y:u.den}{cy:List Value}(hy:Rd g w u y cy): ∀{t:Ty}{x z:t.den}{cs:List Value}{o:Nat},Rd g w t x cs->rN u y t x o=some z->
  ∃c1 c2 c3,cs=c1++c2++c3/\c1.length=o/\c2.length=u.cells/\Rd g w t z (c1++cy++c3):=by
 intro t
 induction t with
 |pair a b iha ihb=>
  intro x z cs o r h;obtain⟨c1,c2,e,r1,r2⟩:=r;have key: ∀o,(if o<a.cells then(rN u y a x.1 o).map (fun q=>(q,x.2)) else(rN u y b x.2 (o-a.cells)).map (fun q=>(x.1,q)))=some z->
    ∃d1 d2 d3,cs=d1++d2++d3/\d1.length=o/\d2.length=u.cells/\Rd g w (.pair a b) z (d1++cy++d3):=by
   intro o h;by_cases ho:o<a.cells
   ·rw[aMI ho] at h;obtain⟨q,hq,rfl⟩:=aMZ.1 h;obtain⟨d1,d2,d3,e',hl,hl2,hr⟩:=iha r1 hq;exact⟨d1,d2,d3++c2,by rw[e,e'];simp,hl,hl2,⟨d1++cy++d3,c2,by simp,hr,r2⟩⟩
   ·rw[aMK ho] at h;obtain⟨q,hq,rfl⟩:=aMZ.1 h;obtain⟨d1,d2,d3,e',hl,hl2,hr⟩:=ihb r2 hq;refine⟨c1++d1,d2,d3,by rw[e,e'];simp,?_,hl2,⟨c1,d1++cy++d3,by simp,r1,hr⟩⟩;rw[aMN,hl,rP r1];omega
  cases o with
  |zero=>
   unfold rN at h;by_cases hu:u=Ty.pair a b
   ·rw[aOR hu] at h;subst hu;simp only[sY,aMJ] at h;subst h;exact⟨[],cs,[],by simp,rfl,rP (t:= .pair a b) (x:=x) ⟨c1,c2,e,r1,r2⟩,by simpa using hy⟩
   ·rw[aOq hu] at h;refine key 0 ?_;simpa using h
  |succ o=>exact key (o+1) (by simpa[rN] using h)
 |_=>
  intro x z cs o r h;cases o with
  |zero=>
   unfold rN at h;split at h
   ·rename_i hu;subst hu;simp only[sY,aMJ] at h
    try subst h
    exact⟨[],cs,[],by simp,rfl,rP r,by simpa using hy⟩
   ·simp at h
  |succ o=>simp [rN] at h
theorem aDX {e:Nat}{u:Ty}{kn:Option (Nat×Nat)}: ∀{t:Ty}{x:t.den}{o:Nat}{q: Σ t:Ty,t.den},w8 e u kn t x o=some q->q.1.cells=t.cells:=by
 intro t
 induction t with
 |pair a b iha ihb=>
  intro x o q h;unfold w8 at h;split at h
  ·cases hq:w8 e u kn a x.1 o with
   |none=>rw[hq] at h;cases h
   |some r=>
    obtain⟨a',x'⟩:=r;rw[hq] at h;simp only[UT,aMJ] at h;subst h;have:=iha hq;simp only[Ty.cells] at this⊢;omega
  ·cases hq:w8 e u kn b x.2 (o-a.cells) with
   |none=>rw[hq] at h;cases h
   |some r=>
    obtain⟨b',y'⟩:=r;rw[hq] at h;simp only[UU,aMJ] at h;subst h;have:=ihb hq;simp only[Ty.cells] at this⊢;omega
 |list v=>
  intro x o q h;cases o with
  |zero=>
   simp only[w8] at h;split at h
   ·simp only[aMJ] at h;subst h;rfl
   ·cases h
  |succ o=>simp [w8] at h
 |_=>intro x o q h;cases o<;>simp [w8] at h
theorem aDY {g:Gh}{w:World}{e:Nat}{u:Ty}{kn:Option (Nat×Nat)}{cy:List Value}(hy:BR g kn cy): ∀{t:Ty}{x:t.den}{cs:List Value}{o:Nat}{q: Σ t:Ty,t.den},Rd g w t x cs->w8 e u kn t x o=some q->
  ∃c1 c2 c3,cs=c1++c2++c3/\c1.length=o/\c2.length=1/\Rd g w q.1 q.2 (c1++cy++c3):=by
 intro t
 induction t with
 |pair a b iha ihb=>
  intro x cs o q r h;obtain⟨c1,c2,e1,r1,r2⟩:=r;unfold w8 at h;split at h
  ·cases hq:w8 e u kn a x.1 o with
   |none=>rw[hq] at h;cases h
   |some z=>
    obtain⟨a',x'⟩:=z;rw[hq] at h;simp only[UT,aMJ] at h;subst h;obtain⟨d1,d2,d3,e',hl,hl2,hr⟩:=iha r1 hq;exact⟨d1,d2,d3++c2,by rw[e1,e'];simp,hl,hl2,⟨d1++cy++d3,c2,by simp,hr,r2⟩⟩
  ·cases hq:w8 e u kn b x.2 (o-a.cells) with
   |none=>rw[hq] at h;cases h
   |some z=>
    obtain⟨b',y'⟩:=z;rw[hq] at h;simp only[UU,aMJ] at h;subst h;obtain⟨d1,d2,d3,e',hl,hl2,hr⟩:=ihb r2 hq;refine⟨c1++d1,d2,d3,by rw[e1,e'];simp,?_,hl2,⟨c1,d1++cy++d3,by simp,r1,hr⟩⟩;rw[aMN,hl,rP r1];omega
 |list v=>
  intro x cs o q r h;cases o with
  |zero=>
   simp only[w8] at h;split at h
   ·simp only[aMJ] at h;subst h;exact⟨[],cs,[],by simp,rfl,rP r,by rw[List.nil_append,List.append_nil];exact hy⟩
   ·cases h
  |succ o=>simp [w8] at h
 |_=>intro x cs o q r h;cases o<;>simp [w8] at h
def EK (g:Gh) (t:Ty) (x:t.den) (cs:List Value) (toks:List (Nat×Nat)):Prop:=
 ∀o k,(o,k)∈toks->∃(u:Ty) (l:List u.den) (v:Value),pO (.list u) t x o=some l/\cs[o]? =some v/\g.cur k l.length=some v
def aDZ (w:World) (p:Pl) (n:Nat):Prop:=w.there p.1 p.2 n/\(0<n->∀s,p.3=some s->w.shape? p.1=some s)
theorem CH {w:World}{b:Nat}{s:TypeId×Nat}(h:w.shape? b=some s):b<w.heap.size:=by
 unfold World.shape? at h;cases hb:w.heap[b]? with
 |none=>rw[hb] at h;cases h
 |some x=>exact(aNc.1 hb).1
theorem CI {w w':World}{b:Nat}(h:w'.heap[b]? =w.heap[b]?):w'.shape? b=w.shape? b:=by
 unfold World.shape?;rw[h]
def yO (g:Gh) (w:World) (i:Nat):oX->Prop
 | .cells t x toks=> ∃p cs,g.J i=some p/\Rd g w t x cs/\w.rangeAt p.1 p.2 cs/\aDZ w p t.cells/\(∀j,j<t.cells->¬g.S p.1 (p.2+j))/\EK g t x cs toks
 | .grow e c n=> ∃v xs,g.cur i n=some v/\w.ownsRow 0 e c v n xs/\(∀m,n<m->g.cur i m=none)/\∀b,v.ownBlock=some b->∀o,g.S b o->o<n*c
 | .row e t l n=>l.length=n/\∃v xs,g.cur i n=some v/\w.ownsRow 0 e t.cells v n xs/\sC (Rd g w t) t.cells l xs/\(∀m,n<m->g.cur i m=none)/\∀b,v.ownBlock=some b->∀o,¬g.S b o
 | .map k v l=> ∃p es clock,g.J i=some p/\p.2=0/\w.heap[p.1]? =some (.map es clock)/\CF g w k v l es.toList/\∀o,¬g.S p.1 o
 | .iter s n=> ∃p,g.J i=some p/\p.2=0/\w.heap[p.1]? =some (.stringIter ⟨s.toArray⟩ n)/\∀o,¬g.S p.1 o
 | .dead=>True
def qP (g:Gh) (i:Nat):oX->Nat->Nat->Prop
 | .cells t _ _,b,o=> ∃p,g.J i=some p/\b=p.1/\p.2<=o/\o<p.2+t.cells
 | .grow _ _ n,b,_=> ∃v,g.cur i n=some v/\v.ownBlock=some b
 | .row _ _ _ n,b,_=> ∃v,g.cur i n=some v/\v.ownBlock=some b
 | .map _ _ _,b,_=> ∃p,g.J i=some p/\b=p.1
 | .iter _ _,b,_=> ∃p,g.J i=some p/\b=p.1
 | .dead,_,_=>False
structure rH (g:Gh) (w:World) (H:qO):Prop where
 blk: ∀i b,p9 H i=some b->yO g w i b
 dis: ∀i j bi bj b o,i≠j->p9 H i=some bi->p9 H j=some bj->qP g i bi b o->qP g j bj b o->False
 sl: ∀b o,g.S b o->b<w.heap.size
 tab:H6 w/\∀i blk b o,p9 H i=some blk->qP g i blk b o->NG<=b
def rQ (g:Gh) (H:qO) (ids:List Nat) (b o:Nat):Prop:= ∃i blk,i∈ids/\p9 H i=some blk/\qP g i blk b o
structure Fr (A:Nat->Nat->Prop) (w w':World) (S S':Nat->Nat->Prop):Prop where
 os:w'.os=w.os
 tape:w'.tape=w.tape
 output:w'.output=w.output
 size:w.heap.size<=w'.heap.size
 blk: ∀b,b<w.heap.size->(∀o,¬A b o)->w'.heap[b]? =w.heap[b]?
 cell: ∀b o,b<w.heap.size->¬A b o->w'.cell? ⟨b,o,none⟩=w.cell? ⟨b,o,none⟩/\w'.frozen? ⟨b,o,none⟩=w.frozen? ⟨b,o,none⟩
 new: ∀b o,S' b o->S b o\/w.heap.size<=b\/A b o
 shape: ∀b s,w.shape? b=some s->w'.shape? b=some s\/∀o,A b o
theorem Fr.refl (A:Nat->Nat->Prop) (w:World) (S:Nat->Nat->Prop):Fr A w w S S:=
 ⟨rfl,rfl,rfl,aM2 _,fun _ _ _=>rfl,fun _ _ _ _=>⟨rfl,rfl⟩,fun _ _ h=> .inl h,fun _ _ h=> .inl h⟩
theorem Fr.trans {A B:Nat->Nat->Prop}{w w' w'':World}{S S' S'':Nat->Nat->Prop}(h:Fr A w w' S S') (k:Fr B w' w'' S' S'') (hB: ∀b o,B b o->w.heap.size<=b\/A b o):Fr A w w'' S S'':=by
 refine⟨k.os.trans h.os,k.tape.trans h.tape,k.output.trans h.output,aNC h.size k.size,fun b hb hA=> ?_,fun b o hb hA=> ?_,fun b o hs=> ?_,fun b s hs=> ?_⟩
 ·refine(k.blk b (aNm hb h.size) fun o ho=> ?_).trans (h.blk b hb hA);rcases hB b o ho with h1|h1
  ·omega
  ·exact hA o h1
 ·have h1:=h.cell b o hb hA;have h2:=k.cell b o (aNm hb h.size) (fun ho=>by
   rcases hB b o ho with h1|h1
   ·omega
   ·exact hA h1)
  exact⟨h2.1.trans h1.1,h2.2.trans h1.2⟩
 ·rcases k.new b o hs with h1|h1|h1
  ·exact h.new b o h1
  ·exact .inr (.inl (aNC h.size h1))
  ·exact .inr (hB b o h1)
 ·rcases h.shape b s hs with h1|h1
  ·rcases k.shape b s h1 with h2|h2
   ·exact .inl h2
   ·refine .inr fun o=>(hB b o (h2 o)).resolve_left ?_;have:=CH hs;omega
  ·exact .inr h1
structure qU (g:Gh) (w:World) (H:qO) (e:pC) (g':Gh) (w':World) (v:Value):Prop where
 le:Le g w g' w'
 slot:pW g' w' e.slot v
 heap:rH g' w' (pF e.upd H)
 fr:Fr (rQ g H (pB e.upd)) w w' g.S g'.S
 perm: ∀i blk b o,i∈pB e.upd->p9 (pF e.upd H) i=some blk->qP g' i blk b o->w.heap.size<=b\/rQ g H (pB e.upd) b o
 gho: ∀i,i∉pB e.upd->g'.J i=g.J i/\g'.cur i=g.cur i
 ty: ∀i u y us,p9 (pF e.upd H) i=some (.cells u y us)->(∃x ts,p9 H i=some (.cells u x ts))\/(g.J i=none/\∀n,g.cur i n=none)
structure yP (g:Gh) (w:World) (H:qO) (e:pC) (g':Gh) (w':World) (v:Value):Prop where
 le:Le g w g' w'
 slot:pW g' w' e.slot v
 heap:rH g' w' (pF e.upd H)
 fr:Fr (rQ g H (pB e.upd)) w w' g.S g'.S
 perm: ∀i blk b o,i∈pB e.upd->p9 (pF e.upd H) i=some blk->qP g' i blk b o->w.heap.size<=b\/rQ g H (pB e.upd) b o
 gho: ∀i,i∉pB e.upd->g'.J i=g.J i/\g'.cur i=g.cur i
 ty:FN e.rds=false->∀i u y us,p9 (pF e.upd H) i=some (.cells u y us)->(∃x ts,p9 H i=some (.cells u x ts))\/(g.J i=none/\∀n,g.cur i n=none)
theorem qU.w {g:Gh}{w:World}{H:qO}{e:pC}{g':Gh}{w':World}{v:Value}(h:qU g w H e g' w' v):yP g w H e g' w' v:=⟨h.le,h.slot,h.heap,h.fr,h.perm,h.gho,fun _=>h.ty⟩
theorem JM {w:World}{B:Nat}{e:TypeId}{c n:Nat}{v:Value}{xs:List Value}(h:w.ownsRow B e c v n xs) {b:Nat}(hb:v.ownBlock=some b):b<w.heap.size:=(h.lt b hb).2
theorem QA {w:World}{b o:Nat}{v:Value}(h:w.cell? ⟨b,o,none⟩=some v):b<w.heap.size:=by
 have:=World.block_lt_of_cell? w ⟨b,o,none⟩ h;exact this
theorem MF {g:Gh}{w:World}{i:Nat}{blk:oX}(h:yO g w i blk) {b o:Nat}(ho:qP g i blk b o):b<w.heap.size:=by
 cases blk with
 |cells t x toks=>
  obtain⟨p,cs,hp,_,_,ht,_⟩:=h;obtain⟨q,hq,rfl,h1,h2⟩:=ho;rw[hp] at hq;obtain rfl:=aML hq;have:=(ht.1 (o-p.2) (by omega)).1;obtain⟨v,hv⟩:=aMM.1 this;exact QA hv
 |grow e c n=>
  obtain⟨v,xs,hv,hr,_⟩:=h;obtain⟨v',hv',hb⟩:=ho;rw[hv] at hv';obtain rfl:=aML hv';exact JM hr hb
 |row e t l n=>
  obtain⟨_,v,xs,hv,hr,_⟩:=h;obtain⟨v',hv',hb⟩:=ho;rw[hv] at hv';obtain rfl:=aML hv';exact JM hr hb
 |map k v l=>
  obtain⟨p,es,cl,hp,_,hh,_,_⟩:=h;obtain⟨q,hq,rfl⟩:=ho;rw[hp] at hq;obtain rfl:=aML hq;exact(aNc.1 hh).1
 |iter s n=>
  obtain⟨p,hp,_,hh,_⟩:=h;obtain⟨q,hq,rfl⟩:=ho;rw[hp] at hq;obtain rfl:=aML hq;exact(aNc.1 hh).1
 |dead=>exact ho.elim
theorem a50 {g g':Gh}(hc: ∀k n v,g.cur k n=some v->g'.cur k n=some v) {t:Ty}{x:t.den}{cs:List Value}{toks:List (Nat×Nat)}(h:EK g t x cs toks):EK g' t x cs toks:=
 fun o k hm=>let ⟨u,l,v,h1,h2,h3⟩:=h o k hm;⟨u,l,v,h1,h2,hc _ _ _ h3⟩
theorem HQ {g g':Gh}{w w':World}{i:Nat}{blk:oX}(h:yO g w i blk) (le:Le g w g' w') (hJ:g'.J i=g.J i) (hcur:g'.cur i=g.cur i)
  (hc: ∀b o,qP g i blk b o->w'.cell? ⟨b,o,none⟩=w.cell? ⟨b,o,none⟩/\w'.frozen? ⟨b,o,none⟩=w.frozen? ⟨b,o,none⟩)
  (hb: ∀b,(∀o,qP g i blk b o)->w'.heap[b]? =w.heap[b]?) (hS: ∀b o,qP g i blk b o->g'.S b o->g.S b o) (hsh: ∀b o s,qP g i blk b o->w.shape? b=some s->w'.shape? b=some s):yO g' w' i blk:=by
 cases blk with
 |cells t x toks=>
  obtain⟨p,cs,hp,hr,hra,ht,hs,htk⟩:=h;have ho: ∀j,j<t.cells->qP g i (.cells t x toks) p.1 (p.2+j):=fun j hj=>⟨p,hp,rfl,by omega,by omega⟩;refine⟨p,cs,hJ.trans hp,uX le hr,fun j v hv=> ?_,⟨fun j hj=> ?_,fun h0 s hs3=>hsh _ _ _ (ho 0 h0) (ht.2 h0 s hs3)⟩,fun j hj hs'=>hs j hj (hS _ _ (ho j hj) hs'),a50 le.cur htk⟩
  ·have hj:j<t.cells:=rP hr▸(aMX.1 hv).1;rw[(hc _ _ (ho j hj)).1];exact hra j v hv
  ·rw[(hc _ _ (ho j hj)).1,(hc _ _ (ho j hj)).2];exact ht.1 j hj
 |grow e c n=>
  obtain⟨v,xs,hv,hr,hn,hs⟩:=h;have hbl: ∀b,v.ownBlock=some b->∀o,qP g i (.grow e c n) b o:=fun b hb o=>⟨v,hv,hb⟩;refine⟨v,xs,by rw[hcur];exact hv,⟨hr.1,?_⟩,fun m hm=>by rw[hcur];exact hn m hm,fun b hvb o hs'=>hs b hvb o (hS _ _ (hbl b hvb o) hs')⟩;rcases hr.2 with h0|⟨q,cap,cur,e1,e2,e3,e4⟩
  ·exact .inl h0
  ·subst e1;exact .inr ⟨q,cap,cur,rfl,e2,by rw[hb q (hbl q rfl)];exact e3,e4⟩
 |row e t l n=>
  obtain⟨hl,v,xs,hv,hr,hF,hn,hs⟩:=h;have hbl: ∀b,v.ownBlock=some b->∀o,qP g i (.row e t l n) b o:=fun b hb o=>⟨v,hv,hb⟩;refine⟨hl,v,xs,by rw[hcur];exact hv,⟨hr.1,?_⟩,B5 (fun _ _ h=>uX le h) hF,fun m hm=>by rw[hcur];exact hn m hm,fun b hvb o hs'=>hs b hvb o (hS _ _ (hbl b hvb o) hs')⟩;rcases hr.2 with h0|⟨q,cap,cur,e1,e2,e3,e4⟩
  ·exact .inl h0
  ·subst e1;exact .inr ⟨q,cap,cur,rfl,e2,by rw[hb q (hbl q rfl)];exact e3,e4⟩
 |map k v l=>
  obtain⟨p,es,cl,hp,h0,hh,hM,hs⟩:=h;have hbl: ∀o,qP g i (.map k v l) p.1 o:=fun o=>⟨p,hp,rfl⟩;exact⟨p,es,cl,hJ.trans hp,h0,(hb _ hbl).trans hh,VI le hM,fun o hs'=>hs o (hS _ _ (hbl o) hs')⟩
 |iter s n=>
  obtain⟨p,hp,h0,hh,hs⟩:=h;have hbl: ∀o,qP g i (.iter s n) p.1 o:=fun o=>⟨p,hp,rfl⟩;exact⟨p,hJ.trans hp,h0,(hb _ hbl).trans hh,fun o hs'=>hs o (hS _ _ (hbl o) hs')⟩
 |dead=>trivial
theorem x9 {g g':Gh}{i:Nat}{blk:oX}(hJ:g'.J i=g.J i) (hcur:g'.cur i=g.cur i) {b o:Nat}:qP g' i blk b o↔qP g i blk b o:=by
 cases blk<;>simp [qP,hJ,hcur]
theorem B6 {i:Nat}: ∀{u:List (Nat×oX)}{H:qO},i∉pB u->p9 (pF u H) i=p9 H i
 |[],_,_=>rfl
 |(k,b)::r,H,h=>by
  simp only[pB,aM1,not_or] at h;simp only[pF,p9];rw[aMK (Ne.symm h.1)];exact B6 h.2
theorem rH.upd {g g':Gh}{w w':World}{H:qO}{u:List (Nat×oX)}(h:rH g w H) (le:Le g w g' w') (fr:Fr (rQ g H (pB u)) w w' g.S g'.S)
  (perm: ∀i blk b o,i∈pB u->p9 (pF u H) i=some blk->qP g' i blk b o->w.heap.size<=b\/rQ g H (pB u) b o)
  (gho: ∀i,i∉pB u->g'.J i=g.J i/\g'.cur i=g.cur i)
  (hb: ∀i blk,i∈pB u->p9 (pF u H) i=some blk->yO g' w' i blk)
  (hd: ∀i j bi bj b o,i∈pB u->j∈pB u->i≠j->p9 (pF u H) i=some bi->p9 (pF u H) j=some bj->qP g' i bi b o->qP g' j bj b o->False)
  (sl: ∀b o,g'.S b o->b<w'.heap.size):rH g' w' (pF u H):=by
 have out: ∀i blk,i∉pB u->p9 H i=some blk->∀b o,qP g i blk b o->b<w.heap.size/\¬rQ g H (pB u) b o:=fun i blk hi hg b o ho=>
  ⟨MF (h.blk i blk hg) ho,fun⟨j,bj,hj,hgj,hoj⟩=>h.dis i j blk bj b o (fun e=>hi (e▸hj)) hg hgj ho hoj⟩
 refine⟨fun i blk hg=> ?_,fun i j bi bj b o hij hgi hgj hoi hoj=> ?_,sl,LP h.tab.1 fr.size (fun b hb=>fr.blk b (aNm hb h.tab.1.1) (fun o ⟨j,bj,_,k1,k2⟩=>Nat.not_lt.2 (h.tab.2 j bj b o k1 k2) hb)),fun i blk b o hg ho=> ?_⟩
 rotate_right
 ·by_cases hi:i∈pB u
  ·rcases perm i blk b o hi hg ho with h1|⟨j,bj,_,k1,k2⟩
   ·exact aNC h.tab.1.1 h1
   ·exact h.tab.2 j bj b o k1 k2
  ·exact h.tab.2 i blk b o ((B6 hi).symm.trans hg) ((x9 (gho i hi).1 (gho i hi).2).1 ho)
 ·by_cases hi:i∈pB u
  ·exact hb i blk hi hg
  ·have hg0:=(B6 hi).symm.trans hg;have hk:=gho i hi;refine HQ (h.blk i blk hg0) le hk.1 hk.2 (fun b o ho=> ?_) (fun b ho=> ?_) (fun b o ho hs=> ?_) (fun b o s ho hs=>(fr.shape b s hs).resolve_right fun h1=>(out i blk hi hg0 b o ho).2 (h1 o))
   ·exact fr.cell b o (out i blk hi hg0 b o ho).1 (out i blk hi hg0 b o ho).2
   ·exact fr.blk b (out i blk hi hg0 b 0 (ho 0)).1 (fun o=>(out i blk hi hg0 b o (ho o)).2)
   ·rcases fr.new b o hs with h1|h1|h1
    ·exact h1
    ·have:=(out i blk hi hg0 b o ho).1;omega
    ·exact absurd h1 (out i blk hi hg0 b o ho).2
 ·by_cases hi:i∈pB u<;>by_cases hj:j∈pB u
  ·exact hd i j bi bj b o hi hj hij hgi hgj hoi hoj
  ·have hg0:=(B6 hj).symm.trans hgj;have ho0:=(x9 (gho j hj).1 (gho j hj).2).1 hoj;rcases perm i bi b o hi hgi hoi with h1|h1
   ·have:=(out j bj hj hg0 b o ho0).1;omega
   ·exact(out j bj hj hg0 b o ho0).2 h1
  ·have hg0:=(B6 hi).symm.trans hgi;have ho0:=(x9 (gho i hi).1 (gho i hi).2).1 hoi;rcases perm j bj b o hj hgj hoj with h1|h1
   ·have:=(out i bi hi hg0 b o ho0).1;omega
   ·exact(out i bi hi hg0 b o ho0).2 h1
  ·exact h.dis i j bi bj b o hij ((B6 hi).symm.trans hgi) ((B6 hj).symm.trans hgj) ((x9 (gho i hi).1 (gho i hi).2).1 hoi) ((x9 (gho j hj).1 (gho j hj).2).1 hoj)
theorem qU.pure {g:Gh}{w:World}{H:qO}{side:List Prop}{s:oZ}{rds:List Nat}{v:Value}(h:rH g w H) (hs:pW g w s v):qU g w H ⟨side,s,[],rds⟩ g w v:=
 ⟨.refl _ _,hs,h,.refl _ _ _,fun _ _ _ _ hi=>(by cases hi),fun _ _=>⟨rfl,rfl⟩,fun _ _ y us h=> .inl ⟨y,us,h⟩⟩
theorem yP.pure {g:Gh}{w:World}{H:qO}{side:List Prop}{s:oZ}{rds:List Nat}{v:Value}(h:rH g w H) (hs:pW g w s v):yP g w H ⟨side,s,[],rds⟩ g w v:=(qU.pure h hs).w
def sJ:Ty->List Value
 | .bool=>[.bool false]
 | .int k=>[.int k 0]
 | .str=>[.string ⟨#[]⟩]
 | .list _=>[.slice none 0 0]
 | .unit=>[]
 | .pair a b=>sJ a++sJ b
 | .ref=>[.pointer none]
 | .clo=>[.nilFunc]
 | .mp=>[.map none]
 | .rl _ _=>[.slice none 0 0]
 | .fn=>[.nilFunc]
 | .mref=>[.pointer none]
def vJ (t:Ty):Value:=if t.isRow then .agg (sJ t).toArray else(sJ t).headD undef
def JN (P:Program):Ty->Nat->List Field->Prop
 | .unit,_,[]=>True
 | .pair a b,o,f::r=>f.offset=o/\(P.info? f.type).map (·.size)=some a.cells/\(P.underlying f.type).map (·.isRow)=some a.isRow/\JN P b (o+a.cells) r
 |_,_,_=>False
def MG (P:Program) (e:TypeId):Ty->Nat->Prop
 | .unit,0=>True
 | .pair a b,n+1=>(P.info? e).map (·.size)=some a.cells/\(P.underlying e).map (·.isRow)=some a.isRow/\MG P e b n
 |_,_=>False
inductive VJ where
 |ty (t:TypeId) |fs (o:Nat) (l:List Field) |el (e:TypeId) (i m:Nat)
inductive wI (P:Program):Nat->VJ->Ty->Prop
 |bool {h t}:P.underlying t=some .bool->wI P h (.ty t) .bool
 |int {h t k}:P.underlying t=some (.int k)->wI P h (.ty t) (.int k)
 |str {h t}:P.underlying t=some .string->wI P h (.ty t) .str
 |struct {h t fs ty}:ty.isRow=true->P.underlying t=some (.struct fs)->P.stoodInHeld t=false->wI P h (.fs 0 fs.toList) ty->wI P (h+1) (.ty t) ty
 |arr {h t e n ty}:ty.isRow=true->P.underlying t=some (.array n e)->(P.info? e).isSome=true->wI P h (.el e 0 n) ty->wI P (h+1) (.ty t) ty
 |nil {h o}:wI P h (.fs o []) .unit
 |cons {h o}{f:Field}{r a b}:f.name≠ "_" ->f.offset=o->(P.info? f.type).map (·.size)=some a.cells->(P.underlying f.type).map (·.isRow)=some a.isRow->wI P h (.ty f.type) a->wI P h (.fs (o+a.cells) r) b->wI P h (.fs o (f::r)) (.pair a b)
 |anil {h e i}:wI P h (.el e i 0) .unit
 |acons {h e i m a b}:(P.info? e).map (·.size)=some a.cells->(P.underlying e).map (·.isRow)=some a.isRow->wI P h (.ty e) a->wI P h (.el e (i+1) m) b->wI P h (.el e i (m+1)) (.pair a b)
def wJ (P:Program) (t:TypeId) (ti:TI):Prop:=
 match ti.ty with
 | .bool=>P.underlying t=some .bool
 | .int k=>P.underlying t=some (.int k)
 | .str=>P.underlying t=some .string
 | .ref=> ∃e,P.underlying t=some (.pointer e)
 | .clo=> ∃a b c,P.underlying t=some (.func a b c)
 | .mp=>P.underlying t=some (.map ti.elem ti.bytes)
 | .rl _ _=> ∃e,P.underlying t=some (.slice e)
 | .fn=> ∃a b c,P.underlying t=some (.func a b c)
 | .mref=> ∃e,P.underlying t=some (.pointer e)
 | .list u=>P.underlying t=some (.slice ti.elem)/\(P.info? ti.elem).map (fun i=>(i.size,i.bytes,i.zero))=some (u.cells,ti.bytes,some (vJ u))/\(P.underlying ti.elem).map (·.isRow)=some u.isRow
 |ty=>((ti.arr=false/\∃fs,P.underlying t=some (.struct fs)/\JN P ty 0 fs.toList)\/(ti.arr=true/\∃n e,P.underlying t=some (.array n e)/\MG P e ty n/\(P.info? e).isSome=true))/\(ti.bytes=1->P.eqGuardType P.depth t=false/\∃h,h<9000/\wI P h (.ty t) ty)
def sF (P:Program) (t:TypeId) (ti:TI):Prop:=(P.info? t).map (fun i=>(i.size,i.zero))=some (ti.ty.cells,some (vJ ti.ty))/\wJ P t ti
def vK (P:Program):rO->Prop
 |[]=>True
 |(t,ti)::r=>sF P t ti/\vK P r
theorem s0 {P:Program}: ∀{T:rO},vK P T->∀{t:TypeId}{ti:TI},qC T t=some ti->sF P t ti
 |[],_,_,_,h=>by simp [qC] at h
 |(k,ti)::r,hT,t,ti',h=>by
  simp only[qC] at h;by_cases hk:k=t
  ·rw[aMI hk] at h;subst hk;rw[<-aML h];exact hT.1
  ·rw[aMK hk] at h;exact s0 hT.2 h
theorem CJ (g:Gh) (w:World): ∀t:Ty,Rd g w t t.zero (sJ t)
 | .bool=>rfl
 | .int _=>rfl
 | .str=>rfl
 | .list _=>⟨none,0,rfl,aM2 _,.inl rfl⟩
 | .unit=>rfl
 | .pair a b=>⟨_,_,rfl,CJ g w a,CJ g w b⟩
 | .ref=>rfl
 | .clo=>rfl
 | .mp=>rfl
 | .rl _ _=>rfl
 | .fn=>rfl
 | .mref=>rfl
theorem MH (g:Gh) (w:World) (t:Ty):rZ g w t t.zero (vJ t):=by
 unfold rZ vJ;by_cases h:t.isRow=true
 ·left;rw[aMI h];exact⟨h,_,rfl,CJ g w t⟩
 ·right;rw[aMK h];refine⟨by simpa using h,?_⟩;cases t<;>first|exact CJ g w _|(simp [Ty.isRow] at h)
theorem DC {g:Gh}{w:World}{t:Ty}{x:t.den}{v:Value}(h:rZ g w t x v):Rd g w t x v.cells.toList:=by
 rcases h with⟨_,cs,rfl,r⟩ |⟨hr,r⟩
 ·simpa[Value.cells] using r
 ·have h1:=zP r v (by simp);have:v.cells= #[v]:=by cases v<;>first|rfl|(simp [Value.oneCell'] at h1)
  rw[this];exact r
theorem AA {g:Gh}{w:World}{t:Ty}{x:t.den}{v:Value}(hr:t.isRow=false) (h:rZ g w t x v):Rd g w t x [v]:=by
 rcases h with⟨h1,_⟩ |⟨_,r⟩
 ·rw[hr] at h1;cases h1
 ·exact r
theorem vC {g:Gh}{w:World}{k:IntKind}{n:Int}{v:Value}(h:rZ g w (.int k) n v):v= .int k n:=by
 have:=AA rfl h;simp only[Rd,aNB,and_true] at this;exact this
theorem vL {g:Gh}{w:World}{n:Bool}{v:Value}(h:rZ g w .bool n v):v= .bool n:=by
 have:=AA rfl h;simp only[Rd,aNB,and_true] at this;exact this
theorem xR {g:Gh}{w:World}{l:List UInt8}{v:Value}(h:rZ g w .str l v):v= .string ⟨l.toArray⟩:=by
 have:=AA rfl h;simp only[Rd,aNB,and_true] at this;exact this
theorem CK {g:Gh}{w:World}{t:Ty}{l:List t.den}{v:Value}(h:rZ g w (.list t) l v): ∃a cap,v= .slice a l.length cap/\l.length<=cap/\(l=[]\/∃b o,a=some ⟨b,o,none⟩/\wH (Rd g w t) w g.S t.cells b o l):=by
 have:=AA rfl h;obtain⟨a,cap,e,h1,h2⟩:=this;simp only[aNB,and_true] at e;exact⟨a,cap,e,h1,h2⟩
theorem xT {g:Gh}{w:World}{i o:Nat}{v:Value}(h:rZ g w .ref (some (i,o)) v): ∃p,g.J i=some p/\v= .pointer (some ⟨p.1,p.2+o,none⟩):=by
 have:=AA rfl h;obtain⟨p,h1,e⟩:=this;simp only[aNB,and_true] at e;exact⟨p,h1,e⟩
theorem HR {g:Gh}{w:World}{t:Ty}{x:t.den}{v:Value}(hr:t.isRow=true) (h:rZ g w t x v): ∃cs:List Value,v= .agg cs.toArray/\Rd g w t x cs:=by
 rcases h with⟨_,r⟩ |⟨h1,_⟩
 ·exact r
 ·rw[hr] at h1;cases h1
theorem uY (g:Gh) (w:World) (k:IntKind) (n:Int):rZ g w (.int k) n (.int k n):= .inr ⟨rfl,rfl⟩
theorem uZ (g:Gh) (w:World) (b:Bool):rZ g w .bool b (.bool b):= .inr ⟨rfl,rfl⟩
theorem HS (g:Gh) (w:World) (l:List UInt8):rZ g w .str l (.string ⟨l.toArray⟩):= .inr ⟨rfl,rfl⟩
def pS (P:Program) (o:Oper) (a:Act) (g:Gh) (w:World) (H:qO) (e:pC):Prop:=
 ∀(K:Act->World->Prop) (Q:Exit->Act->World->Prop),(∀g' w' v,yP g w H e g' w' v->K (a.put o.dst v) w')->o.wp P a w K Q
theorem pS.valueW {P:Program}{o:Oper}{a:Act}{g g':Gh}{w w':World}{H:qO}{e:pC}{v:Value}(hr:(execOp a.eval o).run P w= .ok (.value v) w') (h:yP g w H e g' w' v):pS P o a g w H e:=by
 intro K Q hK;unfold Oper.wp;rw[hr];exact hK g' w' v h
theorem pS.skipW {P:Program}{o:Oper}{a:Act}{g g':Gh}{w w':World}{H:qO}{e:pC}(hr:(execOp a.eval o).run P w= .ok .skip w') (h:yP g w H e g' w' undef):pS P o a g w H e:=by
 intro K Q hK;unfold Oper.wp;rw[hr];exact hK g' w' undef h
theorem pS.value {P:Program}{o:Oper}{a:Act}{g g':Gh}{w w':World}{H:qO}{e:pC}{v:Value}(hr:(execOp a.eval o).run P w= .ok (.value v) w') (h:qU g w H e g' w' v):pS P o a g w H e:= .valueW hr h.w
theorem pS.skip {P:Program}{o:Oper}{a:Act}{g g':Gh}{w w':World}{H:qO}{e:pC}(hr:(execOp a.eval o).run P w= .ok .skip w') (h:qU g w H e g' w' undef):pS P o a g w H e:= .skipW hr h.w
theorem pS.pure {P:Program}{o:Oper}{a:Act}{g:Gh}{w:World}{H:qO}{side:List Prop}{d:DV}{rds:List Nat}{v:Value}(hH:rH g w H) (hr:(execOp a.eval o).run P w= .ok (.value v) w) (h:yN g w d v):
  pS P o a g w H ⟨side,(d,none),[],rds⟩:= .value hr (.pure hH ⟨h,trivial⟩)
section
variable {P:Program}{o:Oper}{a:Act}{g:Gh}{w:World}{H:qO}
theorem QB {g:Gh}{w:World}{k:IntKind}(q:Int) (hq: ∀p∈(H8 k q).1,p):yN g w (H8 k q).2 (.int k (k.wrap q)):=by
 cases k<;>simp only[H8] at hq⊢ <;>first|exact uY _ _ _ _|skip
 have h0:=hq _ (aMW.2 rfl);rw[show IntKind.i64.wrap q=q from IntWalk.i64_in q (by omega)];exact uY _ _ _ _
theorem aD0 (g:Gh) {op:BinOp}{xt:TypeId}{x y:Operand}{k:IntKind}{m n:Int}{r:List Prop×DV}(hr:U2 k m n op=some r) (hs: ∀p∈r.1,p):
  ∃v,(do eqGuard op xt x y (.int k m) (.int k n);Go.binOp op xt (.int k m) (.int k n):Sem Value).run P w= .ok v w/\yN g w r.2 v:=by
 cases op<;>simp only[U2,aMJ,reduceCtorEq] at hr
 all_goals subst hr
 case add=>exact⟨.int k (k.wrap _),by simp [eqGuard,Go.binOp,Op.intArith],QB _ hs⟩
 case sub=>exact⟨.int k (k.wrap _),by simp [eqGuard,Go.binOp,Op.intArith],QB _ hs⟩
 case mul=>exact⟨.int k (k.wrap _),by simp [eqGuard,Go.binOp,Op.intArith],QB _ hs⟩
 case eql=>exact⟨.bool (decide (m=n)),by simp [eqGuard,Go.binOp,Op.intCmp];rfl,uZ _ _ _⟩
 case neq=>exact⟨.bool (!decide (m=n)),by simp [eqGuard,Go.binOp,Op.intCmp,bne];rfl,uZ _ _ _⟩
 case lss=>exact⟨.bool (decide _),by simp [eqGuard,Go.binOp,Op.intCmp],uZ _ _ _⟩
 case leq=>exact⟨.bool (decide _),by simp [eqGuard,Go.binOp,Op.intCmp],uZ _ _ _⟩
 case gtr=>exact⟨.bool (decide (n<m)),by simp [eqGuard,Go.binOp,Op.intCmp],uZ _ _ _⟩
 case geq=>exact⟨.bool (decide (n<=m)),by simp [eqGuard,Go.binOp,Op.intCmp],uZ _ _ _⟩
 case quo=>
  have h0:=hs _ (aMW.2 rfl);exact⟨.int k (k.wrap (Int.tdiv m n)),by simp [eqGuard,Go.binOp,Op.intDiv,h0],uY _ _ _ _⟩
 case rem=>
  have h0:=hs _ (aMW.2 rfl);exact⟨.int k (Int.tmod m n),by simp [eqGuard,Go.binOp,Op.intDiv,h0],uY _ _ _ _⟩
 case and=>exact⟨.int k (bits .and k m n),by simp [eqGuard,Go.binOp,intBits_and],uY _ _ _ _⟩
 case or=>exact⟨.int k (bits .or k m n),by simp [eqGuard,Go.binOp,intBits_or],uY _ _ _ _⟩
 case xor=>exact⟨.int k (bits .xor k m n),by simp [eqGuard,Go.binOp,intBits_xor],uY _ _ _ _⟩
 case andNot=>exact⟨.int k (bits .andNot k m n),by simp [eqGuard,Go.binOp,intBits_andNot],uY _ _ _ _⟩
theorem MI (m n:List UInt8):(m==n)=decide (m=n):=by rw[aNM];simp
theorem aD1 (g:Gh) {op:BinOp}{xt:TypeId}{x y:Operand}{m n:List UInt8}{r:List Prop×DV}(hr:U4 m n op=some r) (hs: ∀p∈r.1,p):
  ∃v,(do eqGuard op xt x y (.string ⟨m.toArray⟩) (.string ⟨n.toArray⟩);Go.binOp op xt (.string ⟨m.toArray⟩) (.string ⟨n.toArray⟩):Sem Value).run P w= .ok v w/\yN g w r.2 v:=by
 have hl: ∀l:List UInt8,(⟨l.toArray⟩:ByteArray).size=l.length:=fun l=>by simp [ByteArray.size]
 cases op<;>simp only[U4,aMJ,reduceCtorEq] at hr
 all_goals subst hr
 case add=>
  have h0:=hs _ (aMW.2 rfl);refine⟨.string ⟨(m++n).toArray⟩,?_,HS _ _ _⟩;rw[aMN] at h0;have h1: ¬(((⟨m.toArray⟩:ByteArray).size+(⟨n.toArray⟩:ByteArray).size:Nat):Int) >IntKind.i64.max:=by rw[hl,hl,show IntKind.i64.max=9223372036854775807 from by decide];omega
  simp only[eqGuard,Go.binOp,Op.stringOp,aMY,aMK h1];simp;rfl
 case eql=>exact⟨.bool (decide (m=n)),by simp [eqGuard,Go.binOp,Op.stringOp,MI],uZ _ _ _⟩
 case neq=>exact⟨.bool (!decide (m=n)),by simp [eqGuard,Go.binOp,Op.stringOp,MI],uZ _ _ _⟩
 case lss=>exact⟨.bool (Op.bytesLess m n),by simp [eqGuard,Go.binOp,Op.stringOp],uZ _ _ _⟩
 case leq=>exact⟨.bool (Op.bytesLess m n||decide (m=n)),by simp [eqGuard,Go.binOp,Op.stringOp,MI],uZ _ _ _⟩
 case gtr=>exact⟨.bool (!(Op.bytesLess m n||decide (m=n))),by simp [eqGuard,Go.binOp,Op.stringOp,MI],uZ _ _ _⟩
 case geq=>exact⟨.bool (!Op.bytesLess m n),by simp [eqGuard,Go.binOp,Op.stringOp],uZ _ _ _⟩
theorem HT {r:Option (List Prop×DV)}{e:pC}(h:A3 r=some e): ∃q,r=some q/\e=⟨q.1,(q.2,none),[],[]⟩:=by
 cases r with
 |none=>cases h
 |some q=>obtain⟨p,d⟩:=q;exact⟨(p,d),rfl,(aML h).symm⟩
theorem aD2 (hH:rH g w H) {op:BinOp}{xt yt:TypeId}{x y:Operand}(ho:o.op= .binOp op xt x y yt) {sx sy:oZ}(hx:pW g w sx (a.eval x)) (hy:pW g w sy (a.eval y)) {e:pC}
  (hr:A3 (OP op sx sy)=some e) (hs: ∀p∈e.side,p):pS P o a g w H e:=by
 obtain⟨q,hq,rfl⟩:=HT hr;have go: ∀{u v:Value},a.eval x=u->a.eval y=v->(∃z,(do eqGuard op xt x y u v;Go.binOp op xt u v:Sem Value).run P w= .ok z w/\yN g w q.2 z)->pS P o a g w H ⟨q.1,(q.2,none),[],[]⟩:=by
  rintro u v rfl rfl ⟨z,hz,hd⟩;refine pS.pure hH (v:=z) ?_ hd;unfold execOp;rw[ho];simp only[aMY,aM6] at hz⊢;rw[hz];rfl
 obtain⟨dx,kx⟩:=sx;obtain⟨dy,ky⟩:=sy;replace hx:=hx.1;replace hy:=hy.1;unfold OP at hq;split at hq
 ·rename_i k m k1 k' n k2 e1 e2;simp only[aM9] at e1 e2;obtain⟨rfl,-⟩:=e1;obtain⟨rfl,-⟩:=e2;unfold a5f at hq;split at hq
  ·cases hq;have h0:=hs _ (aMW.2 rfl);exact go (vC hx) (vC hy) ⟨.int k (U3 k m n),by simp [eqGuard,Go.binOp,Op.shift,U3,Int.not_lt.2 h0],uY _ _ _ _⟩
  ·cases hq;have h0:=hs _ (aMW.2 rfl);exact go (vC hx) (vC hy) ⟨.int k (w6 k m n),by simp [eqGuard,Go.binOp,Op.shift,w6,Int.not_lt.2 h0],uY _ _ _ _⟩
  ·by_cases hk:k=k'
   ·subst hk;rw[aMI rfl] at hq;exact go (vC hx) (vC hy) (aD0 g hq hs)
   ·rw[aMK hk] at hq;cases hq
 ·rename_i m k1 n k2 e1 e2;simp only[aM9] at e1 e2;obtain⟨rfl,-⟩:=e1;obtain⟨rfl,-⟩:=e2;exact go (xR hx) (xR hy) (aD1 g hq hs)
 ·cases hq
theorem aD3 (hH:rH g w H) {op:UnOp}{xt:TypeId}{x:Operand}(ho:o.op= .unOp op xt x) {sx:oZ}(hx:pW g w sx (a.eval x)) {e:pC}
  (hr:A3 (U6 op sx)=some e) (hs: ∀p∈e.side,p):pS P o a g w H e:=by
 obtain⟨q,hq,rfl⟩:=HT hr;replace hx:=hx.1;unfold U6 at hq;split at hq
 ·have:=vL hx;cases hq;refine pS.pure hH (v:= .bool _) ?_ (uZ _ _ _);simp [execOp,ho,this,Op.unary]
 ·rename_i k n _;have:=vC hx;cases hq;refine pS.pure hH (v:= .int k (k.wrap (-n))) ?_ (QB _ hs);simp [execOp,ho,this,Op.unary,Op.intArith]
 ·cases hq
theorem QC {t:TypeId}{ti:TI}(h:sF P t ti): ∃d,P.underlying t=some d/\d.isRow=ti.ty.isRow:=by
 have h2:=h.2;unfold wJ at h2;obtain⟨ty,el,by',ar,ls⟩:=ti;cases ty<;>simp only at h2
 case bool=>exact⟨_,h2,rfl⟩
 case int=>exact⟨_,h2,rfl⟩
 case str=>exact⟨_,h2,rfl⟩
 case list=>exact⟨_,h2.1,rfl⟩
 case ref=>obtain⟨e,h⟩:=h2;exact⟨_,h,rfl⟩
 case clo=>obtain⟨a,b,c,h⟩:=h2;exact⟨_,h,rfl⟩
 case mp=>exact⟨_,h2,rfl⟩
 case rl=>obtain⟨e,h⟩:=h2;exact⟨_,h,rfl⟩
 case fn=>obtain⟨a,b,c,h⟩:=h2;exact⟨_,h,rfl⟩
 case mref=>obtain⟨e,h⟩:=h2;exact⟨_,h,rfl⟩
 all_goals
  rcases h2.1 with⟨_,fs,h,_⟩ |⟨_,n,e,h,_⟩
  ·exact⟨_,h,rfl⟩
  ·exact⟨_,h,rfl⟩
theorem DD {t:TypeId}{ti:TI}(h:sF P t ti): ∃i,P.info? t=some i/\i.size=ti.ty.cells/\i.zero=some (vJ ti.ty):=by
 obtain⟨i,hi,he⟩:=aMZ.1 h.1;simp only[aM9] at he;exact⟨i,hi,he.1,he.2⟩
theorem aD4 {T:rO}(hT:vK P T) (hH:rH g w H) {st dt:TypeId}{x:Operand}(ho:o.op= .convert st dt x) {sx:oZ}(hx:pW g w sx (a.eval x)) {e:pC}
  (hr:A3 (OR (qC T st) (qC T dt) sx)=some e):pS P o a g w H e:=by
 obtain⟨q,hq,rfl⟩:=HT hr;replace hx:=hx.1;generalize hs:qC T st=os at hq;generalize hd:qC T dt=od at hq;unfold OR at hq;split at hq
 ·rename_i k' k _ _ _ _ k0 n _;obtain⟨d,hd1,_⟩:=QC (s0 hT hs);have hd2:=(s0 hT hd).2;simp only[wJ] at hd2;have:=vC hx;cases hq;refine pS.pure hH (v:= .int k (k.wrap n)) ?_ (uY _ _ _ _);simp [execOp,ho,this,Go.convert,aM3 hd1,aM3 hd2,Conv.intToInt]
 ·rename_i k' _ _ _ _ s _;obtain⟨d,hd1,_⟩:=QC (s0 hT hs);have hd2:=(s0 hT hd).2;simp only[wJ] at hd2;have:=xR hx;cases hq;refine pS.pure hH (v:= .string ⟨List.toArray s⟩) ?_ (HS _ _ _);simp [execOp,ho,this,Go.convert,aM3 hd1,aM3 hd2]
 ·cases hq
theorem QD {α:Type}{R:α->List Value->Prop}{w:World}{S:Nat->Nat->Prop}{c b:Nat}: ∀{l:List α}{o i:Nat}{x:α},wH R w S c b o l->l[i]? =some x->
  ∃cs,cs.length=c/\w.rangeAt b (o+i*c) cs/\(∀j,j<c->S b (o+i*c+j))/\R x cs
 |y::l,o,0,x,⟨⟨cs,h1,h2,h3,h4⟩,_⟩,h=>by
  simp only[aNe,aMJ] at h;subst h;exact⟨cs,h1,by simpa using h2,by simpa using h3,h4⟩
 |y::l,o,i+1,x,⟨_,h5⟩,h=>by
  simp only[aNk] at h;obtain⟨cs,h1,h2,h3,h4⟩:=QD h5 h;have e:o+c+i*c=o+(i+1)*c:=by rw[aNU];omega
  exact⟨cs,h1,by rw[<-e];exact h2,by rw[<-e];exact h3,h4⟩
theorem a52 {α:Type}{R:α->List Value->Prop}{w:World}{S:Nat->Nat->Prop}{c b:Nat}: ∀{l:List α}{o:Nat}(i:Nat),wH R w S c b o l->i<=l.length->wH R w S c b (o+i*c) (l.drop i)
 |_,o,0,h,_=>by simpa using h
 |[],o,i+1,_,h=>by simp at h
 |y::l,o,i+1,⟨_,h5⟩,h=>by
  have:=a52 i h5 (by simpa using h);have e:o+c+i*c=o+(i+1)*c:=by rw[aNU];omega
  rw[<-e];simpa using this
theorem a54 {α:Type}{R:α->List Value->Prop}{w:World}{S:Nat->Nat->Prop}{c b:Nat}: ∀{l:List α}{o:Nat}(i:Nat),wH R w S c b o l->wH R w S c b o (l.take i)
 |_,_,0,_=>by simp [wH]
 |[],_,_+1,_=>by simp [wH]
 |_::_,_,i+1,⟨h,h5⟩=>by simpa[wH] using⟨h,a54 i h5⟩
theorem VK {g:Gh}{w:World}: ∀{t:Ty}{x:t.den}{cs:List Value}{f:Nat}{u:Ty}{y:u.den},Rd g w t x cs->t.proj x f=some ⟨u,y⟩->
  ∃o c1 c2 c3,t.offs f=some o/\t.fld f=some u/\cs=c1++c2++c3/\c1.length=o/\Rd g w u y c2:=by
 intro t
 induction t with
 |pair a b _ ihb=>
  intro x cs f u y r h;obtain⟨c1,c2,e,r1,r2⟩:=r;cases f with
  |zero=>
   simp only[Ty.proj,aMJ,Sigma.mk.injEq] at h;obtain⟨rfl,h2⟩:=h;obtain rfl:=eq_of_heq h2;exact⟨0,[],c1,c2,rfl,rfl,by simpa using e,rfl,r1⟩
  |succ f=>
   simp only[Ty.proj] at h;obtain⟨o,d1,d2,d3,h1,h2,h3,h4,h5⟩:=ihb r2 h;refine⟨a.cells+o,c1++d1,d2,d3,by simp [Ty.offs,h1],by simpa[Ty.fld] using h2,by rw[e,h3];simp,?_,h5⟩;rw[aMN,h4,rP r1]
 |_=>intro x cs f u y r h;cases f<;>simp [Ty.proj] at h
theorem VL {P:Program}: ∀{ty:Ty}{off:Nat}{fs:List Field}{f o:Nat}{u:Ty},JN P ty off fs->ty.offs f=some o->ty.fld f=some u->
  ∃fd,fs[f]? =some fd/\fd.offset=off+o/\(P.info? fd.type).map (·.size)=some u.cells/\(P.underlying fd.type).map (·.isRow)=some u.isRow:=by
 intro ty
 induction ty with
 |pair a b _ ihb=>
  intro off fs f o u h ho hu;cases fs with
  |nil=>exact h.elim
  |cons fd fs=>
   obtain⟨h1,h2,h3,h4⟩:=h;cases f with
   |zero=>
    simp only[Ty.offs,aMJ] at ho;simp only[Ty.fld,aMJ] at hu;subst ho;subst hu;exact⟨fd,rfl,by omega,h2,h3⟩
   |succ f=>
    simp only[Ty.offs,aMZ] at ho;obtain⟨o',ho',rfl⟩:=ho;obtain⟨fd',k1,k2,k3,k4⟩:=ihb h4 ho' hu;exact⟨fd',by simpa using k1,by omega,k3,k4⟩
 |_=>intro off fs f o u h ho hu;cases f<;>simp [Ty.offs] at ho
theorem VM {P:Program}{e:TypeId}: ∀{ty:Ty}{n f o:Nat}{u:Ty},MG P e ty n->ty.offs f=some o->ty.fld f=some u->
  f<n/\(P.info? e).map (·.size)=some u.cells/\(P.underlying e).map (·.isRow)=some u.isRow/\o=f*u.cells:=by
 intro ty
 induction ty with
 |pair a b _ ihb=>
  intro n f o u h ho hu;cases n with
  |zero=>exact h.elim
  |succ n=>
   obtain⟨h2,h3,h4⟩:=h;cases f with
   |zero=>
    simp only[Ty.offs,aMJ] at ho;simp only[Ty.fld,aMJ] at hu;subst ho;subst hu;exact⟨by omega,h2,h3,by simp⟩
   |succ f=>
    simp only[Ty.offs,aMZ] at ho;obtain⟨o',ho',rfl⟩:=ho;obtain⟨k1,k2,k3,k4⟩:=ihb h4 ho' hu;rw[h2] at k2;have hc:a.cells=u.cells:=aML k2;exact⟨by omega,by rw[h2,hc],k3,by rw[k4,hc,aNU];omega⟩
 |_=>intro n f o u h ho hu;cases f<;>simp [Ty.offs] at ho
theorem MJ {t:TypeId}{u:Ty}(hi:(P.info? t).map (·.size)=some u.cells) (hr:(P.underlying t).map (·.isRow)=some u.isRow) {y:u.den}{c1 c2 c3:List Value}(h:Rd g w u y c2):
  ∃v,(part t (c1++c2++c3).toArray c1.length).run P w= .ok v w/\rZ g w u y v:=by
 obtain⟨i,hi,hsz⟩:=aMZ.1 hi;obtain⟨d,hd,hrow⟩:=aMZ.1 hr;have hl:=rP h;by_cases hu:u.isRow=true
 ·refine⟨.agg c2.toArray,?_,.inl ⟨hu,c2,rfl,h⟩⟩;have hagg:(isAgg t).run P w= .ok true w:=by
   unfold isAgg;rw[aMY,aM3 hd w];rw[hu] at hrow;cases d<;>simp_all [TypeDesc.isRow]
  simp only[part,aMY,hagg,aMT,aOk,sizeOf,typeInfo,aNJ,hi,hsz,aM6];congr 2;apply aNS.1;simp [<-hl]
 ·have hu':u.isRow=false:=by simpa using hu
  have h1:u.cells=1:=by cases u<;>first|rfl|(simp [Ty.isRow] at hu')
  obtain⟨v,rfl⟩: ∃v,c2=[v]:=by
   rw[h1] at hl;exact aN2.1 hl
  refine⟨v,?_,.inr ⟨hu',h⟩⟩;have hagg:(isAgg t).run P w= .ok false w:=by
   unfold isAgg;rw[aMY,aM3 hd w];rw[hu'] at hrow;cases d<;>simp_all [TypeDesc.isRow]
  simp only[part,aMY,hagg,aMT];simp
theorem VN {t:TypeId}{ti:TI}(h:sF P t ti) (hr:ti.ty.isRow=true):
  (ti.arr=false/\∃fs,P.underlying t=some (.struct fs)/\JN P ti.ty 0 fs.toList)\/(ti.arr=true/\∃n e,P.underlying t=some (.array n e)/\MG P e ti.ty n/\(P.info? e).isSome=true):=by
 have h2:=h.2;unfold wJ at h2;obtain⟨ty,el,by',ar,ls⟩:=ti;cases ty<;>simp only[Ty.isRow,aN9] at hr<;>exact h2.1
theorem a55 {t:TypeId}{ti:TI}(h:sF P t ti) (hr:ti.ty.isRow=true) (ha:ti.arr=false): ∃fs,P.underlying t=some (.struct fs)/\JN P ti.ty 0 fs.toList:=by
 rcases VN h hr with⟨_,h⟩ |⟨h,_⟩
 ·exact h
 ·rw[ha] at h;cases h
theorem a56 {t:TypeId}{ti:TI}(h:sF P t ti) (hr:ti.ty.isRow=true) (ha:ti.arr=true): ∃n e,P.underlying t=some (.array n e)/\MG P e ti.ty n/\(P.info? e).isSome=true:=by
 rcases VN h hr with⟨h,_⟩ |⟨_,h⟩
 ·rw[ha] at h;cases h
 ·exact h
theorem aD5 {t:Ty}{x:t.den}{f:Nat}{q: Σ u:Ty,u.den}(h:t.proj x f=some q):t.isRow=true:=by
 cases t<;>first|rfl|(cases f<;>simp [Ty.proj] at h)
theorem aD6 {t:Ty}{f o:Nat}(h:t.offs f=some o):t.isRow=true:=by
 cases t<;>first|rfl|(cases f<;>simp [Ty.offs] at h)
end
theorem aD7 (l:List UInt8) (n:Nat) (h:n<l.length):(⟨l.toArray⟩:ByteArray)[n]? =some l[n]:=by
 have:n<(⟨l.toArray⟩:ByteArray).size:=by simpa[ByteArray.size] using h
 rw[getElem?_pos (⟨l.toArray⟩:ByteArray) n this];rfl
theorem wK {i:Int}{n:Nat}(h0:0<=i) (h1:i<n):i.toNat<n:=by omega
theorem a57 {i:Int}{n:Nat}(h0:0<=i) (h1:i.toNat<n):i<n:=by omega
section
variable {P:Program}{o:Oper}{a:Act}{g:Gh}{w:World}{H:qO}{T:rO}(hT:vK P T) (hH:rH g w H)
include hT hH
theorem aD8 {t:TypeId}{x:Operand}{f:Nat}(ho:o.op= .field t x f) {sx:oZ}(hx:pW g w sx (a.eval x)) {e:pC}(hr:UZ f (qC T t) sx=some e):pS P o a g w H e:=by
 generalize hs:qC T t=ot at hr;replace hx:=hx.1;unfold UZ at hr;split at hr
 ·rename_i ty el by' ls_ u y _;split at hr
  ·rename_i hu;subst hu;have hty:=s0 hT hs;generalize hp:u.proj y f=q at hr;cases q with
   |none=>cases hr
   |some q=>
    obtain⟨u,z⟩:=q;cases hr;have hrow:=aD5 hp;obtain⟨cs,hv,hR⟩:=HR hrow hx;obtain⟨oo,c1,c2,c3,h1,h2,rfl,rfl,h5⟩:=VK hR hp;obtain⟨fs,hfs,hfe⟩:=a55 hty hrow rfl;obtain⟨fd,k1,k2,k3,k4⟩:=VL hfe h1 h2;obtain⟨v,hv1,hv2⟩:=MJ k3 k4 (P:=P) (c1:=c1) (c3:=c3) h5;refine pS.pure hH (v:=v) ?_ hv2;have k1':fs[f]? =some fd:=by simpa using k1
    simp only[execOp,ho,hv,Instr.field,aMY,aM3 hfs,aMT,k1',asAgg,aM6,k2,aNd,hv1]
  ·cases hr
 ·cases hr
theorem VO {t:TypeId}{ti:TI}(hty:sF P t ti) (har:ti.arr=false) {f oo:Nat}{u:Ty}(h1:ti.ty.offs f=some oo) (h2:ti.ty.fld f=some u) (hpos:0<u.cells) (b off:Nat):
  (Instr.fieldAt t (.pointer (some ⟨b,off,none⟩)) f).run P w= .ok (.pointer (some ⟨b,off+oo,none⟩)) w:=by
 obtain⟨fs,hfs,hfe⟩:=a55 hty (aD6 h1) har;obtain⟨fd,k1,k2,k3,k4⟩:=VL hfe h1 h2;obtain⟨i,hi,hsz⟩:=aMZ.1 k3;have k1':fs[f]? =some fd:=by simpa using k1
 have hne: ¬(u.cells=0):=by omega
 simp only[Instr.fieldAt,aMY,aM3 hfs,aMT,k1',Instr.sureAddr,aM6,fieldPlace,sizeOf,typeInfo,aNJ,hi,hsz,aMK hne,k2,aNd,aNW]
theorem aD9 {t:TypeId}{x:Operand}{f:Nat}(ho:o.op= .fieldAddr t x f) {sx:oZ}(hx:pW g w sx (a.eval x)) {e:pC}(hr:UY f (qC T t) sx=some e):pS P o a g w H e:=by
 generalize hs:qC T t=ot at hr;replace hx:=hx.1;unfold UY at hr;split at hr
 ·rename_i ty el by' ls_ k n c i o' _;have hty:=s0 hT hs;generalize h1:ty.offs f=o1 at hr;generalize h2:ty.fld f=o2 at hr;unfold a5G at hr;split at hr
  ·split at hr
   ·rename_i oo u hpos;cases hr;obtain⟨b,cap,hc,hi0,hi1,hv⟩:=hx;refine pS.pure hH (v:= .pointer (some ⟨b,i.toNat*c+o'+oo,none⟩)) ?_ ⟨b,cap,hc,hi0,hi1,by rw[aNn]⟩;simp only[execOp,ho,hv,aMY,VO hT hH hty rfl h1 h2 hpos,aMT,aM6]
   ·cases hr
  ·cases hr
 ·rename_i ty el by' ls_ u y _;split at hr
  ·rename_i hu;subst hu;have hty:=s0 hT hs;generalize hp:u.proj y f=q at hr;cases q with
   |none=>cases hr
   |some q=>
    obtain⟨u,z⟩:=q;simp only[PJ] at hr;split at hr
    ·rename_i hpos;cases hr;obtain⟨b,off,cs,hv,hra,hS,hR⟩:=hx;obtain⟨oo,c1,c2,c3,h1,h2,rfl,rfl,h5⟩:=VK hR hp;refine pS.pure hH (v:= .pointer (some ⟨b,off+c1.length,none⟩)) ?_ ⟨b,off+c1.length,c2,rfl,fun j v hj=> ?_,fun j hj=> ?_,h5⟩
     ·simp only[execOp,ho,hv,aMY,VO hT hH hty rfl h1 h2 hpos,aMT,aM6]
     ·have:=hra (c1.length+j) v (by
       have hj':=(aMX.1 hj).1;rw[aMU,aMV (by omega),aNv,aM0 hj'];exact hj)
      rw[aNn];exact this
     ·have:=hS (c1.length+j) (by
       have:=rP hR;have h6:=rP h5;simp only[aMN] at this;omega)
      rw[aNn];exact this
    ·cases hr
  ·cases hr
 ·rename_i ty el by' ls_ i off _;have hty:=s0 hT hs;generalize h1:ty.offs f=o1 at hr;generalize h2:ty.fld f=o2 at hr;unfold PL at hr;split at hr
  ·split at hr
   ·rename_i oo u hpos;cases hr;obtain⟨p,hp,hv⟩:=xT hx;refine pS.pure hH (v:= .pointer (some ⟨p.1,p.2+off+oo,none⟩)) ?_ (.inr ⟨rfl,p,hp,by rw[aNn]⟩);simp only[execOp,ho,hv,aMY,VO hT hH hty rfl h1 h2 hpos,aMT,aM6]
   ·cases hr
  ·cases hr
 ·cases hr
theorem aEa {x:Operand}{i:Nat}(ho:o.op= .extract x i) {sx:oZ}(hx:pW g w sx (a.eval x)) {e:pC}(hr:V2 i sx=some e) (hs: ∀p∈e.side,p):pS P o a g w H e:=by
 replace hx:=hx.1;unfold V2 at hr;split at hr
 rotate_left
 ·rename_i b p c _;have run: ∀(v:Value) (vs:Array Value),a.eval x= .tuple vs->vs[i]? =some v->(execOp a.eval o).run P w= .ok (.value v) w:=by
   intro v vs h1 h2;simp [execOp,ho,h1,Instr.extract,h2]
  obtain⟨h1,h2⟩:=hx;unfold a5H at hr;split at hr
  ·cases hr;cases b with
   |true=>exact pS.pure hH (run (.bool true) _ (h1 rfl) rfl) (uZ _ _ _)
   |false=>exact pS.pure hH (run (.bool false) _ (h2 rfl) rfl) (uZ _ _ _)
  ·cases hr;have hb:=hs (b=true) (by simp);exact pS.pure hH (run (.int .i64 p) _ (h1 hb) rfl) (uY _ _ _ _)
  ·cases hr;have hb:=hs (b=true) (by simp);exact pS.pure hH (run (.int .i32 c) _ (h1 hb) rfl) (uY _ _ _ _)
  ·cases hr
 rotate_left
 ·rename_i l _;obtain⟨vs,hv,hl⟩:=hx;have key: ∀(l:List ((Σ t:Ty,t.den)×Option Nat)) (vs:List Value) (i:Nat),JL g w l vs->PM l i=some e->∃v,vs[i]? =some v/\pW g w e.slot v/\e.upd=[]/\e.rds=[]:=by
   intro l
   induction l with
   |nil=>intro vs i _ h;cases i<;>cases h
   |cons q l ih=>
    obtain⟨⟨t,x⟩,k⟩:=q;rintro vs i ⟨v,vs',rfl,r1,r2,r3⟩ h;cases i with
    |zero=>
     simp only[PM,aMJ] at h;subst h;refine⟨v,rfl,⟨r1,?_⟩,rfl,rfl⟩;cases k with
     |none=>trivial
     |some k=>exact r2
    |succ i=>
     obtain⟨v',h1,h2,h3,h4⟩:=ih vs' i r3 h;exact⟨v',by simpa using h1,h2,h3,h4⟩
  obtain⟨v,h1,h2,h3,h4⟩:=key l vs i hl hr;obtain⟨side,slot,upd,rds⟩:=e;simp only at h2 h3 h4;subst h3;refine pS.value (v:=v) (g':=g) (w':=w) ?_ (.pure hH h2);have:vs.toArray[i]? =some v:=by simpa using h1
  simp [execOp,ho,hv,Instr.extract,this]
 ·cases hr
theorem aEb {x:Operand}(ho:o.op= .nilCheck x) {sx:oZ}(hx:pW g w sx (a.eval x)) {e:pC}(hr:UX sx=some e):pS P o a g w H e:=by
 replace hx:=hx.1;unfold UX at hr;split at hr
 ·rename_i p _;obtain⟨i,off⟩:=p;cases hr;obtain⟨p,hp,hv⟩:=xT hx;refine pS.pure hH (v:=a.eval x) ?_ hx;simp [execOp,ho,hv]
 ·cases hr;obtain⟨b,off,cs,hv,h⟩:=hx;refine pS.pure hH (v:=a.eval x) ?_ ⟨b,off,cs,hv,h⟩;simp [execOp,ho,hv]
 ·cases hr;obtain⟨b,cap,h1,h2,h3,hv⟩:=hx;refine pS.pure hH (v:=a.eval x) ?_ ⟨b,cap,h1,h2,h3,hv⟩;simp [execOp,ho,hv]
 ·cases hr
theorem aEc {t:TypeId}{x ix:Operand}(ho:o.op= .index t x ix) {sx si:oZ}(hx:pW g w sx (a.eval x)) (hi:pW g w si (a.eval ix)) {e:pC}(hr:V1 (qC T t) sx si=some e) (hs: ∀p∈e.side,p):pS P o a g w H e:=by
 generalize hst:qC T t=ot at hr;replace hx:=hx.1;replace hi:=hi.1;unfold V1 at hr;split at hr
 ·rename_i _ _ _ _ l _ k i _;cases hr;have hb:=hs _ (aMW.2 rfl);have h2:=(s0 hT hst).2;simp only[wJ] at h2;have hv:=xR hx;have hvi:=vC hi;have hlt:(Int.toNat i)<List.length l:=wK hb.1 hb.2;refine pS.pure hH (v:= .int .u8 (pI l i)) ?_ (uY _ _ _ _);have hget:(if (0:Int)<=i then(⟨List.toArray l⟩:ByteArray)[Int.toNat i]? else none)=some (l[Int.toNat i]):=by
   rw[aMI hb.1];exact aD7 l _ hlt
  have hbyte:pI l i=((l[Int.toNat i]).toNat:Int):=by
   unfold pI;rw[aNa,aMR hlt];rfl
  simp only[execOp,ho,hv,hvi,Instr.index,asIntOf,aMY,aM6,aMT,aM3 h2,hget,hbyte]
 ·cases hr
theorem aEd {t:TypeId}{x ix:Operand}(ho:o.op= .indexAddr t x ix) {sx si:oZ}(hx:pW g w sx (a.eval x)) (hi:pW g w si (a.eval ix)) {e:pC}(hr:V0 (qC T t) sx si=some e) (hs: ∀p∈e.side,p):pS P o a g w H e:=by
 generalize hst:qC T t=ot at hr;replace hx:=hx.1;replace hi:=hi.1;unfold V0 at hr;split at hr
 ·rename_i t' el by' ar ls_ k n _ k' i _;split at hr
  ·rename_i hpos;cases hr;have hb:=hs _ (aMW.2 rfl);obtain⟨h2,h3,_⟩:=(s0 hT hst).2;obtain⟨ei,hei,hz⟩:=aMZ.1 h3;simp only[aM9] at hz;have hvi:=vC hi;obtain⟨hc,hv⟩:=hx;rcases hv with⟨_,rfl⟩ |⟨b,cap,hv,hcap⟩
   ·exact absurd (Int.lt_of_le_of_lt hb.1 hb.2) (Int.lt_irrefl 0)
   refine pS.pure hH (v:= .pointer (some ⟨b,0+Int.toNat i*t'.cells,none⟩)) ?_ ⟨b,cap,by rw[<-hv];exact hc,hb.1,hb.2,by rw[aNd,aNN]⟩;simp only[execOp,ho,hv,hvi,Instr.indexAt,asIntOf,aMY,aM6,aMT,aM3 h2,sizeOf,typeInfo,aNJ,hei,hz.1,aMI hb,aNW]
  ·cases hr
 ·rename_i t' el by' ar ls_ t1 l _ k i _;split at hr
  ·rename_i htt;subst htt;cases hr;have hb:=hs _ (aMW.2 rfl);obtain⟨h2,h3,_⟩:=(s0 hT hst).2;obtain⟨ei,hei,hz⟩:=aMZ.1 h3;simp only[aM9] at hz;have hvi:=vC hi;obtain⟨ad,cap,hv,hle,hl⟩:=CK hx;have hlt:(Int.toNat i)<List.length l:=wK hb.1 hb.2;rcases hl with rfl|⟨b,off,rfl,hL⟩
   ·simp at hlt
   have hnth:l[Int.toNat i]? =some (qG t1 l i):=by
    unfold qG;rw[aNa,aMR hlt];rfl
   obtain⟨cs,hc1,hc2,hc3,hc4⟩:=QD hL hnth;refine pS.pure hH (v:= .pointer (some ⟨b,off+Int.toNat i*t1.cells,none⟩)) ?_ ⟨b,_,cs,rfl,hc2,hc3,hc4⟩;simp only[execOp,ho,hv,hvi,Instr.indexAt,asIntOf,aMY,aM6,aMT,aM3 h2,sizeOf,typeInfo,aNJ,hei,hz.1,aMI hb,aNW]
  ·cases hr
 ·rename_i s u el by' ls_ i off _ k n _;have hty:=s0 hT hst;generalize h1:(Ty.pair s u).offs (Int.toNat n)=o1 at hr;generalize h2:(Ty.pair s u).fld (Int.toNat n)=o2 at hr;unfold PL at hr;split at hr
  ·split at hr
   ·rename_i oo v hpos;cases hr;have hn0:=hs _ (aMW.2 rfl);obtain⟨p,hp,hv⟩:=xT hx;have hvi:=vC hi;obtain⟨len,el',hu,hel,_⟩:=a56 hty rfl rfl;obtain⟨k1,k2,k3,k4⟩:=VM hel h1 h2;obtain⟨ei,hei,hz⟩:=aMZ.1 k2;have hb:(0:Int)<=n/\(n:Int)<(len:Int):=⟨hn0,a57 hn0 k1⟩;refine pS.pure hH (v:= .pointer (some ⟨p.1,p.2+off+oo,none⟩)) ?_ (.inr ⟨rfl,p,hp,by rw[aNn]⟩);simp only[execOp,ho,hv,hvi,Instr.indexAt,Instr.sureAddr,asIntOf,aMY,aM6,aMT,aM3 hu,sizeOf,typeInfo,aNJ,hei,hz,aMI hb,aNW,k4]
   ·cases hr
  ·cases hr
 ·rename_i s u el by' ls_ u' y _ k n _;split at hr
  ·rename_i hu';subst hu';have hty:=s0 hT hst;generalize hp:(Ty.pair s u).proj y (Int.toNat n)=q at hr;cases q with
   |none=>cases hr
   |some q=>
    obtain⟨v,z⟩:=q;simp only[PJ] at hr;split at hr
    ·rename_i hpos;cases hr;have hn0:=hs _ (aMW.2 rfl);obtain⟨b,off,cs,hv,hra,hS,hR⟩:=hx;have hvi:=vC hi;obtain⟨oo,c1,c2,c3,h1,h2,rfl,rfl,h5⟩:=VK hR hp;obtain⟨len,el',hu,hel,_⟩:=a56 hty rfl rfl;obtain⟨k1,k2,k3,k4⟩:=VM hel h1 h2;obtain⟨ei,hei,hz⟩:=aMZ.1 k2;have hb:(0:Int)<=n/\(n:Int)<(len:Int):=⟨hn0,a57 hn0 k1⟩;refine pS.pure hH (v:= .pointer (some ⟨b,off+c1.length,none⟩)) ?_ ⟨b,off+c1.length,c2,rfl,fun j v hj=> ?_,fun j hj=> ?_,h5⟩
     ·simp only[execOp,ho,hv,hvi,Instr.indexAt,Instr.sureAddr,asIntOf,aMY,aM6,aMT,aM3 hu,sizeOf,typeInfo,aNJ,hei,hz,aMI hb,aNW,<-k4]
     ·have:=hra (c1.length+j) v (by
       have hj':=(aMX.1 hj).1;rw[aMU,aMV (by omega),aNv,aM0 hj'];exact hj)
      rw[aNn];exact this
     ·have:=hS (c1.length+j) (by
       have:=rP hR;have h6:=rP h5;simp only[aMN] at this;omega)
      rw[aNn];exact this
    ·cases hr
  ·cases hr
 ·cases hr
end
theorem a58 (off:Nat): ∀(vl:List Value) (k:Nat) (cs:Array Value) (c1 c2 c3:List Value),cs.toList=c1++c2++c3->c1.length=off+k->c2.length=vl.length->
  ((vl.zipIdx k).foldl (fun(cs:Array Value) (p:Value×Nat)=>cs.setIfInBounds (off+p.2) p.1) cs).toList=c1++vl++c3
 |[],_,cs,c1,c2,c3,h,_,h2=>by
  have:c2=[]:=aNb (by simpa using h2);subst this;simpa using h
 |v::vl,k,cs,c1,c2,c3,h,h1,h2=>by
  cases c2 with
  |nil=>simp at h2
  |cons u c2=>
   simp only[List.zipIdx_cons,List.foldl_cons];have:=a58 off vl (k+1) (cs.setIfInBounds (off+k) v) (c1++[v]) c2 c3 (by
    rw[Array.toList_setIfInBounds,h,<-h1];simp) (by simp;omega) (by simpa using h2)
   rw[this];simp
theorem aEe (off:Nat) (vs cs:Array Value) (c1 c2 c3:List Value) (h:cs.toList=c1++c2++c3) (h1:c1.length=off) (h2:c2.length=vs.size):
  (vs.zipIdx.foldl (fun(cs:Array Value) (x:Value×Nat)=>match x with|(c,j)=>cs.setIfInBounds (off+j) c) cs).toList=c1++vs.toList++c3:=by
 rw[<-aOL,Array.toList_zipIdx];exact a58 off vs.toList 0 cs c1 c2 c3 h (by omega) (by simpa using h2)
theorem a59 {place:Nat->Option (Nat×Nat)}{cells:Array Value}{i:Nat}{v:Value}{rest:List (Nat×Value)}{off size:Nat}{c1 c2 c3:List Value}(hp:place i=some (off,size)) (hs:v.cells.size=size)
  (h:cells.toList=c1++c2++c3) (h1:c1.length=off) (h2:c2.length=size):
  Instr.fill place cells ((i,v)::rest)=Instr.fill place (c1++v.cells.toList++c3).toArray rest:=by
 have hsz:cells.size=c1.length+c2.length+c3.length:=by rw[<-aNi,h];simp;omega
 simp only[Instr.fill,hp];rw[aMK (by simp [hs];omega)];congr 1;apply aNS.1;rw[aEe off v.cells cells c1 c2 c3 h h1 (by omega)]
theorem VP: ∀{t:Ty}{cs:List Value},J9 t=false->cs.length=t.cells->vV t cs
 | .bool,_,_,_=>trivial
 | .int _,_,_,_=>trivial
 | .str,_,_,_=>trivial
 | .unit,_,_,_=>trivial
 | .ref,_,_,_=>trivial
 | .clo,_,_,_=>trivial
 | .mp,_,_,_=>trivial
 | .rl _ _,_,_,_=>trivial
 | .fn,_,_,_=>trivial
 | .mref,_,_,_=>trivial
 | .list _,_,h,_=>by simp [J9] at h
 | .pair a b,cs,h,hl=>by
  simp only[J9,aOb] at h;simp only[Ty.cells] at hl;exact⟨cs.take a.cells,cs.drop a.cells,by simp,by rw[aM5];omega,VP h.1 (by rw[aM5];omega),VP h.2 (by rw[aMP];omega)⟩
theorem VQ: ∀t:Ty,(sJ t).length=t.cells
 | .bool=>rfl
 | .int _=>rfl
 | .str=>rfl
 | .unit=>rfl
 | .ref=>rfl
 | .clo=>rfl
 | .mp=>rfl
 | .rl _ _=>rfl
 | .fn=>rfl
 | .mref=>rfl
 | .list _=>rfl
 | .pair a b=>by simp only[sJ,aMN,VQ a,VQ b,Ty.cells]
theorem QE: ∀t:Ty,vV t (sJ t)
 | .bool=>trivial
 | .int _=>trivial
 | .str=>trivial
 | .unit=>trivial
 | .ref=>trivial
 | .clo=>trivial
 | .mp=>trivial
 | .rl _ _=>trivial
 | .fn=>trivial
 | .mref=>trivial
 | .list _=>rfl
 | .pair a b=>⟨sJ a,sJ b,rfl,VQ a,QE a,QE b⟩
theorem a6a {g:Gh}{w:World}: ∀{t:Ty}{x:t.den}{cs:List Value}{o:Nat},vV t cs->Rd g w t x cs->D6 t o=true->∃(u:Ty),pO (.list u) t x o=some []/\cs[o]? =some (.slice none 0 0):=by
 intro t
 induction t with
 |pair a b iha ihb=>
  intro x cs o hn hr hl;obtain⟨c1,c2,e,h1,h2,h3⟩:=hn;obtain⟨d1,d2,e',r1,r2⟩:=hr;have hd:c1=d1/\c2=d2:=aOJ (e.symm.trans e') (by rw[h1,rP r1]);obtain⟨rfl,rfl⟩:=hd;have key: ∀(u:Ty) q,pO (.list u) (.pair a b) x q=if q<a.cells then pO (.list u) a x.1 q else pO (.list u) b x.2 (q-a.cells):=by
   intro u q;cases q with
   |zero=>
    conv=>lhs;unfold pO
    rw[aOq (by intro e;cases e),Nat.zero_sub]
   |succ q=>simp [pO]
  have hl':(if o<a.cells then D6 a o else D6 b (o-a.cells))=true:=by
   cases o<;>simpa[D6] using hl
  by_cases ho:o<a.cells
  ·rw[aMI ho] at hl';obtain⟨u,k1,k2⟩:=iha h2 r1 hl';exact⟨u,by rw[key,aMI ho];exact k1,by rw[e,aM0 (by omega)];exact k2⟩
  ·rw[aMK ho] at hl';obtain⟨u,k1,k2⟩:=ihb h3 r2 hl';exact⟨u,by rw[key,aMK ho];exact k1,by rw[e,aMV (by omega),h1];exact k2⟩
 |list u=>
  intro x cs o hn hr hl;cases o with
  |succ o=>simp [D6] at hl
  |zero=>
   obtain⟨a,cap,e,_,_⟩:=hr;have hn':cs=[.slice none 0 0]:=hn;rw[hn'] at e;simp only[aNB,aOM,and_true] at e;have:(x:List u.den)=[]:=aNb e.2.1.symm;subst this;exact⟨u,by unfold pO;simp [sY],by rw[hn'];rfl⟩
 |_=>intro x cs o hn hr hl;cases o<;>simp [D6] at hl
theorem aEf {g:Gh}{w:World}{u:Ty}{y:u.den}{cy:List Value}(hy:Rd g w u y cy): ∀{t:Ty}{x z:t.den}{cs:List Value}{f:Nat},Rd g w t x cs->Ty.setPart u y t x f=some z->
  ∃o c1 c2 c3,t.offs f=some o/\t.fld f=some u/\cs=c1++c2++c3/\c1.length=o/\c2.length=u.cells/\Rd g w t z (c1++cy++c3)/\(vV t cs->vV u cy->vV t (c1++cy++c3)):=by
 intro t
 induction t with
 |pair a b _ ihb=>
  intro x z cs f r h;obtain⟨c1,c2,e,r1,r2⟩:=r;cases f with
  |zero=>
   simp only[Ty.setPart] at h;split at h
   ·rename_i hu;subst hu;simp only[sY,aMJ] at h;subst h;refine⟨0,[],c1,c2,rfl,rfl,by simpa using e,rfl,rP r1,⟨cy,c2,by simp,hy,r2⟩,fun⟨d1,d2,e',k1,_,k3⟩ hcy=> ?_⟩;obtain⟨rfl,rfl⟩:=aOJ (e'.symm.trans e) (by rw[k1,rP r1]);exact⟨cy,d2,by simp,rP hy,hcy,k3⟩
   ·cases h
  |succ f=>
   simp only[Ty.setPart,aMZ] at h;obtain⟨q,hq,rfl⟩:=h;obtain⟨o,d1,d2,d3,h1,h2,h3,h4,h5,h6,h7⟩:=ihb r2 hq;refine⟨a.cells+o,c1++d1,d2,d3,by simp [Ty.offs,h1],by simpa[Ty.fld] using h2,by rw[e,h3];simp,?_,h5,⟨c1,d1++cy++d3,by simp,r1,h6⟩,fun⟨k1,k2,e',k3,k4,k5⟩ hcy=>by
    obtain⟨rfl,rfl⟩:=aOJ (e'.symm.trans e) (by rw[k3,rP r1]);exact⟨k1,d1++cy++d3,by simp,k3,k4,h7 k5 hcy⟩⟩
   rw[aMN,h4,rP r1]
 |_=>intro x z cs f r h;cases f<;>simp [Ty.setPart] at h
theorem VR {g:Gh}{w:World}{t:Ty}{ev:Operand->Value}{ρ:Operand->oZ}{place:Nat->Option (Nat×Nat)}(hp: ∀f o u,t.offs f=some o->t.fld f=some u->place f=some (o,u.cells)):
  ∀(ps:List (Nat×Operand)) (x z:t.den) (cs:List Value),Rd g w t x cs->(∀q∈ps,pW g w (ρ q.2) (ev q.2))->zL t (some x) (t7 ρ ps)=some z->
  ∃cs',Instr.fill place cs.toArray (ps.map fun q=>(q.1,ev q.2))=some cs'.toArray/\Rd g w t z cs'/\(A7 (t7 ρ ps)=true->vV t cs->vV t cs')
 |[],x,z,cs,r,_,h=>by
  simp only[t7,zL,aMJ] at h;subst h;exact⟨cs,rfl,r,fun _ h=>h⟩
 |(i,q)::ps,x,z,cs,r,hq,h=>by
  have h0:=hq (i,q) (by simp);have step: ∀{u:Ty}{y:u.den}{z1:t.den},rZ g w u y (ev q)->Ty.setPart u y t x i=some z1->zL t (some z1) (t7 ρ ps)=some z->(A7 (t7 ρ ((i,q)::ps))=true->vV u (ev q).cells.toList/\A7 (t7 ρ ps)=true)->
    ∃cs',Instr.fill place cs.toArray (((i,q)::ps).map fun q=>(q.1,ev q.2))=some cs'.toArray/\Rd g w t z cs'/\(A7 (t7 ρ ((i,q)::ps))=true->vV t cs->vV t cs'):=by
   intro u y z1 hv hset h hpl;obtain⟨o,c1,c2,c3,h1,h2,rfl,h4,h5,h6,h7⟩:=aEf (DC hv) r hset;obtain⟨cs',hf,hr,hn⟩:=VR hp ps z1 z _ h6 (fun q hq'=>hq q (by simp [hq'])) h;refine⟨cs',?_,hr,fun hpp hcs=>hn (hpl hpp).2 (h7 hcs (hpl hpp).1)⟩;simp only[aNT];rw[a59 (hp i o u h1 h2) (by have:=rP (DC hv);simpa using this) (c1:=c1) (c2:=c2) (c3:=c3) (by simp) h4 h5];exact hf
  generalize hs:ρ q=s at h0;simp only[t7,hs] at h;obtain⟨d,k⟩:=s;cases d with
  |val u y=>
   simp only[zL] at h;generalize hset:Ty.setPart u y t x i=o1 at h;cases o1 with
   |none=>cases ps with
    |nil=>simp [t7,zL] at h
    |cons p ps=>simp [t7,zL] at h
   |some z1=>
    have hpl:A7 (t7 ρ ((i,q)::ps))=true->vV u (ev q).cells.toList/\A7 (t7 ρ ps)=true:=by
     intro hpp;simp only[t7,hs,A7,aMS,aNh] at hpp;exact⟨VP hpp.1 (rP (DC h0.1)),hpp.2⟩
    obtain⟨cs',k1,k2,k3⟩:=step h0.1 hset h hpl;exact⟨cs',k1,k2,k3⟩
  |nilS=>
   simp only[zL] at h;generalize hfl:t.fld i=fl at h;cases fl with
   |none=>cases ps<;>simp [OT,t7,zL] at h
   |some u=>
    cases u with
    |list u=>
     simp only[OT] at h;generalize hset:Ty.setPart (.list u) [] t x i=o1 at h;cases o1 with
     |none=>cases ps<;>simp [t7,zL] at h
     |some z1=>
      have hev:ev q= .slice none 0 0:=h0.1;refine step (u:= .list u) (y:=[]) ?_ hset h (fun hpp=> ?_)
      ·rw[hev];exact .inr ⟨rfl,none,0,rfl,aM2 _,.inl rfl⟩
      ·simp only[t7,hs,A7] at hpp;exact⟨by rw[hev];rfl,hpp⟩
    |_=>cases ps<;>simp [OT,t7,zL] at h
  |_=>simp [zL] at h
section
variable {P:Program}{o:Oper}{a:Act}{g:Gh}{w:World}{H:qO}{T:rO}(hT:vK P T) (hH:rH g w H)
include hT hH
theorem a6b {P:Program}(w:World): ∀(fs:List Field),(∀f∈fs,∃n,(P.info? f.type).map (·.size)=some n)->
  (fs.mapM (fun f=>do pure (f.offset,<-sizeOf f.type):Field->Sem (Nat×Nat))).run P w= .ok (fs.map fun f=>(f.offset,((P.info? f.type).map (·.size)).getD 0)) w
 |[],_=>rfl
 |f::fs,h=>by
  obtain⟨n,hn⟩:=h f (by simp);obtain⟨i,hi,hsz⟩:=aMZ.1 hn;rw[List.mapM_cons];simp only[aMY,sizeOf,typeInfo,aNJ,hi,aMT,aM6];have:=a6b w fs (fun f hf=>h f (by simp [hf]));simp only[sizeOf,typeInfo,aMY,aNJ] at this;rw[this];simp [hi]
theorem aEg {P:Program}: ∀{ty:Ty}{off:Nat}{fs:List Field},JN P ty off fs->∀f∈fs,∃n,(P.info? f.type).map (·.size)=some n:=by
 intro ty
 induction ty with
 |pair a b _ ihb=>
  intro off fs h f hf;cases fs with
  |nil=>cases hf
  |cons fd fs=>
   obtain⟨_,h2,_,h4⟩:=h;rcases aM1.1 hf with rfl|hf
   ·exact⟨_,h2⟩
   ·exact ihb h4 f hf
 |unit=>intro off fs h f hf;cases fs with|nil=>cases hf|cons=>exact h.elim
 |_=>intro off fs h f hf;cases fs<;>exact h.elim
omit hT hH in
theorem QF {t:Ty}{x:t.den}{cs:List Value}{ps:List (Nat×oZ)}(h:A7 ps=true->vV t (sJ t)->vV t cs):match ((DV.val t x,UK t (A7 ps)):oZ) with
  |(_,none)=>True
  |(.val t x,some k)=>BS g t x (.agg cs.toArray) (some k)
  |(_,some _)=>False:=by
 cases hp:A7 ps with
 |false=>cases t<;>trivial
 |true=>
  cases t with
  |pair a b=>
   have:=h hp (QE _);simpa[UK,BS,Value.cells] using this
  |_=>trivial
omit hT in
theorem pS.pureS {s:oZ}{v:Value}(hr:(execOp a.eval o).run P w= .ok (.value v) w) (hs:pW g w s v):pS P o a g w H ⟨[],s,[],[]⟩:=
 pS.value hr (.pure hH hs)
theorem aEh {t:TypeId}{ps:Array (Nat×Operand)}(ho:o.op= .build t ps) {ρ:Operand->oZ}(hρ: ∀q∈ps.toList,pW g w (ρ q.2) (a.eval q.2)) {e:pC}(hr:UL (t7 ρ ps.toList) (qC T t)=some e):pS P o a g w H e:=by
 generalize hs:qC T t=ot at hr;cases ot with
 |none=>cases hr
 |some ti=>
  have hty:=s0 hT hs;simp only[UL] at hr;by_cases hrow:ti.ty.isRow=true
  case neg=>rw[aMK hrow] at hr;cases hr
  rw[aMI hrow] at hr;generalize hb:zL ti.ty (some ti.ty.zero) (t7 ρ ps.toList)=ox at hr;cases ox with
  |none=>cases hr
  |some x=>
   cases hr;obtain⟨i,hi,hsz,hz⟩:=DD hty;have hzv:vJ ti.ty= .agg (sJ ti.ty).toArray:=by unfold vJ;rw[aMI hrow]
   have hzr: ∀w,(zeroValue t).run P w= .ok (.agg (sJ ti.ty).toArray) w:=by
    intro w;simp [zeroValue,typeInfo,hi,hz,hzv]
   have hmap:(ps.map fun(q:Nat×Operand)=>(q.1,a.eval q.2)).toList=ps.toList.map fun q=>(q.1,a.eval q.2):=by simp
   rcases VN hty hrow with⟨har,fs,hfs,hfe⟩ |⟨har,n,el,hu,hel,hsome⟩
   ·have hpl:=a6b (P:=P) hT hH w fs.toList (aEg hT hH hfe);obtain⟨cs',hf,hR,hN⟩:=VR (g:=g) (w:=w) (ev:=a.eval) (ρ:=ρ) (t:=ti.ty) (place:=fun j=>((fs.map fun f=>(f.offset,((P.info? f.type).map (·.size)).getD 0))[j]?)) (fun f oo u h1 h2=>by
     obtain⟨fd,k1,k2,k3,_⟩:=VL hfe h1 h2;have k1':fs[f]? =some fd:=by simpa using k1
     simp [k1',k2,k3]) ps.toList ti.ty.zero x (sJ ti.ty) (CJ g w ti.ty) hρ hb
    refine pS.pureS hH (v:= .agg cs'.toArray) ?_ ⟨.inl ⟨hrow,cs',rfl,hR⟩,QF hN⟩;have hmp:(fs.mapM (fun f=>do pure (f.offset,<-sizeOf f.type):Field->Sem (Nat×Nat))).run P w= .ok (fs.map fun f=>(f.offset,((P.info? f.type).map (·.size)).getD 0)) w:=by
     rw[Array.mapM_eq_mapM_toList,Sem.run_map,hpl];simp only[aMT];congr 1;apply aNS.1;simp
    simp only[execOp,ho,Instr.build,aMY,hzr,aMT,aM3 hfs,hmp,Value.cells];rw[hmap,hf];rfl
   ·obtain⟨cs',hf,hR,hN⟩:=VR (g:=g) (w:=w) (ev:=a.eval) (ρ:=ρ) (t:=ti.ty) (place:=fun j=>some (j*((P.info? el).map (·.size)).getD 0,((P.info? el).map (·.size)).getD 0)) (fun f oo u h1 h2=>by
     obtain⟨k1,k2,k3,k4⟩:=VM hel h1 h2;simp [k2,k4]) ps.toList ti.ty.zero x (sJ ti.ty) (CJ g w ti.ty) hρ hb
    refine pS.pureS hH (v:= .agg cs'.toArray) ?_ ⟨.inl ⟨hrow,cs',rfl,hR⟩,QF hN⟩;obtain⟨ei,hei⟩:=aMM.1 hsome;simp only[hei,Option.map_some,aN1] at hf;simp only[execOp,ho,Instr.build,aMY,hzr,aMT,aM3 hu,sizeOf,typeInfo,aNJ,hei,aM6,Value.cells];rw[hmap,hf];rfl
theorem VS {ρ:Operand->oZ}{ev:Operand->Value}: ∀{xs:List Operand}{ss:List oZ},(∀x∈xs,pW g w (ρ x) (ev x))->uA ρ xs=ss->∃vs,xs.map ev=vs/\vs.length=ss.length/\∀(i:Nat) (s:oZ) (v:Value),ss[i]? =some s->vs[i]? =some v->pW g w s v
 |[],_,_,h=>⟨[],rfl,by rw[<-h];rfl,fun i s v _ hv=>by simp at hv⟩
 |x::xs,ss,hx,h=>by
  subst h;obtain⟨vs,h1,h2,h3⟩:=VS (fun y hy=>hx y (by simp [hy])) rfl (xs:=xs);refine⟨ev x::vs,by simp [h1],by simp [uA,h2],fun i s v hs hv=> ?_⟩;cases i with
  |zero=>
   simp only[uA,aNe,aMJ] at hs hv;subst hs;subst hv;exact hx x (by simp)
  |succ i=>
   simp only[uA,aNk] at hs hv;exact h3 i s v hs hv
theorem QG {ρ:Operand->oZ}{ev:Operand->Value}{args:Array Operand}{s:oZ}(hρ: ∀x∈args.toList,pW g w (ρ x) (ev x)) (h:uA ρ args.toList=[s]): ∃v,args.map ev= #[v]/\pW g w s v:=by
 obtain⟨vs,h1,h2,h3⟩:=VS hT hH hρ h;obtain⟨v,rfl⟩:=aN2.1 h2;exact⟨v,by apply aNS.1;simpa using h1,h3 0 s v rfl rfl⟩
theorem QH {ρ:Operand->oZ}{ev:Operand->Value}{args:Array Operand}{s t:oZ}(hρ: ∀x∈args.toList,pW g w (ρ x) (ev x)) (h:uA ρ args.toList=[s,t]): ∃v u,args.map ev= #[v,u]/\pW g w s v/\pW g w t u:=by
 obtain⟨vs,h1,h2,h3⟩:=VS hT hH hρ h
 match vs,h2 with
 |[v,u],_=>exact⟨v,u,by apply aNS.1;simpa using h1,h3 0 s v rfl rfl,h3 1 t u rfl rfl⟩
theorem EL {b:Builtin}{args:Array Operand}{tys:Array TypeId}(ho:o.op= .call ⟨.builtin b,args,tys⟩):
  ∃cs,execOp a.eval o=builtin b tys o.type cs (args.map a.eval):=by
 refine⟨args.map fun| .const _=>true|_=>false,?_⟩
 unfold execOp;rw[ho];rfl
theorem aEi (x y:Int):(if y<x then y else x)=min x y:=by rw[Int.min_def];split<;>split<;>omega
theorem aEj (x y:Int):(if y>x then y else x)=max x y:=by rw[Int.max_def];split<;>split<;>omega
theorem aEk {args:Array Operand}{tys:Array TypeId}(ho:o.op= .call ⟨.builtin .len,args,tys⟩) {ρ:Operand->oZ}(hρ: ∀x∈args.toList,pW g w (ρ x) (a.eval x)) {e:pC}
  (hr:PT T H (uA ρ args.toList) tys.toList=some e):pS P o a g w H e:=by
 obtain⟨t0,tr,htl⟩: ∃t0 tr,tys.toList=t0::tr:=by cases h:tys.toList with|nil=>(rw[h] at hr;cases hr) |cons t r=>exact⟨t,r,rfl⟩
 have ht0:tys[0]? =some t0:=by rw[<-aNQ,htl];rfl
 rw[htl] at hr;simp only[PT] at hr;generalize hst:qC T t0=ot at hr;generalize hss:uA ρ args.toList=ss at hr;unfold V3 at hr;split at hr
 ·rename_i el fl ar ls_ i k;generalize hb:p9 H i=ob at hr;unfold PN at hr;split at hr
  ·rename_i kt vt l;cases hr;obtain⟨v,hv,hs⟩:=QG hT hH hρ hss;have h2:=(s0 hT hst).2;simp only[wJ] at h2;obtain⟨p,es,cl,hp,hp0,hh,hM,hS⟩:=hH.blk i _ hb;obtain⟨p',hp',hxv⟩: ∃p,g.J i=some p/\v= .map (some p.1):=by
    rcases hs.1 with⟨h1,_⟩ |⟨_,p,h3,h4⟩
    ·cases h1
    ·simp only[aNB,and_true] at h4;exact⟨p,h3,h4⟩
   rw[hp] at hp';obtain rfl:=aML hp';have hlen: ∀{l:List (kt.den×vt.den)}{es:List MapEntry},CF g w kt vt l es->es.length=l.length:=by
    intro l
    induction l with
    |nil=>intro es h;rw[show es=[] from h];rfl
    |cons q l ih=>intro es h;obtain⟨e,es',rfl,_,_,h5⟩:=h;simp [ih h5]
   refine pS.pure hH (v:= .int .i64 (List.length l:Int)) ?_ (uY _ _ _ _);obtain⟨cs,hx⟩:=EL (a:=a) hT hH ho;rw[hx,hv,hxv];have harg:(#[Value.map (some p.1)]:Array Value)[0]? =some (.map (some p.1)):=rfl;have hobj:(getObj p.1).run P w= .ok (.map es cl) w:=by simp [getObj,Sem.run,hh]
   simp only[builtin,Builtin.len_,ht0,harg,aMY,aM3 h2,aMT,aM6,goInt,hobj];rw[<-hlen hM,aNi]
  ·cases hr
 ·rename_i el by' ar ls_ l k;cases hr;obtain⟨v,hv,hs⟩:=QG hT hH hρ hss;have h2:=(s0 hT hst).2;simp only[wJ] at h2;have hv':=xR hs.1;refine pS.pure hH (v:= .int .i64 (List.length l:Int)) ?_ (uY _ _ _ _);subst hv';obtain⟨cs,hx⟩:=EL (a:=a) hT hH ho;rw[hx,hv];have harg:(#[Value.string ⟨List.toArray l⟩]:Array Value)[0]? =some (.string ⟨List.toArray l⟩):=rfl;simp only[builtin,Builtin.len_,ht0,harg,aMY,aM3 h2,aMT,aM6,goInt];rfl
 ·rename_i u el by' ar ls_ t l k;cases hr;obtain⟨v,hv,hs⟩:=QG hT hH hρ hss;have h2:=(s0 hT hst).2.1;obtain⟨ad,cap,rfl,_⟩:=CK hs.1;refine pS.pure hH (v:= .int .i64 (List.length l:Int)) ?_ (uY _ _ _ _);obtain⟨cs,hx⟩:=EL (a:=a) hT hH ho;rw[hx,hv];have harg:(#[Value.slice ad (List.length l) cap]:Array Value)[0]? =some (.slice ad (List.length l) cap):=rfl;simp only[builtin,Builtin.len_,ht0,harg,aMY,aM3 h2,aMT,aM6,goInt]
 ·rename_i u el by' ar ls_ ko n k;cases hr;obtain⟨v,hv,hs⟩:=QG hT hH hρ hss;have h2:=(s0 hT hst).2.1;obtain⟨ad,cap,rfl⟩: ∃ad cap,v= .slice ad n cap:=by
   rcases hs.1.2 with⟨h,rfl⟩ |⟨b,cap,h,_⟩
   ·exact⟨_,_,h⟩
   ·exact⟨_,_,h⟩
  refine pS.pure hH (v:= .int .i64 (n:Int)) ?_ (uY _ _ _ _);obtain⟨cs,hx⟩:=EL (a:=a) hT hH ho;rw[hx,hv];have harg:(#[Value.slice ad n cap]:Array Value)[0]? =some (.slice ad n cap):=rfl;simp only[builtin,Builtin.len_,ht0,harg,aMY,aM3 h2,aMT,aM6,goInt]
 ·cases hr
theorem a6c {args:Array Operand}{tys:Array TypeId}{mx:Bool}(ho:o.op= .call ⟨.builtin (if mx then .max else .min),args,tys⟩) {ρ:Operand->oZ}(hρ: ∀x∈args.toList,pW g w (ρ x) (a.eval x)) {e:pC}
  (hr:A3 (PR mx (uA ρ args.toList))=some e):pS P o a g w H e:=by
 obtain⟨q,hq,rfl⟩:=HT hr;generalize hss:uA ρ args.toList=ss at hq;unfold PR at hq;split at hq
 ·rename_i k x k1 k' y k2;split at hq
  ·rename_i hk;subst hk;cases hq;obtain⟨v,u,hv,hs1,hs2⟩:=QH hT hH hρ hss;have e1:=vC hs1.1;have e2:=vC hs2.1;subst e1;subst e2;cases mx
   ·refine pS.pure hH (v:= .int k (min (x:Int) y)) ?_ (uY _ _ _ _);obtain⟨cs,hx⟩:=EL (a:=a) hT hH ho;rw[hx,hv];have:=aEi hT hH x y;simp [builtin,Builtin.min_,Builtin.min2,this]
   ·refine pS.pure hH (v:= .int k (max (x:Int) y)) ?_ (uY _ _ _ _);obtain⟨cs,hx⟩:=EL (a:=a) hT hH ho;rw[hx,hv];have:=aEj hT hH x y;simp [builtin,Builtin.max_,Builtin.max2,this]
  ·cases hq
 ·cases hq
theorem aEl {f:FuncId}{caps:Array Operand}(ho:o.op= .makeFunc (.func f) #[] caps) {ρ:Operand->oZ}(hρ: ∀x∈caps.toList,pW g w (ρ x) (a.eval x)) {e:pC}
  (hr:a5F f (H9 (uA ρ caps.toList))=some e):pS P o a g w H e:=by
 generalize hc:H9 (uA ρ caps.toList)=oc at hr;cases oc with
 |none=>cases hr
 |some l=>
  cases hr;have key: ∀(xs:List Operand) (l:List (Nat×Nat)),(∀x∈xs,pW g w (ρ x) (a.eval x))->H9 (uA ρ xs)=some l->wA g l (xs.map a.eval):=by
   intro xs
   induction xs with
   |nil=>intro l _ h;simp only[uA,H9,aMJ] at h;subst h;rfl
   |cons x xs ih=>
    intro l hx h;have h0:=hx x (by simp);generalize hs:ρ x=s at h0;simp only[uA,hs] at h;obtain⟨d,k⟩:=s;unfold H9 at h;split at h
    ·cases ‹_=[]›
    ·rename_i p k r heq;simp only[aNB,aM9] at heq;obtain⟨⟨rfl,rfl⟩,rfl⟩:=heq;obtain⟨l',hl',rfl⟩:=aMZ.1 h;obtain⟨i,off⟩:=p;obtain⟨p,hp,hv⟩:=xT h0.1;exact⟨p,_,hp,by rw[aNT,hv],ih l' (fun y hy=>hx y (by simp [hy])) hl'⟩
    ·cases h
  refine pS.pure hH (v:= .func (.func f) #[] (caps.map a.eval)) ?_ (.inr ⟨rfl,caps.toList.map a.eval,key _ _ hρ hc,by congr 2;apply aNS.1;simp⟩);simp [execOp,ho,Instr.makeFunc]
end
theorem VT {α:Type}{l:List α}{m n:Int}(h0:0≤m) (h1:m≤n) (h2:n≤(l.length:Int)):(pE l m n).length=n.toNat-m.toNat:=by
  unfold pE;rw[aM5,aMP];omega
theorem a6d {α:Type}{R:α→List Value→Prop}{c:Nat}: ∀{l:List α}{cs:List Value}{i:Nat}{x:α},sC R c l cs→l[i]? =some x→∃c1 c2 c3,cs=c1++c2++c3∧c1.length=i*c∧c2.length=c∧R x c2
  | y::l,_,0,x,⟨c1,c2,e,h1,h2,h3⟩,h=>by
    simp only[aNe,aMJ] at h;subst h;exact⟨[],c1,c2,by simpa using e,by simp,h1,h2⟩
  | y::l,_,i+1,x,⟨c1,c2,e,h1,h2,h3⟩,h=>by
    simp only[aNk] at h;obtain⟨d1,d2,d3,e1,e2,e3,e4⟩:=a6d h3 h;exact⟨c1++d1,d2,d3,by rw[e,e1];simp,by rw[aMN,h1,e2,aNU];omega,e3,e4⟩
theorem aEm {t:Ty}{l:List t.den}{i:Int}(h0:0≤i) (h:i.toNat<l.length):l[i.toNat]? =some (qG t l i):=by
  unfold qG;rw[aNa,aMR h];rfl
theorem HU {α:Type}{R:α→List Value→Prop}{w:World}{S:Nat→Nat→Prop}{c b:Nat}: ∀{l:List α}{o:Nat}{cs:List Value},sC R c l cs→w.rangeAt b o cs→(∀j,j<l.length*c→S b (o+j))→wH R w S c b o l
  |[],_,_,_,_,_=>trivial
  | x::l,o,cs,⟨c1,c2,e,h1,h2,h3⟩,hr,hS=>by
    subst e;refine⟨⟨c1,h1,fun j v hv=>hr j v (by rw[aM0 (aMX.1 hv).1];exact hv),fun j hj=>hS j (by rw[aMO,aNU];omega),h2⟩,HU h3 (fun j v hv=> ?_) (fun j hj=> ?_)⟩
    · have:=hr (c+j) v (by rw[aMV (by omega),h1,aNv];exact hv)
      rwa [←aNn] at this
    · have:=hS (c+j) (by rw[aMO,aNU];omega)
      rwa [←aNn] at this
theorem MK {k:Nat}{u0:Ty}{l:List u0.den}: ∀{t:Ty}{x:t.den},(zO k u0 l t x).1.cells=t.cells
  | .rl e u,none=>rfl
  | .rl e u,some (j,n)=>by
    simp only[zO,UO];split<;>rfl
  | .pair a b,x=>by
    simp only[zO];split
    ·rfl
    ·simp only[Ty.cells,MK (t:=a),MK (t:=b)]
  | .bool,_=>rfl
  | .int _,_=>rfl
  | .str,_=>rfl
  | .list _,_=>rfl
  | .unit,_=>rfl
  | .ref,_=>rfl
  | .clo,_=>rfl
  | .mp,_=>rfl
  | .mref,_=>rfl
  | .fn,_=>rfl
def aEn (g:Gh) (w:World) (q: Σ t:Ty,t.den) (cs:List Value):Prop:=Rd g w q.1 q.2 cs
theorem VU {g:Gh}{w:World}{k n:Nat}{u0:Ty}{l:List u0.den}(hk: ∀cs,BR g (some (k,n)) cs→Rd g w (.list u0) l cs): ∀{t:Ty}{x:t.den}{cs:List Value},M2 k n t x→Rd g w t x cs→aEn g w (zO k u0 l t x) cs
  | .rl e u,none,_,_,r=>r
  | .rl e u,some (j,m),_,h,r=>by
    simp only[zO,UO];split
    · rename_i hc
      obtain⟨rfl,rfl⟩:=hc;have:m=n:=h rfl;subst this;exact hk _ r
    ·exact r
  | .pair a b,x,_,h,r=>by
    simp only[zO];split
    ·exact r
    · obtain⟨c1,c2,e,r1,r2⟩:=r
      exact⟨c1,c2,e,VU hk h.1 r1,VU hk h.2 r2⟩
  | .bool,_,_,_,r=>r
  | .int _,_,_,_,r=>r
  | .str,_,_,_,r=>r
  | .list _,_,_,_,r=>r
  | .unit,_,_,_,r=>r
  | .ref,_,_,_,r=>r
  | .clo,_,_,_,r=>r
  | .mp,_,_,_,r=>r
  | .mref,_,_,_,r=>r
  | .fn,_,_,_,r=>r
theorem VV {u0:Ty}{l:List u0.den}: ∀{t:Ty}{x:t.den}{q: Σ t:Ty,t.den},xO u0 l t x=some q→q.1.cells=t.cells:=by
  intro t
  induction t with
  | rl e u=>
    intro x q h;cases x with
    |none=>cases h
    | some p=>
      simp only[xO,UQ] at h;split at h
      ·cases h;rfl
      ·cases h
  | pair a b iha ihb=>
    intro x q h;simp only[xO] at h;cases hf:A8 a x.1 with
    | some p=>
      rw[hf] at h;cases hq:xO u0 l a x.1 with
      |none=>rw[hq] at h;cases h
      | some r=>
        obtain⟨a',x'⟩:=r;rw[hq] at h;simp only[HJ,aMJ] at h;subst h;have:=iha hq;simp only[Ty.cells] at this⊢;omega
    | none=>
      rw[hf] at h;cases hq:xO u0 l b x.2 with
      |none=>rw[hq] at h;simp [HJ] at h
      | some r=>
        obtain⟨b',y'⟩:=r;rw[hq] at h;simp only[HJ,aMJ] at h;subst h;have:=ihb hq;simp only[Ty.cells] at this⊢;omega
  |_=>intro x q h;simp [xO] at h
theorem aEo {g:Gh}{w:World}{k n:Nat}{u0:Ty}{l:List u0.den}(hk: ∀cs,BR g (some (k,n)) cs→Rd g w (.list u0) l cs): ∀{t:Ty}{x:t.den}{cs:List Value}{q: Σ t:Ty,t.den},A8 t x=some (k,n)→xO u0 l t x=some q→Rd g w t x cs→Rd g w q.1 q.2 cs:=by
  intro t
  induction t with
  | rl e u=>
    intro x cs q hf h r;simp only[A8] at hf;subst hf;simp only[xO,UQ] at h;split at h
    · cases h
      exact hk _ r
    ·cases h
  | pair a b iha ihb=>
    intro x cs q hf h r;obtain⟨c1,c2,e,r1,r2⟩:=r;simp only[A8] at hf;simp only[xO] at h;cases hfa:A8 a x.1 with
    | some p=>
      rw[hfa] at h hf;simp only[UP,aMJ] at hf;subst hf;cases hq:xO u0 l a x.1 with
      |none=>rw[hq] at h;cases h
      | some z=>
        obtain⟨a',x'⟩:=z;rw[hq] at h;simp only[HJ,aMJ] at h;subst h;exact⟨c1,c2,e,iha hfa hq r1,r2⟩
    | none=>
      rw[hfa] at h hf;simp only[UP] at hf;cases hq:xO u0 l b x.2 with
      |none=>rw[hq] at h;simp [HJ] at h
      | some z=>
        obtain⟨b',y'⟩:=z;rw[hq] at h;simp only[HJ,aMJ] at h;subst h;exact⟨c1,c2,e,r1,ihb hf hq r2⟩
  |_=>intro x cs q hf;simp [A8] at hf
theorem aEp {g:Gh}{w:World}{H:qO}(hH:rH g w H) {k i:Nat}{e:TypeId}{t:Ty}{l:List t.den}{n:Nat}(hk:p9 H k=some (.row e t l n)) {u:Ty}{x:u.den}{toks:List (Nat×Nat)}(hi:p9 H i=some (.cells u x toks)) (hfr:A8 u x=some (k,n)) {q: Σ t:Ty,t.den}(hq:xO t l u x=some q):
    ∃ g',rH g' w (pF [(i,oX.cells q.1 q.2 []),(k,oX.grow e t.cells (List.length l))] H)∧g'.J=g.J∧
      ∀side s rds v,FN rds=true→pW g' w s v→yP g w H ⟨side,s,[(i,oX.cells q.1 q.2 []),(k,oX.grow e t.cells (List.length l))],rds⟩ g' w v:=by
  obtain⟨hl,v,xs,hv,hown,hF,hnone,hseal⟩:=hH.blk k _ hk
  let g':Gh:={g with S:=fun b o=>g.S b o∨(v.ownBlock=some b∧o<n*t.cells)}
  have le:Le g w g' w:=⟨fun _ _ h=> .inl h,fun _ _ _=>rfl,fun _ _ h=>h,fun _ _ _ h=>h⟩;have hown2: ∀b,v.ownBlock=some b→∀o,qP g k (.row e t l n) b o:=fun b hb o=>⟨v,hv,hb⟩
  have hlist: ∀u,g.cur k n=some u→((u= .slice none 0 0∧n=0)∨∃b cap,u= .slice (some ⟨b,0,none⟩) n cap∧n≤cap)→rZ g' w (.list t) l u:=by
    intro u hu hshape;rw[hv] at hu;obtain rfl:=aML hu;rcases hshape with⟨rfl,h0⟩ |⟨b,cap,rfl,hcap⟩
    · have:l=[]:=aNb (by rw[hl,h0])
      subst this;exact .inr ⟨rfl,none,0,rfl,aM2 _,.inl rfl⟩
    · refine .inr ⟨rfl,some ⟨b,0,none⟩,cap,by rw[hl],by rw[hl];exact hcap,.inr ⟨b,0,rfl,HU (B5 (fun _ _ h=>uX le h) hF) (fun j u hu=> ?_) (fun j hj=> ?_)⟩⟩
      · have:=hown.cells (g:=b) rfl j u hu
        rwa [aNW] at this
      · right
        exact⟨rfl,by rw[hl] at hj;omega⟩
  have hik:i≠k:=fun e1=>by rw[e1,hk] at hi;cases hi
  obtain⟨p0,cs0,hp0,hR0,hra0,hth0,hns0,_⟩:=hH.blk i _ hi
  let b':oX:= .cells q.1 q.2 []
  let H':qO:=(i,b')::(k,oX.grow e t.cells (List.length l))::H
  have hget: ∀i' b,p9 H' i'=some b→(i'=i∧b=b')∨(i'=k∧b= .grow e t.cells (List.length l))∨(i'≠k∧i'≠i∧p9 H i'=some b):=by
    intro i' b hb;simp only[H',p9] at hb;split at hb
    ·rename_i e1;exact .inl ⟨e1.symm,(aML hb).symm⟩
    · rename_i e1
      split at hb
      ·rename_i e2;exact .inr (.inl ⟨e2.symm,(aML hb).symm⟩)
      ·rename_i e2;exact .inr (.inr ⟨Ne.symm e2,Ne.symm e1,hb⟩)
  have howns: ∀i' b bb o,p9 H' i'=some b→qP g' i' b bb o→∃b0,p9 H i'=some b0∧qP g i' b0 bb o:=by
    intro i' b bb o hb ho;rcases hget i' b hb with⟨rfl,rfl⟩ |⟨rfl,rfl⟩ |⟨_,_,h1⟩
    · obtain⟨p,hp,e1,e2,e3⟩:=ho
      rw[VV hq] at e3;exact⟨_,hi,p,hp,e1,e2,e3⟩
    · obtain⟨u,hu,hub⟩:=ho
      have hu':g.cur i' (List.length l)=some u:=hu;rw[hl] at hu';exact⟨_,hk,u,hu',hub⟩
    ·exact⟨b,h1,(x9 (g':=g') (g:=g) rfl rfl).1 ho⟩
  have hheap:rH g' w H':=by
    refine⟨fun i' b hb=> ?_,fun i' j bi bj b o hij h1 h2 o1 o2=> ?_,fun b o hS=> ?_,hH.tab.1,fun i' b bb oo hb ho=>by
      obtain⟨c1,k1,k2⟩:=howns i' b bb oo hb ho;exact hH.tab.2 i' c1 bb oo k1 k2⟩
    · rcases hget i' b hb with⟨rfl,rfl⟩ |⟨rfl,rfl⟩ |⟨hne,_,h1⟩
      · have hk2: ∀cs,BR g' (some (k,n)) cs→Rd g' w (.list t) l cs:=by
          rintro cs ⟨v1,z1,z2,z3⟩;rw[z2];exact AA rfl (hlist v1 z1 z3)
        refine⟨p0,cs0,hp0,aEo (n:=n) hk2 hfr hq (uX le hR0),hra0,?_,?_,fun _ _ hm=>by cases hm⟩
        ·rw[VV hq];exact⟨hth0.1,hth0.2⟩
        · rw[VV hq]
          intro j hj hS;rcases hS with hS|hS
          ·exact hns0 j hj hS
          ·exact hH.dis i' k _ _ p0.1 (p0.2+j) hik hi hk ⟨p0,hp0,rfl,by omega,by omega⟩ (hown2 _ hS.1 _)
      · refine⟨v,xs,by rw[hl];exact hv,by rw[hl];exact hown,fun m hm=>hnone m (by rw[hl] at hm;exact hm),fun b hb o hS=> ?_⟩
        rw[hl];rcases hS with hS|hS
        ·exact absurd hS (hseal b hb o)
        ·exact hS.2
      ·exact HQ (hH.blk i' b h1) le rfl rfl (fun _ _ _=>⟨rfl,rfl⟩) (fun _ _=>rfl) (fun bb o ho hS=>by
          rcases hS with hS|hS
          ·exact hS
          ·exact absurd (hown2 bb hS.1 o) (fun h5=>hH.dis i' k b _ bb o hne h1 hk ho h5)) (fun _ _ _ _ h=>h)
    · obtain⟨c1,k1,k2⟩:=howns i' bi b o h1 o1
      obtain⟨c2,k3,k4⟩:=howns j bj b o h2 o2;exact hH.dis i' j c1 c2 b o hij k1 k3 k2 k4
    · rcases hS with hS|hS
      ·exact hH.sl b o hS
      ·exact JM hown hS.1
  refine⟨g',hheap,rfl,fun side s rds vv hre hs=>⟨le,hs,hheap,⟨rfl,rfl,rfl,aM2 _,fun _ _ _=>rfl,fun _ _ _ _=>⟨rfl,rfl⟩,fun b o hS=> ?_,fun _ _ h=> .inl h⟩,fun i' blk b o hm hg ho=> ?_,fun _ _=>⟨rfl,rfl⟩,fun h=>by rw[hre] at h;cases h⟩⟩
  · rcases hS with hS|hS
    ·exact .inl hS
    ·exact .inr (.inr ⟨k,_,by simp [pB],hk,hown2 b hS.1 o⟩)
  · obtain⟨b0,k1,k2⟩:=howns i' blk b o hg ho
    exact .inr ⟨i',b0,hm,k1,k2⟩
section
variable {P:Program}{o:Oper}{a:Act}{g:Gh}{w:World}{H:qO}{T:rO}(hT:vK P T) (hH:rH g w H)
include hT hH
theorem ML {t:TypeId}{ti:TI}(hty:sF P t ti) {x:ti.ty.den}{b off:Nat}{cs:List Value}(hra:w.rangeAt b off cs) (hR:Rd g w ti.ty x cs):
    ∃v,(Instr.loadAt t (.pointer (some ⟨b,off,none⟩))).run P w= .ok v w∧rZ g w ti.ty x v∧v.cells.toList=cs:=by
  obtain⟨d,hd,hrow⟩:=QC hty;obtain⟨i,hi,hsz,_⟩:=DD hty;have hl:=rP hR;by_cases hr:ti.ty.isRow=true
  ·refine⟨.agg cs.toArray,run_loadAt_mid w b off t cs d hra hd (by rw[hrow,hr]) (by rw[hi,Option.map_some,hsz,hl]),.inl ⟨hr,cs,rfl,hR⟩,by simp [Value.cells]⟩
  · have hr':ti.ty.isRow=false:=by simpa using hr
    have h1:ti.ty.cells=1:=by
      obtain⟨ty,el,by',ar,ls⟩:=ti;cases ty<;>first|rfl|(simp [Ty.isRow] at hr')
    obtain⟨v,rfl⟩: ∃v,cs=[v]:=by rw[h1] at hl;exact aN2.1 hl
    have hv1:=zP hR v (by simp);refine⟨v,?_,.inr ⟨hr',hR⟩,by cases v<;>first|rfl|(simp [Value.oneCell'] at hv1)⟩
    have hc:w.cell? ⟨b,off,none⟩=some v:=by simpa using hra 0 v rfl
    have hagg:(isAgg t).run P w= .ok false w:=by
      unfold isAgg;rw[aMY,aM3 hd w];rw[hr'] at hrow;cases d<;>simp_all [TypeDesc.isRow]
    simp [Instr.loadAt,Instr.sureAddr,loadVar,aMY,hagg,hc]
theorem JO {b off:Nat}{c1 c2 c3:List Value}(h:w.rangeAt b off (c1++c2++c3)):w.rangeAt b (off+c1.length) c2:=fun j v hj=>by
  have:=h (c1.length+j) v (by
    have hj':=(aMX.1 hj).1;rw[aMU,aMV (by omega),aNv,aM0 hj'];exact hj)
  rw[aNn];exact this
theorem a6e {k n c:Nat}{i:Int}{o':Nat}{v:Value}(hx:yN g w (.elt k n c i o') v) {e:TypeId}{t:Ty}{l:List t.den}{m:Nat}(hk:p9 H k=some (.row e t l m)) (hnm:n=m) (hc:c=t.cells):
    ∃ b cap xs c1 c2 c3,v= .pointer (some ⟨b,i.toNat*c+o',none⟩)∧g.cur k m=some (.slice (some ⟨b,0,none⟩) m cap)∧w.ownsRow 0 e t.cells (.slice (some ⟨b,0,none⟩) m cap) m xs∧sC (Rd g w t) t.cells l xs∧l.length=m∧i.toNat<l.length∧0≤i∧
      xs=c1++c2++c3∧c1.length=i.toNat*c∧c2.length=c∧Rd g w t (qG t l i) c2:=by
  subst hnm;subst hc;obtain⟨b,cap,h1,h2,h3,hv⟩:=hx;obtain⟨hl,v0,xs,hv0,hown,hF,hnone,hseal⟩:=hH.blk k _ hk;rw[h1] at hv0;obtain rfl:=aML hv0;have hi:i.toNat<l.length:=by rw[hl];omega
  obtain⟨c1,c2,c3,e1,e2,e3,e4⟩:=a6d hF (aEm h2 hi);exact⟨b,cap,xs,c1,c2,c3,hv,h1,hown,hF,hl,hi,h2,e1,e2,e3,e4⟩
theorem aEq {e:TypeId}{c n:Nat}{q cap:Nat}{xs:List Value}(h:w.ownsRow 0 e c (.slice (some ⟨q,0,none⟩) n cap) n xs):w.rangeAt q 0 xs:=fun j u hu=>by
  have:=h.cells (g:=q) rfl j u hu;rwa [aNW] at this
theorem aEr {t:TypeId}{ti:TI}(hst:qC T t=some ti) {k n c:Nat}{i:Int}{o':Nat}{vx:Value}(hx:yN g w (.elt k n c i o') vx) {e:pC}(hr:M1 ti.ty k n c i o' (p9 H k)=some e) (hs: ∀p∈e.side,p):
    ∃v,(Instr.loadAt t vx).run P w= .ok v w∧pW g w e.slot v∧e.upd=[]:=by
  generalize hk:p9 H k=ob at hr;unfold M1 at hr;split at hr
  · rename_i e' t' l m
    split at hr
    · rename_i hc
      generalize hga:pO ti.ty t' (qG t' l i) o'=oy at hr;cases oy with
      |none=>cases hr
      | some y=>
        cases hr;have hnm:=hs _ (aMW.2 rfl);obtain⟨b,cap,xs,c1,c2,c3,hv,hcur,hown,hF,hl,hi,h0,e1,e2,e3,e4⟩:=a6e hT hH hx hk hnm hc;obtain⟨d1,d2,d3,f1,f2,f3⟩:=CG e4 hga;have hra:=aEq hT hH hown;rw[e1] at hra;have hra2:=JO hT hH hra;rw[f1] at hra2;have hra3:=JO hT hH hra2;rw[aNd,e2,f2] at hra3;obtain⟨v,h1,h2,_⟩:=ML hT hH (s0 hT hst) hra3 f3;exact⟨v,by rw[hv];exact h1,⟨h2,trivial⟩,rfl⟩
    ·cases hr
  ·cases hr
theorem VW: ∀{toks:List (Nat×Nat)}{q k:Nat},vI toks q=some k→(q,k)∈toks
  |[],_,_,h=>by simp [vI] at h
  | (q',k')::r,q,k,h=>by
    simp only[vI] at h;split at h
    · rename_i e
      subst e;simp only[aMJ] at h;subst h;simp
    ·exact aM4 _ (VW h)
theorem a6f {u v:Ty}: ∀{t:Ty}{x:t.den}{q:Nat}{l:List u.den}{y:v.den},pO (.list u) t x q=some l→pO v t x q=some y→v.isRow=false→∃h:v= .list u,sY h y=l:=by
  intro t
  induction t with
  | pair s t ihs iht=>
    intro x q l y h1 h2 hv
    have key: ∀q,(if q<s.cells then pO (.list u) s x.1 q else pO (.list u) t x.2 (q-s.cells))=some l→(if q<s.cells then pO v s x.1 q else pO v t x.2 (q-s.cells))=some y→∃h:v= .list u,sY h y=l:=by
      intro q h1 h2;by_cases hq:q<s.cells
      ·rw[aMI hq] at h1 h2;exact ihs h1 h2 hv
      ·rw[aMK hq] at h1 h2;exact iht h1 h2 hv
    cases q with
    | zero=>
      have e1:Ty.pair s t≠.list u:=by intro h;cases h
      have e2:Ty.pair s t≠v:=by intro h;subst h;simp [Ty.isRow] at hv
      unfold pO at h1 h2;rw[aOq e1] at h1;rw[aOq e2] at h2;exact key 0 (by simpa using h1) (by simpa using h2)
    |succ q=>exact key (q+1) (by simpa[pO] using h1) (by simpa[pO] using h2)
  | _=>
    intro x q l y h1 h2 hv;cases q with
    | zero=>
      unfold pO at h1 h2;split at h1
      · rename_i e1
        split at h2
        · rename_i e2
          first
          |(cases e1;done)
          | (subst e2
             injection e1 with e1'
             subst e1';simp only[sY,aMJ] at h1 h2;subst h1;subst h2;exact⟨rfl,rfl⟩)
        ·simp at h2
      ·simp at h1
    |succ q=>simp [pO] at h1
theorem aEs {t:TypeId}{ti:TI}(hty:sF P t ti) (hr:ti.ty.isRow=false) {b off:Nat}{v:Value}(hc:w.cell? ⟨b,off,none⟩=some v):
    (Instr.loadAt t (.pointer (some ⟨b,off,none⟩))).run P w= .ok v w:=by
  obtain⟨d,hd,hrow⟩:=QC hty
  have hagg:(isAgg t).run P w= .ok false w:=by
    unfold isAgg;rw[aMY,aM3 hd w];rw[hr] at hrow;cases d<;>simp_all [TypeDesc.isRow]
  simp [Instr.loadAt,Instr.sureAddr,loadVar,aMY,hagg,hc]
omit hT hH in
theorem a6g {a b:Option pC}{e:pC}(h:orE a b=some e):a=some e∨b=some e:=by
  cases a with
  |some r=>exact .inl h
  |none=>exact .inr h
omit hT hH in
theorem a6h {H:List (Nat×oX)}{t:Ty}{i off:Nat}{b:Option oX}{x:Option pC}{e:pC}(h:orS H t i off b x=some e):x=some e∨(x=none∧FS H t i off b=some e):=by
  cases x with
  |some r=>exact .inl h
  |none=>exact .inr ⟨rfl,h⟩
theorem aEt {t:TypeId}{ti:TI}{x:Operand}(ho:o.op= .load t x) (hs:qC T t=some ti) {i off:Nat}(hx:rZ g w .ref (some (i,off)) (a.eval x)) {e:pC}(hr:P9 i off ti (p9 H i)=some e):pS P o a g w H e:=by
  have hty:=s0 hT hs;generalize hb:p9 H i=ob at hr;unfold P9 at hr;split at hr
  · rename_i u el _ _ _ v x' toks
    generalize hga:pO (.rl el u) v x' off=oy at hr;unfold UN at hr;split at hr
    · rename_i k n
      cases hr;obtain⟨p,hp,hv⟩:=xT hx;obtain⟨p',cs,hp',hR,hra,_⟩:=hH.blk i _ hb;rw[hp] at hp';obtain rfl:=aML hp';obtain⟨c1,c2,c3,rfl,rfl,hR2⟩:=CG hR hga;obtain⟨v0,hcur,rfl,hsh⟩:=hR2;have hc:w.cell? ⟨p.1,p.2+c1.length,none⟩=some v0:=by simpa using JO hT hH hra 0 _ rfl
      have h1:=aEs (P:=P) hT hH hty rfl hc;exact pS.value (v:=v0) (g':=g) (w':=w) (by simp only[execOp,ho,hv,aMY,h1,aMT,aM6]) (.pure hH ⟨⟨hcur,hsh⟩,trivial⟩)
    ·cases hr
  ·cases hr
theorem aEu {t:TypeId}{ti:TI}{x:Operand}(ho:o.op= .load t x) (hs:qC T t=some ti) {i off:Nat}(hx:rZ g w .ref (some (i,off)) (a.eval x)) {e:pC}(hr:FS H ti.ty i off (p9 H i)=some e) (hside: ∀p∈e.side,p):pS P o a g w H e:=by
  have hty:=s0 hT hs;generalize hb:p9 H i=ob at hr;unfold FS at hr;split at hr
  case h_2=>cases hr
  rename_i v z toks;generalize hf:A8 v z=of at hr;cases of with
  |none=>cases hr
  | some kn=>
    obtain⟨k,n0⟩:=kn;simp only[PB] at hr;generalize hk:p9 H k=ok at hr;unfold PA at hr;split at hr
    case h_2=>cases hr
    rename_i el u0 l m;generalize hz:xO u0 l v z=oq at hr;cases oq with
    |none=>cases hr
    |some q=>
    obtain⟨v',x'⟩:=q;simp only[US] at hr;generalize hga:pO ti.ty v' x' off=oy at hr;cases oy with
    |none=>cases hr
    | some y=>
      simp only[UR,aMJ] at hr;subst hr;have hnm:n0=m:=hside _ (aMW.2 rfl);subst hnm;obtain⟨g',hH',hJ,heff⟩:=aEp hH hk hb hf hz;obtain⟨p,hp,hv⟩:=xT hx;obtain⟨p',cs,hp',hR,hra,_,_,_⟩:=hH'.blk i (.cells v' x' []) (by simp [pF,p9]);rw[hJ,hp] at hp';obtain rfl:=aML hp';obtain⟨c1,c2,c3,rfl,rfl,hR2⟩:=CG hR hga;obtain⟨v0,h1,h2,_⟩:=ML hT hH' hty (JO hT hH' hra) hR2;exact pS.valueW (v:=v0) (g':=g') (w':=w) (by simp only[execOp,ho,hv,aMY,h1,aMT,aM6]) (heff _ _ _ _ rfl ⟨h2,trivial⟩)
theorem aEv {t:TypeId}{x:Operand}(ho:o.op= .load t x) {sx:oZ}(hx:pW g w sx (a.eval x)) {e:pC}(hr:PC H (qC T t) sx=some e) (hside: ∀p∈e.side,p):pS P o a g w H e:=by
  generalize hs:qC T t=ot at hr;replace hx:=hx.1;unfold PC at hr;split at hr
  · rename_i ti k n c i o' _
    obtain⟨v,h1,h2,h3⟩:=aEr hT hH hs hx hr hside;obtain⟨side,slot,upd,rds⟩:=e;simp only at h2 h3;subst h3;exact pS.value (v:=v) (g':=g) (w':=w) (by simp only[execOp,ho,aMY,h1,aMT,aM6]) (.pure hH h2)
  · rename_i ti u y k
    split at hr
    · rename_i hu
      subst hu;cases hr;have hty:=s0 hT hs;obtain⟨b,off,cs,hv,hra,hS,hR⟩:=hx;obtain⟨v,h1,h2,_⟩:=ML hT hH hty hra hR;exact pS.pure hH (v:=v) (by simp only[execOp,ho,hv,aMY,h1,aMT,aM6]) h2
    ·cases hr
  · rename_i ti i off k
    rcases a6h hr with hr|⟨_,hr⟩
    case inr=>exact aEu hT hH ho hs hx hr hside
    rcases a6g hr with hr|hr
    case inr=>exact aEt hT hH ho hs hx hr
    have hty:=s0 hT hs;generalize hb:p9 H i=ob at hr;unfold M0 at hr;split at hr
    · rename_i u z toks
      generalize hga:pO ti.ty u z off=oy at hr;cases oy with
      |none=>cases hr
      | some y=>
        cases hr;obtain⟨p,hp,hv⟩:=xT hx;obtain⟨p',cs,hp',hR,hra,_,_,htk⟩:=hH.blk i _ hb;rw[hp] at hp';obtain rfl:=aML hp';obtain⟨c1,c2,c3,rfl,rfl,hR2⟩:=CG hR hga;obtain⟨v,h1,h2,h3⟩:=ML hT hH hty (JO hT hH hra) hR2;refine pS.value (v:=v) (g':=g) (w':=w) (by simp only[execOp,ho,hv,aMY,h1,aMT,aM6]) (.pure hH ⟨h2,?_⟩);obtain⟨ty,el,by',ar,ls⟩:=ti;cases ty with
        | list u'=>
          simp only[EB];generalize htt:vI toks c1.length=ok;cases ok with
          |none=>trivial
          | some k=>
            obtain⟨u2,l,v',g1,g2,g3⟩:=htk _ _ (VW hT hH htt);obtain⟨heq,hl⟩:=a6f hT hH g1 hga rfl;injection heq with heq'
            subst heq';have hlen:=rP hR2;obtain⟨v2,rfl⟩:=aN2.1 hlen
            have e2:v'=v2:=by
              have e:(c1++[v2]++c3)[c1.length]? =some v2:=by simp
              rw[e] at g2;exact(aML g2).symm
            have e3:v=v2:=by
              have h4:=AA rfl h2;have hone:=zP h4 v (by simp);have:v.cells= #[v]:=by cases v<;>first|rfl|(simp [Value.oneCell'] at hone)
              rw[this] at h3;simpa using h3
            subst e2;subst e3;have e4:(y:List u'.den)=l:=hl;subst e4;exact g3
        |_=>trivial
    ·cases hr
  ·cases hr
theorem QI {ρ:Operand→oZ}{x:Option Operand}{n m:Int}(hρ: ∀y∈x.toList,pW g w (ρ y) (a.eval y)) (h:C9 (xP ρ x) n=some m):(x=none∧m=n)∨∃y k,x=some y∧a.eval y= .int k m:=by
  cases x with
  |none=>simp only[xP,C9,aMJ] at h;exact .inl ⟨rfl,h.symm⟩
  | some y=>
    have h0:=hρ y (by simp);simp only[xP] at h;unfold C9 at h;split at h
    ·cases ‹some _=none›
    · rename_i k q kk heq
      simp only[aMJ] at heq h;rw[heq] at h0;subst h;exact .inr ⟨y,k,rfl,vC h0.1⟩
    ·cases h
theorem a6i {isSlice:Bool}{len cap:Nat}{lo hi:Option Operand}{m n:Int}(hlo:(lo=none∧m=0)∨∃y k,lo=some y∧a.eval y= .int k m) (hhi:(hi=none∧n=(len:Int))∨∃y k,hi=some y∧a.eval y= .int k n)
    (h0:0≤m) (h1:m≤n) (h2:n≤(len:Int)) (h3:len≤cap):(Instr.sliceBounds isSlice len cap (lo.map a.eval) (hi.map a.eval) none).run P w= .ok (m.toNat,n.toNat,cap) w:=by
  have e1:(n.toNat:Int)=n:=Int.toNat_of_nonneg (by omega);rcases hlo with⟨rfl,rfl⟩ |⟨y,k,rfl,hy⟩<;>rcases hhi with⟨rfl,rfl⟩ |⟨z,k',rfl,hz⟩
  ·simp [Instr.sliceBounds]
  ·simp [Instr.sliceBounds,hz,run_sliceBound,(by omega:0≤n),(by omega:n≤(cap:Int))]
  ·simp [Instr.sliceBounds,hy,run_sliceBound,h0,h1]
  ·simp [Instr.sliceBounds,hy,hz,run_sliceBound,(by omega:0≤n),(by omega:n≤(cap:Int)),e1,h0,h1]
theorem aEw {t:TypeId}{x:Operand}{lo hi:Option Operand}(ho:o.op= .slice t x lo hi none) {ρ:Operand→oZ}(hx:pW g w (ρ x) (a.eval x)) (hlo: ∀y∈lo.toList,pW g w (ρ y) (a.eval y)) (hhi: ∀y∈hi.toList,pW g w (ρ y) (a.eval y)) {e:pC}
    (hr:A3 (U8 (qC T t) (ρ x) (xP ρ lo) (xP ρ hi))=some e) (hs: ∀p∈e.side,p):pS P o a g w H e:=by
  obtain⟨q,hq,rfl⟩:=HT hr;replace hx:=hx.1;generalize hst:qC T t=ot at hq;generalize hsx:ρ x=sx at hq hx;unfold U8 at hq;split at hq
  · rename_i el by' ar ls_ l k
    generalize hb1:C9 (xP ρ lo) 0=o1 at hq;generalize hb2:C9 (xP ρ hi) (List.length l)=o2 at hq;unfold OS at hq;split at hq
    · rename_i m n
      cases hq;obtain⟨k1,k2,k3⟩:=hs _ (aMW.2 rfl);have h2:=(s0 hT hst).2;simp only[wJ] at h2;have hv:=xR hx;have hbd:=a6i (P:=P) (isSlice:=false) (cap:=List.length l) hT hH (QI hT hH hlo hb1) (QI hT hH hhi hb2) k1 k2 k3 (aM2 _);refine pS.pure hH (v:= .string ⟨(pE l m n).toArray⟩) ?_ (HS _ _ _);have hsz:(⟨List.toArray l⟩:ByteArray).size=List.length l:=by simp [ByteArray.size]
      have hext:(⟨List.toArray l⟩:ByteArray).extract m.toNat n.toNat=⟨(pE l m n).toArray⟩:=by
        apply ByteArray.ext;apply aNS.1;simp [pE]
      simp only[execOp,ho,hv,Option.map_none,Instr.sliceAt,Instr.slice,aMY,aM3 h2,aMT,Option.isSome_none,aN9,aOS,hsz,hbd,hext,aM6]
    ·cases hq
  · rename_i u el by' ar ls_ t1 l k
    split at hq
    · rename_i htu
      subst htu;generalize hb1:C9 (xP ρ lo) 0=o1 at hq;generalize hb2:C9 (xP ρ hi) (List.length l)=o2 at hq;unfold OS at hq;split at hq
      · rename_i m n
        cases hq;obtain⟨k1,k2,k3⟩:=hs _ (aMW.2 rfl);obtain⟨h2,h3,_⟩:=(s0 hT hst).2;obtain⟨ei,hei,hz⟩:=aMZ.1 h3;simp only[aM9] at hz;obtain⟨ad,cap,hv,hle,hl⟩:=CK hx;have hbd:=a6i (P:=P) (isSlice:=true) (cap:=cap) hT hH (QI hT hH hlo hb1) (QI hT hH hhi hb2) k1 k2 k3 hle;refine pS.pure hH (v:= .slice (if cap=m.toNat then ad else ad.map (·.add (m.toNat*t1.cells))) (n.toNat-m.toNat) (cap-m.toNat)) ?_ (.inr ⟨rfl,(if cap=m.toNat then ad else ad.map (·.add (m.toNat*t1.cells))),cap-m.toNat,?_,?_,?_⟩)
        ·simp only[execOp,ho,hv,Option.map_none,Instr.sliceAt,Instr.slice,aMY,aM3 h2,aMT,hbd,sizeOf,typeInfo,aNJ,hei,hz.1,aM6]
        ·rw[VT k1 k2 k3]
        ·rw[VT k1 k2 k3];omega
        · rcases hl with rfl|⟨b,off,rfl,hL⟩
          ·exact .inl (by simp [pE])
          · by_cases hc:cap=m.toNat
            · left
              apply aNb;rw[VT k1 k2 k3];omega
            · right
              rw[aMK hc];refine⟨b,off+m.toNat*t1.cells,by simp [aNW],?_⟩;exact a54 _ (a52 _ hL (by omega))
      ·cases hq
    ·cases hq
  ·cases hq
end
theorem MM {α:Type}{R:α->List Value->Prop}{c:Nat}(hR: ∀x cs,R x cs->∀v∈cs,v.oneCell'=true): ∀{l:List α}{cs:List Value},sC R c l cs->∀v∈cs,v.oneCell'=true
 |[],_,h=>by rw[h];simp
 |_::_,_,⟨c1,c2,e,_,h2,h3⟩=>by
  subst e;intro v hv;rcases aNE.1 hv with h|h
  ·exact hR _ _ h2 v h
  ·exact MM hR h3 v h
theorem VX {α:Type}{R:α->List Value->Prop}{c:Nat}: ∀{l:List α}{cs cy:List Value}{i:Nat}{y:α},sC R c l cs->R y cy->cy.length=c->i<l.length->
  ∃c1 c2 c3,cs=c1++c2++c3/\c1.length=i*c/\c2.length=c/\sC R c (l.set i y) (c1++cy++c3)
 |[],_,_,_,_,_,_,_,h=>by simp at h
 |_::l,_,cy,0,y,⟨c1,c2,e,h1,_,h3⟩,hy,hc,_=>⟨[],c1,c2,by simpa using e,by simp,h1,⟨cy,c2,by simp,hc,hy,h3⟩⟩
 |x::l,_,cy,i+1,y,⟨c1,c2,e,h1,h2,h3⟩,hy,hc,hi=>by
  obtain⟨d1,d2,d3,e1,e2,e3,e4⟩:=VX h3 hy hc (by simpa using hi);refine⟨c1++d1,d2,d3,by rw[e,e1];simp,by rw[aMN,h1,e2,aNU];omega,e3,⟨c1,d1++cy++d3,by simp,h1,h2,e4⟩⟩
theorem JP {α:Type}{R:α->List Value->Prop}{w:World}{S:Nat->Nat->Prop}{c b:Nat}: ∀{l:List α}{o:Nat},wH R w S c b o l->∃cs,sC R c l cs/\w.rangeAt b o cs/\∀j,j<l.length*c->S b (o+j)
 |[],o,_=>⟨[],rfl,fun j v h=>by simp at h,fun j h=>by simp at h⟩
 |x::l,o,⟨⟨c1,h1,h2,h3,h4⟩,h5⟩=>by
  obtain⟨c2,k1,k2,k3⟩:=JP h5;refine⟨c1++c2,⟨c1,c2,rfl,h1,h4,k1⟩,fun j v hv=> ?_,fun j hj=> ?_⟩
  ·by_cases hj:j<c
   ·exact h2 j v (by rwa [aM0 (by omega)] at hv)
   ·have:=k2 (j-c) v (by rw[aMV (by omega),h1] at hv;exact hv);rwa [show o+c+(j-c)=o+j from by omega] at this
  ·by_cases hj':j<c
   ·exact h3 j hj'
   ·have:=k3 (j-c) (by rw[aMO,aNU] at hj;omega);rwa [show o+c+(j-c)=o+j from by omega] at this
theorem a6j {g:Gh}{w:World}{t:Ty}: ∀n,sC (Rd g w t) t.cells (BN t n) (List.flatten (List.replicate n (sJ t)))
 |0=>rfl
 |n+1=>⟨sJ t,_,rfl,rP (CJ g w t),CJ g w t,a6j n⟩
theorem a6k (t:Ty): ∀n,(BN t n).length=n
 |0=>rfl
 |n+1=>by simp [BN,a6k t n]
def Gh.tok (g:Gh) (k n:Nat) (v:Value):Gh:={g with cur:=fun k' n'=>if k'=k/\n'=n then some v else g.cur k' n'}
def Gh.var (g:Gh) (i b:Nat) (k:Option (TypeId×Nat)):Gh:={g with J:=fun i'=>if i'=i then some ⟨b,0,k⟩ else g.J i'}
def Gh.shut (g:Gh) (b m:Nat):Gh:={g with S:=fun b' o=>g.S b' o\/(b'=b/\o<m)}
section
variable {g:Gh}{w:World}{H:qO}(hH:rH g w H)
include hH
theorem qU.nilTok {side:List Prop}{d:DV}{rds:List Nat}{base e c:Nat}{u:Ty}(hd:d= .val (.list u) []) (hf: ∀n,g.cur base n=none):
  qU g w H ⟨side,(d,some base),[(base,.grow e c 0)],rds⟩ (g.tok base 0 (.slice none 0 0)) w (.slice none 0 0):=by
 have le:Le g w (g.tok base 0 (.slice none 0 0)) w:=⟨fun _ _ h=>h,fun _ _ _=>rfl,fun _ _ h=>h,fun k n v h=>by
  show (if k=base/\n=0 then _ else _)=_;rw[aMK (fun⟨e1,_⟩=>by rw[e1,hf] at h;cases h)];exact h⟩
 have fr:Fr (rQ g H (pB [(base,oX.grow e c 0)])) w w g.S (g.tok base 0 (.slice none 0 0)).S:= .refl _ _ _;have gho: ∀i,i∉pB [(base,oX.grow e c 0)]->(g.tok base 0 (.slice none 0 0)).J i=g.J i/\(g.tok base 0 (.slice none 0 0)).cur i=g.cur i:=fun i hi=>⟨rfl,by
  funext n;show (if i=base/\n=0 then _ else _)=_;rw[aMK (fun⟨e1,_⟩=>hi (by simp [pB,e1]))]⟩
 have cur0:(g.tok base 0 (.slice none 0 0)).cur base 0=some (.slice none 0 0):=by simp [Gh.tok]
 have own: ∀i blk b o,i∈pB [(base,oX.grow e c 0)]->p9 (pF [(base,oX.grow e c 0)] H) i=some blk->¬qP (g.tok base 0 (.slice none 0 0)) i blk b o:=by
  intro i blk b o hi hg ho;simp only[pB,aMW] at hi;subst hi;simp only[pF,p9,aOk,aMJ] at hg;subst hg;obtain⟨v,hv,hb⟩:=ho;rw[cur0] at hv;obtain rfl:=aML hv;cases hb
 subst hd;refine⟨le,⟨.inr ⟨rfl,none,0,rfl,aM2 _,.inl rfl⟩,cur0⟩,hH.upd le fr (fun i blk b o h1 h2 h3=>absurd h3 (own i blk b o h1 h2)) gho (fun i blk hi hg=> ?_) (fun i j bi bj b o hi hj hij hgi hgj hoi hoj=>own i bi b o hi hgi hoi) hH.sl,fr,fun i blk b o h1 h2 h3=>absurd h3 (own i blk b o h1 h2),gho,fun i u' y us h=>by
  simp only[pF,p9] at h;split at h
  ·cases h
  ·exact .inl ⟨y,us,h⟩⟩
 simp only[pB,aMW] at hi;subst hi;simp only[pF,p9,aOk,aMJ] at hg;subst hg;refine⟨.slice none 0 0,[],cur0,World.ownsRow_nil w 0 e c,fun m hm=> ?_,fun b hb=>by cases hb⟩;show (if i=i/\m=0 then _ else _)=_;rw[aMK (by omega)];exact hf m
theorem qU.row {side:List Prop}{rds:List Nat}{s:oZ}{val:Value}{k:Nat}{e:TypeId}{t:Ty}{l:List t.den}{n:Nat}{v:Value}{xs:List Value}{w':World}
  (hl:l.length=n) (hown:w'.ownsRow 0 e t.cells v n xs) (hF:sC (Rd g w t) t.cells l xs) (hnone: ∀m,n<m->g.cur k m=none) (hcur: ∀u,g.cur k n=some u->u=v)
  (hg:w.grownBy w' (v.ownBlock)\/∃q,w.grownBy w' q/\∀b,q=some b->∀o,rQ g H [k] b o)
  (hcell: ∀b o,g.S b o->w'.cell? ⟨b,o,none⟩=w.cell? ⟨b,o,none⟩)
  (hseal: ∀b,v.ownBlock=some b->∀o,¬g.S b o)
  (hperm: ∀b,v.ownBlock=some b->w.heap.size<=b\/∀o,rQ g H [k] b o)
  (hslot:pW (g.tok k n v) w' s val):qU g w H ⟨side,s,[(k,.row e t l n)],rds⟩ (g.tok k n v) w' val:=by
 have le:Le g w (g.tok k n v) w':=⟨fun _ _ h=>h,fun b o h=>hcell b o h,fun _ _ h=>h,fun k' n' v' h=>by
  show (if k'=k/\n'=n then _ else _)=_;by_cases hk:k'=k/\n'=n
  ·obtain⟨rfl,rfl⟩:=hk;rw[aMI ⟨rfl,rfl⟩,hcur _ h]
  ·rw[aMK hk];exact h⟩
 have cur1:(g.tok k n v).cur k n=some v:=by simp [Gh.tok]
 have hblk: ∀b,b<w.heap.size->(∀o,¬rQ g H (pB [(k,oX.row e t l n)]) b o)->w'.heap[b]? =w.heap[b]? :=by
  intro b hb hno;rcases hg with hg|⟨q,hg,hq⟩
  ·refine hg.block b hb (fun e1=> ?_);rcases hperm b e1.symm with h|h
   ·omega
   ·exact hno 0 (h 0)
  ·exact hg.block b hb (fun e1=>hno 0 (hq b e1.symm 0))
 have hgo:w'.os=w.os/\w'.tape=w.tape/\w'.output=w.output/\w.heap.size<=w'.heap.size:=by
  rcases hg with hg|⟨q,hg,_⟩
  ·exact⟨hg.os,hg.tape,hg.output,hg.size⟩
  ·exact⟨hg.os,hg.tape,hg.output,hg.size⟩
 have hall: ∀b o,rQ g H (pB [(k,oX.row e t l n)]) b o->True:=fun _ _ _=>trivial;have hcell2: ∀b o,b<w.heap.size->¬rQ g H (pB [(k,oX.row e t l n)]) b o->(w'.cell? ⟨b,o,none⟩=w.cell? ⟨b,o,none⟩/\w'.frozen? ⟨b,o,none⟩=w.frozen? ⟨b,o,none⟩):=by
  intro b o hb hno;have:w'.heap[b]? =w.heap[b]? :=by
   rcases hg with hg|⟨q,hg,hq⟩
   ·refine hg.block b hb (fun e1=> ?_);rcases hperm b e1.symm with h|h
    ·omega
    ·exact hno (h o)
   ·exact hg.block b hb (fun e1=>hno (hq b e1.symm o))
  exact⟨aM7 (a:=⟨b,o,none⟩) this,aNF (a:=⟨b,o,none⟩) this⟩
 have hshape: ∀b s,w.shape? b=some s->w'.shape? b=some s\/∀o,rQ g H (pB [(k,oX.row e t l n)]) b o:=by
  intro b s hs;rcases hg with hg|⟨q,hg,hq⟩
  ·by_cases e1:v.ownBlock=some b
   ·rcases hperm b e1 with h|h
    ·have:=CH hs;omega
    ·exact .inr h
   ·exact .inl ((CI (hg.block b (CH hs) (fun h=>e1 h.symm))).trans hs)
  ·by_cases e1:q=some b
   ·exact .inr (hq b e1)
   ·exact .inl ((CI (hg.block b (CH hs) (fun h=>e1 h.symm))).trans hs)
 have fr:Fr (rQ g H (pB [(k,oX.row e t l n)])) w w' g.S (g.tok k n v).S:=⟨hgo.1,hgo.2.1,hgo.2.2.1,hgo.2.2.2,hblk,hcell2,fun b o h=> .inl h,hshape⟩;have gho: ∀i,i∉pB [(k,oX.row e t l n)]->(g.tok k n v).J i=g.J i/\(g.tok k n v).cur i=g.cur i:=fun i hi=>⟨rfl,by
  funext n';show (if i=k/\n'=n then _ else _)=_;rw[aMK (fun⟨e1,_⟩=>hi (by simp [pB,e1]))]⟩
 have get: ∀i blk,i∈pB [(k,oX.row e t l n)]->p9 (pF [(k,oX.row e t l n)] H) i=some blk->i=k/\blk= .row e t l n:=by
  intro i blk hi hg;simp only[pB,aMW] at hi;subst hi;simp only[pF,p9,aOk,aMJ] at hg;exact⟨rfl,hg.symm⟩
 have perm: ∀i blk b o,i∈pB [(k,oX.row e t l n)]->p9 (pF [(k,oX.row e t l n)] H) i=some blk->qP (g.tok k n v) i blk b o->w.heap.size<=b\/rQ g H (pB [(k,oX.row e t l n)]) b o:=by
  intro i blk b o hi hgt ho;obtain⟨rfl,rfl⟩:=get i blk hi hgt;obtain⟨v',hv',hb⟩:=ho;rw[cur1] at hv';obtain rfl:=aML hv';exact(hperm b hb).imp id (fun h=>h o)
 refine⟨le,hslot,hH.upd le fr perm gho (fun i blk hi hgt=> ?_) (fun i j bi bj b o hi hj hij hgi hgj _ _=>hij ((get i bi hi hgi).1.trans (get j bj hj hgj).1.symm)) (fun b o h=>aNm (hH.sl b o h) hgo.2.2.2),fr,perm,gho,fun i u' y us h=>by
  simp only[pF,p9] at h;split at h
  ·cases h
  ·exact .inl ⟨y,us,h⟩⟩
 obtain⟨rfl,rfl⟩:=get i blk hi hgt;refine⟨hl,v,xs,cur1,hown,B5 (fun _ _ h=>uX le h) hF,fun m hm=> ?_,hseal⟩;show (if i=i/\m=n then _ else _)=_;rw[aMK (by omega)];exact hnone m hm
theorem qU.newVarJ {side:List Prop}{rds:List Nat}{base:Nat}{t:Ty}{x:t.den}{toks:List (Nat×Nat)}{cs:List Value}{e:TypeId}(hR:Rd (g.var base w.heap.size (some (e,cs.length))) w t x cs) (htk:EK g t x cs toks) (hf:g.J base=none) (hc:g.cur base=fun _=>none):
  qU g w H ⟨side,(.val .ref (some (base,0)),none),[(base,.cells t x toks)],rds⟩ (g.var base w.heap.size (some (e,cs.length))) (w.alloc (.cells cs.toArray e)) (.pointer (some ⟨w.heap.size,0,none⟩)):=by
 have hJ:(g.var base w.heap.size (some (e,cs.length))).J base=some ⟨w.heap.size,0,some (e,cs.length)⟩:=by simp [Gh.var]
 have le:Le g w (g.var base w.heap.size (some (e,cs.length))) (w.alloc (.cells cs.toArray e)):=⟨fun _ _ h=>h,fun b o h=>aM7 (a:=⟨b,o,none⟩) (aNg _ _ _ (hH.sl b o h)),fun i p h=>by
  show (if i=base then _ else _)=_;rw[aMK (fun e1=>by rw[e1,hf] at h;cases h)];exact h,fun _ _ _ h=>h⟩
 have le2:Le (g.var base w.heap.size (some (e,cs.length))) w (g.var base w.heap.size (some (e,cs.length))) (w.alloc (.cells cs.toArray e)):=⟨fun _ _ h=>h,fun b o h=>aM7 (a:=⟨b,o,none⟩) (aNg _ _ _ (hH.sl b o h)),fun _ _ h=>h,fun _ _ _ h=>h⟩;have fr:Fr (rQ g H (pB [(base,oX.cells t x toks)])) w (w.alloc (.cells cs.toArray e)) g.S (g.var base w.heap.size (some (e,cs.length))).S:=
  ⟨rfl,rfl,rfl,by simp,fun b hb _=>aNg _ _ _ hb,fun b o hb _=>⟨aM7 (a:=⟨b,o,none⟩) (aNg _ _ _ hb),aNF (a:=⟨b,o,none⟩) (aNg _ _ _ hb)⟩,fun b o h=> .inl h,fun b s h=> .inl ((CI (aNg _ _ _ (CH h))).trans h)⟩
 have gho: ∀i,i∉pB [(base,oX.cells t x toks)]->(g.var base w.heap.size (some (e,cs.length))).J i=g.J i/\(g.var base w.heap.size (some (e,cs.length))).cur i=g.cur i:=fun i hi=>⟨by
  show (if i=base then _ else _)=_;rw[aMK (fun e1=>hi (by simp [pB,e1]))],rfl⟩
 have get: ∀i blk,i∈pB [(base,oX.cells t x toks)]->p9 (pF [(base,oX.cells t x toks)] H) i=some blk->i=base/\blk= .cells t x toks:=by
  intro i blk hi hg;simp only[pB,aMW] at hi;subst hi;simp only[pF,p9,aOk,aMJ] at hg;exact⟨rfl,hg.symm⟩
 have perm: ∀i blk b o,i∈pB [(base,oX.cells t x toks)]->p9 (pF [(base,oX.cells t x toks)] H) i=some blk->qP (g.var base w.heap.size (some (e,cs.length))) i blk b o->w.heap.size<=b\/rQ g H (pB [(base,oX.cells t x toks)]) b o:=by
  intro i blk b o hi hg ho;obtain⟨rfl,rfl⟩:=get i blk hi hg;obtain⟨p,hp,h1,_⟩:=ho;rw[hJ] at hp;obtain rfl:=aML hp;exact .inl (aOh h1.symm)
 have hl:=rP hR;refine⟨le,⟨.inr ⟨rfl,_,hJ,rfl⟩,trivial⟩,hH.upd le fr perm gho (fun i blk hi hg=> ?_) (fun i j bi bj b o hi hj hij hgi hgj _ _=>hij ((get i bi hi hgi).1.trans (get j bj hj hgj).1.symm)) (fun b o h=>aNm (hH.sl b o h) (by simp)),fr,perm,gho,fun i u' y us h=>by
  simp only[pF,p9] at h;split at h
  ·rename_i e1;subst e1;exact .inr ⟨hf,fun n=>by rw[hc]⟩
  ·exact .inl ⟨y,us,h⟩⟩
 obtain⟨rfl,rfl⟩:=get i blk hi hg;refine⟨_,cs,hJ,uX le2 hR,fun j v hv=> ?_,⟨fun j hj=> ?_,fun _ s hs=> ?_⟩,fun j _ hs=>aOx _ (hH.sl _ _ hs),a50 le.cur htk⟩
 ·simp only[aNd];rw[aOQ];simpa using hv
 ·simp only[aNd];rw[aOQ,World.frozen?_alloc_new];exact⟨by simp;omega,rfl⟩
 ·cases hs;show (match (w.heap.push (.cells cs.toArray e))[w.heap.size]? with|some (.cells c elem _)=>some (elem,c.size) |_=>none)=_
  rw[aOI];simp only[aNA]
theorem qU.newVar {side:List Prop}{rds:List Nat}{base:Nat}{t:Ty}{x:t.den}{toks:List (Nat×Nat)}{cs:List Value}{e:TypeId}(hR:Rd g w t x cs) (htk:EK g t x cs toks) (hf:g.J base=none) (hc:g.cur base=fun _=>none):
  qU g w H ⟨side,(.val .ref (some (base,0)),none),[(base,.cells t x toks)],rds⟩ (g.var base w.heap.size (some (e,cs.length))) (w.alloc (.cells cs.toArray e)) (.pointer (some ⟨w.heap.size,0,none⟩)):=
 qU.newVarJ hH (uX (g:=g) (g':=g.var base w.heap.size (some (e,cs.length))) (w:=w) (w':=w) ⟨fun _ _ h=>h,fun _ _ _=>rfl,fun i p h=>by
  show (if i=base then _ else _)=_;rw[aMK (fun e1=>by rw[e1,hf] at h;cases h)];exact h,fun _ _ _ h=>h⟩ hR) htk hf hc
end
theorem VY {P:Program}(w:World) (t ty e:TypeId) (i:TypeInfo) (z:Value) (size bytes:Nat) (ht:P.underlying t=some (.slice e)) (hi:P.info? e=some i) (hz:i.zero=some z)
  (hsize:i.size=size) (hby:i.bytes=bytes) (hzs:z.cells.size=size)
  (v:Value) (n:Nat) (xs:List Value) (hown:w.ownsRow 0 e size v n xs)
  (a:Addr) (m c:Nat) (news:List Value) (hl:news.length=m*size) (hnews: ∀j u,news[j]? =some u->w.cell? (a.add j)=some u) (h1: ∀u∈news,u.oneCell'=true) (hm:0<m)
  (h63:n+m<=maxLen) (hbytes:(n+m)*bytes<=140737488355328):
  ∃q cap w',(Builtin.append_ #[t,t] ty #[v,.slice (some a) m c]).run P w= .ok (.slice (some ⟨q,0,none⟩) (n+m) cap) w'/\w'.ownsRow 0 e size (.slice (some ⟨q,0,none⟩) (n+m) cap) (n+m) (xs++news)/\
   (q=w.heap.size\/v.ownBlock=some q)/\w.grownBy w' v.ownBlock/\n+m<=cap/\
   ∀b o,b<w.heap.size->(v.ownBlock=some b->o<n*size)->w'.cell? ⟨b,o,none⟩=w.cell? ⟨b,o,none⟩:=by
 subst hsize;subst hby;have hsmall:n+m<=9223372036854775807:=by simp only[maxLen] at h63;omega
 have hlen:(xs++news).length=(n+m)*i.size:=by rw[aMN,hown.1,hl,Nat.add_mul]
 have grown: ∀(old:Nat),old<n+m->∀(row:Option Nat),
   (w.drew.alloc (.cells (xs.toArray++news.toArray++Builtin.zeroCells z.cells (grownCap w (n+m) old e- (n+m))) e)).ownsRow 0 e i.size
    (.slice (some ⟨w.heap.size,0,none⟩) (n+m) (grownCap w (n+m) old e)) (n+m) (xs++news)/\
   w.grownBy (w.drew.alloc (.cells (xs.toArray++news.toArray++Builtin.zeroCells z.cells (grownCap w (n+m) old e- (n+m))) e)) row/\n+m<=grownCap w (n+m) old e/\
   ∀b o,b<w.heap.size->(w.drew.alloc (.cells (xs.toArray++news.toArray++Builtin.zeroCells z.cells (grownCap w (n+m) old e- (n+m))) e)).cell? ⟨b,o,none⟩=w.cell? ⟨b,o,none⟩:=by
  intro old ho row;have hge:=grownCap_ge w (n+m) old e;have hcm:grownCap w (n+m) old e<=maxLen:=grownCap_le_maxLen w (n+m) old e h63;refine⟨⟨hlen,.inr ⟨w.heap.size,_,_,rfl,aNt _,aOP w.drew _,hge,hcm,?_,?_⟩⟩,⟨rfl,rfl,rfl,by simp,fun k hk _=>aNg w.drew _ k hk⟩,hge,fun b o hb=>aM7 (w:=w) (a:=⟨b,o,none⟩) (aNg w.drew _ b hb)⟩
  ·simp only[aOO,aNA,size_zeroCells,hzs,hown.1,hl,<-Nat.add_mul];congr 1;omega
  ·simp only[Array.toList_append,aMU];rw[<-aMU,<-hlen];exact aOg
 rcases hown.2 with⟨rfl,rfl⟩ |⟨g,cap,cur,rfl,hbg,hg,hnc,hcm,hcs,htake⟩
 ·have hx:xs=[]:=aNb (by simpa using hown.1);subst hx;have hr:=run_append_nil (P:=P) w t ty e i z ht hi hz a m c news hl hnews (by omega) (by omega) (by have hb:=hbytes;simp only[aNd] at hb;omega);have hgr:=grown 0 (by omega) (Value.ownBlock (.slice none 0 0));simp only[aNd,List.nil_append,Array.empty_append] at hgr⊢;exact⟨_,_,_,hr,hgr.1,.inl rfl,hgr.2.1,hgr.2.2.1,fun b o hb _=>hgr.2.2.2 b o hb⟩
 ·by_cases hroom:n+m<=cap
  ·have hfit:n*i.size+news.length<=cur.size:=by rw[hl,hcs,<-Nat.add_mul];exact Nat.mul_le_mul_right _ hroom
   have hr:=run_append_room (P:=P) w t ty e i ht hi g n cap cur hg a m c news hl hnews h1 hroom hfit;refine⟨_,_,_,hr,⟨hlen,.inr ⟨g,cap,_,rfl,hbg,aOD w g cur _ e _ hg,hroom,hcm,?_,?_⟩⟩,.inr rfl,⟨rfl,rfl,rfl,by simp,fun k _ hk=>aOf w g k _ (fun e=>hk (by simp [Value.ownBlock,e]))⟩,hroom,fun b o hb hso=> ?_⟩
   ·simp only[aNA,aMN,aM5,aMP,aNi];omega
   ·rw[htake,<-hlen];exact aOg
   ·by_cases hbg':b=g
    ·subst hbg';have ho:=hso rfl;rw[cell_setRow_same w b o cur _ e _ hg,cell_of_row w b o cur e (0,0) hg];have hlt:o<(cur.toList.take (n*i.size)).length:=by rw[aM5,aNi];omega
     rw[aMU,List.getElem?_toArray,aM0 hlt,aOs,aMI ho,aNQ]
    ·exact aM7 (w:=w) (a:=⟨b,o,none⟩) (aOf w g b _ hbg')
  ·have holds: ∀j u,xs[j]? =some u->w.cell? ((⟨g,0,none⟩:Addr).add j)=some u:=hown.cells (g:=g) rfl;have hr:=run_append_grow (P:=P) w t ty e i z ht hi hz ⟨g,0,none⟩ n cap xs hown.1 holds a m c news hl hnews (by omega) (by omega) (growslice_fits (by omega) hbytes);have hgr:=grown cap (by omega) (Value.ownBlock (.slice (some ⟨g,0,none⟩) n cap));exact⟨_,_,_,hr,hgr.1,.inl rfl,hgr.2.1,hgr.2.2.1,fun b o hb _=>hgr.2.2.2 b o hb⟩
theorem VZ {w:World}{e:TypeId}{c n:Nat}{q cap:Nat}{xs:List Value}(h:w.ownsRow 0 e c (.slice (some ⟨q,0,none⟩) n cap) n xs):w.rangeAt q 0 xs:=fun j u hu=>by
 have:=h.cells (g:=q) rfl j u hu;rwa [aNW] at this
theorem aEx (w:World) (a:Addr) (v:Value) (b:Nat):(w.setCell a v).shape? b=w.shape? b:=by
 unfold World.shape? World.setCell;simp only[aN8];by_cases h:a.block=b
 ·rw[aMI h];cases hb:w.heap[b]? with
  |none=>rfl
  |some x=>
   cases x with
   |cells c e f=>
    simp only[Option.map_some];split<;>simp
   |_=>rfl
 ·rw[aMK h]
theorem MN (b:Nat): ∀(l:List Value) (o:Nat) (w:World) (b':Nat),(w.setCells b o l).shape? b'=w.shape? b'
 |[],_,_,_=>rfl
 |v::l,o,w,b'=>by rw[World.setCells,MN b l,aEx]
section
variable {g:Gh}{w:World}{H:qO}(hH:rH g w H)
include hH
theorem qU.append {side:List Prop}{rds:List Nat}{k e c n:Nat}{u:Ty}{l r:List u.den}{w':World}{q cap:Nat}{v:Value}{xs news:List Value}(hk:p9 H k=some (.grow e c n)) (hc:c=u.cells)
  (hln:l.length=n) (hv:g.cur k n=some v) (hown:w.ownsRow 0 e c v n xs) (hnone: ∀m,n<m->g.cur k m=none) (hseal: ∀b,v.ownBlock=some b->∀o,g.S b o->o<n*c) (hl:sC (Rd g w u) c l xs) (hr:sC (Rd g w u) c r news) (hm:0<r.length)
  (ho:w'.ownsRow 0 e c (.slice (some ⟨q,0,none⟩) (n+r.length) cap) (n+r.length) (xs++news)) (hq:q=w.heap.size\/v.ownBlock=some q) (hg:w.grownBy w' v.ownBlock) (hcap:n+r.length<=cap)
  (hcell: ∀b o,b<w.heap.size->(v.ownBlock=some b->o<n*c)->w'.cell? ⟨b,o,none⟩=w.cell? ⟨b,o,none⟩):
  qU g w H ⟨side,(.val (.list u) (l++r),some k),[(k,.grow e c (n+r.length))],rds⟩ ((g.tok k (n+r.length) (.slice (some ⟨q,0,none⟩) (n+r.length) cap)).shut q ((n+r.length)*c)) w' (.slice (some ⟨q,0,none⟩) (n+r.length) cap):=by
 have hnb:=hnone (n+r.length) (by omega);have hownk: ∀o b,v.ownBlock=some b->rQ g H (pB [(k,oX.grow e c (n+r.length))]) b o:=fun o b hb=>⟨k,_,by simp [pB],hk,v,hv,hb⟩;have hqlt:q<w'.heap.size:=(ho.lt q rfl).2;have le:Le g w ((g.tok k (n+r.length) (.slice (some ⟨q,0,none⟩) (n+r.length) cap)).shut q ((n+r.length)*c)) w':=⟨fun _ _ h=> .inl h,fun b o h=>hcell b o (hH.sl b o h) (fun hb=>hseal b hb o h),fun _ _ h=>h,fun k' n' v' h=>by
  show (if k'=k/\n'=n+r.length then _ else _)=_;rw[aMK (fun⟨e1,e2⟩=>by rw[e1,e2,hnb] at h;cases h)];exact h⟩
 have fr:Fr (rQ g H (pB [(k,oX.grow e c (n+r.length))])) w w' g.S ((g.tok k (n+r.length) (.slice (some ⟨q,0,none⟩) (n+r.length) cap)).shut q ((n+r.length)*c)).S:=by
  have hbk: ∀b,b<w.heap.size->∀o,¬rQ g H (pB [(k,oX.grow e c (n+r.length))]) b o->w'.heap[b]? =w.heap[b]? :=fun b hb o hno=>hg.block b hb (fun e1=>hno (hownk o b e1.symm));refine⟨hg.os,hg.tape,hg.output,hg.size,fun b hb hno=>hbk b hb 0 (hno 0),fun b o hb hno=>⟨aM7 (a:=⟨b,o,none⟩) (hbk b hb o hno),aNF (a:=⟨b,o,none⟩) (hbk b hb o hno)⟩,fun b o h=> ?_,fun b s hs=> ?_⟩
  rotate_left
  ·by_cases e1:v.ownBlock=some b
   ·exact .inr fun o=>hownk o b e1
   ·exact .inl ((CI (hg.block b (CH hs) (fun h=>e1 h.symm))).trans hs)
  rcases h with h|⟨rfl,_⟩
  ·exact .inl h
  ·rcases hq with h|h
   ·exact .inr (.inl (aOh h.symm))
   ·exact .inr (.inr (hownk o b h))
 have gho: ∀i,i∉pB [(k,oX.grow e c (n+r.length))]->((g.tok k (n+r.length) (.slice (some ⟨q,0,none⟩) (n+r.length) cap)).shut q ((n+r.length)*c)).J i=g.J i/\((g.tok k (n+r.length) (.slice (some ⟨q,0,none⟩) (n+r.length) cap)).shut q ((n+r.length)*c)).cur i=g.cur i:=fun i hi=>⟨rfl,by
  funext n';show (if i=k/\n'=n+r.length then _ else _)=_;rw[aMK (fun⟨e1,_⟩=>hi (by simp [pB,e1]))]⟩
 have cur1:((g.tok k (n+r.length) (.slice (some ⟨q,0,none⟩) (n+r.length) cap)).shut q ((n+r.length)*c)).cur k (n+r.length)=some (.slice (some ⟨q,0,none⟩) (n+r.length) cap):=by
  show (if k=k/\n+r.length=n+r.length then _ else _)=_;simp
 have get: ∀i blk,i∈pB [(k,oX.grow e c (n+r.length))]->p9 (pF [(k,oX.grow e c (n+r.length))] H) i=some blk->i=k/\blk= .grow e c (n+r.length):=by
  intro i blk hi hg;simp only[pB,aMW] at hi;subst hi;simp only[pF,p9,aOk,aMJ] at hg;exact⟨rfl,hg.symm⟩
 have perm: ∀i blk b o,i∈pB [(k,oX.grow e c (n+r.length))]->p9 (pF [(k,oX.grow e c (n+r.length))] H) i=some blk->qP ((g.tok k (n+r.length) (.slice (some ⟨q,0,none⟩) (n+r.length) cap)).shut q ((n+r.length)*c)) i blk b o->w.heap.size<=b\/rQ g H (pB [(k,oX.grow e c (n+r.length))]) b o:=by
  intro i blk b o hi hgt ho';obtain⟨rfl,rfl⟩:=get i blk hi hgt;obtain⟨v',hv',hb⟩:=ho';rw[cur1] at hv';obtain rfl:=aML hv';cases hb;rcases hq with h|h
  ·exact .inl (aOh h.symm)
  ·exact .inr (hownk o _ h)
 have hF:sC (Rd ((g.tok k (n+r.length) (.slice (some ⟨q,0,none⟩) (n+r.length) cap)).shut q ((n+r.length)*c)) w' u) u.cells (l++r) (xs++news):=hc▸B5 (fun _ _ h=>uX le h) (ME hl hr);have hlr:(l++r).length=n+r.length:=by rw[aMN,hln]
 refine⟨le,⟨.inr ⟨rfl,some ⟨q,0,none⟩,cap,by rw[hlr],by rw[hlr];exact hcap,.inr ⟨q,0,rfl,HU hF (VZ ho) (fun j hj=> ?_)⟩⟩,?_⟩,hH.upd le fr perm gho (fun i blk hi hgt=> ?_) (fun i j bi bj b o hi hj hij hgi hgj _ _=>hij ((get i bi hi hgi).1.trans (get j bj hj hgj).1.symm)) (fun b o h=> ?_),fr,perm,gho,fun i u' y us h=>by
  simp only[pF,p9] at h;split at h
  ·cases h
  ·exact .inl ⟨y,us,h⟩⟩
 ·right;rw[hlr] at hj;exact⟨rfl,by rw[hc];omega⟩
 ·show _=_;rw[hlr];exact cur1
 ·obtain⟨rfl,rfl⟩:=get i blk hi hgt;refine⟨_,_,cur1,ho,fun m hm'=> ?_,fun b hb o h=> ?_⟩
  ·show (if i=i/\m=n+r.length then _ else _)=_;rw[aMK (by omega)];exact hnone m (by omega)
  ·cases hb;rcases h with h|⟨_,h⟩
   ·rcases hq with h2|h2
    ·have:q<w.heap.size:=hH.sl _ _ h;omega
    ·have:=hseal _ h2 o h;rw[Nat.add_mul];omega
   ·exact h
 ·rcases h with h|⟨rfl,_⟩
  ·exact aNm (hH.sl b o h) hg.size
  ·exact hqlt
theorem qU.lit {side:List Prop}{rds:List Nat}{base e c n:Nat}{u:Ty}{l:List u.den}{cs:List Value}(hc:c=u.cells) (hln:l.length=n) (hl:sC (Rd g w u) c l cs) (hn:n<=maxLen) (hf: ∀m,g.cur base m=none):
  qU g w H ⟨side,(.val (.list u) l,some base),[(base,.grow e c n)],rds⟩ ((g.tok base n (.slice (some ⟨w.heap.size,0,none⟩) n n)).shut w.heap.size (n*c)) (w.alloc (.cells cs.toArray e)) (.slice (some ⟨w.heap.size,0,none⟩) n n):=by
 have hlen:=FZ hl;have le:Le g w ((g.tok base n (.slice (some ⟨w.heap.size,0,none⟩) n n)).shut w.heap.size (n*c)) (w.alloc (.cells cs.toArray e)):=⟨fun _ _ h=> .inl h,fun b o h=>aM7 (a:=⟨b,o,none⟩) (aNg _ _ _ (hH.sl b o h)),fun _ _ h=>h,fun k' n' v' h=>by
  show (if k'=base/\n'=n then _ else _)=_;rw[aMK (fun⟨e1,e2⟩=>by rw[e1,hf] at h;cases h)];exact h⟩
 have fr:Fr (rQ g H (pB [(base,oX.grow e c n)])) w (w.alloc (.cells cs.toArray e)) g.S ((g.tok base n (.slice (some ⟨w.heap.size,0,none⟩) n n)).shut w.heap.size (n*c)).S:=
  ⟨rfl,rfl,rfl,by simp,fun b hb _=>aNg _ _ _ hb,fun b o hb _=>⟨aM7 (a:=⟨b,o,none⟩) (aNg _ _ _ hb),aNF (a:=⟨b,o,none⟩) (aNg _ _ _ hb)⟩,fun b o h=>h.imp id fun h=> .inl (aOh h.1.symm),fun b s h=> .inl ((CI (aNg _ _ _ (CH h))).trans h)⟩
 have gho: ∀i,i∉pB [(base,oX.grow e c n)]->((g.tok base n (.slice (some ⟨w.heap.size,0,none⟩) n n)).shut w.heap.size (n*c)).J i=g.J i/\((g.tok base n (.slice (some ⟨w.heap.size,0,none⟩) n n)).shut w.heap.size (n*c)).cur i=g.cur i:=fun i hi=>⟨rfl,by
  funext n';show (if i=base/\n'=n then _ else _)=_;rw[aMK (fun⟨e1,_⟩=>hi (by simp [pB,e1]))]⟩
 have cur1:((g.tok base n (.slice (some ⟨w.heap.size,0,none⟩) n n)).shut w.heap.size (n*c)).cur base n=some (.slice (some ⟨w.heap.size,0,none⟩) n n):=by
  show (if base=base/\n=n then _ else _)=_;simp
 have get: ∀i blk,i∈pB [(base,oX.grow e c n)]->p9 (pF [(base,oX.grow e c n)] H) i=some blk->i=base/\blk= .grow e c n:=by
  intro i blk hi hg;simp only[pB,aMW] at hi;subst hi;simp only[pF,p9,aOk,aMJ] at hg;exact⟨rfl,hg.symm⟩
 have perm: ∀i blk b o,i∈pB [(base,oX.grow e c n)]->p9 (pF [(base,oX.grow e c n)] H) i=some blk->qP ((g.tok base n (.slice (some ⟨w.heap.size,0,none⟩) n n)).shut w.heap.size (n*c)) i blk b o->w.heap.size<=b\/rQ g H (pB [(base,oX.grow e c n)]) b o:=by
  intro i blk b o hi hgt ho';obtain⟨rfl,rfl⟩:=get i blk hi hgt;obtain⟨v',hv',hb⟩:=ho';rw[cur1] at hv';obtain rfl:=aML hv';cases hb;exact .inl (aM2 _)
 have hF:sC (Rd ((g.tok base n (.slice (some ⟨w.heap.size,0,none⟩) n n)).shut w.heap.size (n*c)) (w.alloc (.cells cs.toArray e)) u) u.cells l cs:=hc▸B5 (fun _ _ h=>uX le h) hl;have hra:(w.alloc (.cells cs.toArray e)).rangeAt w.heap.size 0 cs:=fun j v hv=>by
  rw[aNd,aOQ];simpa using hv
 refine⟨le,⟨.inr ⟨rfl,some ⟨w.heap.size,0,none⟩,n,by rw[hln],by rw[hln];exact aM2 _,.inr ⟨w.heap.size,0,rfl,HU hF hra (fun j hj=> ?_)⟩⟩,?_⟩,hH.upd le fr perm gho (fun i blk hi hgt=> ?_) (fun i j bi bj b o hi hj hij hgi hgj _ _=>hij ((get i bi hi hgi).1.trans (get j bj hj hgj).1.symm)) (fun b o h=> ?_),fr,perm,gho,fun i u' y us h=>by
  simp only[pF,p9] at h;split at h
  ·cases h
  ·exact .inl ⟨y,us,h⟩⟩
 ·right;rw[hln] at hj;exact⟨rfl,by rw[hc];omega⟩
 ·show _=_;rw[hln];exact cur1
 ·obtain⟨rfl,rfl⟩:=get i blk hi hgt;refine⟨_,cs,cur1,⟨by rw[hlen,hln],.inr ⟨w.heap.size,n,cs.toArray,rfl,aNt _,aOP w _,aM2 _,hn,by simp [hlen,hln],by simp [<-hln,<-hlen]⟩⟩,fun m hm'=> ?_,fun b hb o h=> ?_⟩
  ·show (if i=i/\m=n then _ else _)=_;rw[aMK (by omega)];exact hf m
  ·cases hb;rcases h with h|⟨_,h⟩
   ·exact absurd (hH.sl _ _ h) (aOx _)
   ·exact h
 ·rcases h with h|⟨rfl,_⟩
  ·exact aNm (hH.sl b o h) (by simp)
  ·simp
theorem W3: ∀{toks:List (Nat×Nat)}{off n q k:Nat},(q,k)∈u7 toks off n->(q,k)∈toks/\¬(off<=q/\q<off+n)
 |[],_,_,_,_,h=>by simp [u7] at h
 |(q',k')::r,off,n,q,k,h=>by
  simp only[u7] at h;split at h
  ·obtain⟨h1,h2⟩:=W3 h;exact⟨aM4 _ h1,h2⟩
  ·rename_i hn;rcases aM1.1 h with h|h
   ·cases h;exact⟨by simp,hn⟩
   ·obtain⟨h1,h2⟩:=W3 h;exact⟨aM4 _ h1,h2⟩
theorem aEy {u:Ty}{y:u.den}: ∀{t:Ty}{x z:t.den}{o:Nat},u.isRow=false->rN u y t x o=some z->pO u t z o=some y:=by
 intro t
 induction t with
 |pair a b iha ihb=>
  intro x z o hu h;have hne:u≠.pair a b:=by intro e;rw[e] at hu;cases hu
  have key: ∀o,(if o<a.cells then(rN u y a x.1 o).map (fun q=>(q,x.2)) else(rN u y b x.2 (o-a.cells)).map (fun q=>(x.1,q)))=some z->
    (if o<a.cells then pO u a z.1 o else pO u b z.2 (o-a.cells))=some y:=by
   intro o h;by_cases ho:o<a.cells
   ·rw[aMI ho] at h⊢;obtain⟨q,hq,rfl⟩:=aMZ.1 h;exact iha hu hq
   ·rw[aMK ho] at h⊢;obtain⟨q,hq,rfl⟩:=aMZ.1 h;exact ihb hu hq
  cases o with
  |zero=>
   unfold rN at h;unfold pO;rw[aOq hne] at h;rw[aOq (Ne.symm hne)];have:=key 0 (by simpa using h);simpa using this
  |succ o=>
   have:=key (o+1) (by simpa[rN] using h);simpa[pO] using this
 |_=>
  intro x z o hu h;cases o with
  |zero=>
   unfold rN at h;split at h
   ·rename_i e;subst e;simp only[sY,aMJ] at h
    try subst h
    unfold pO;simp [sY]
   ·simp at h
  |succ o=>simp [rN] at h
theorem a6l {u v:Ty}{y:u.den}: ∀{t:Ty}{x z:t.den}{o q:Nat}{l:(Ty.list v).den},rN u y t x o=some z->pO (.list v) t x q=some l->¬(o<=q/\q<o+u.cells)->pO (.list v) t z q=some l:=by
 intro t
 induction t with
 |pair a b iha ihb=>
  intro x z o q l h g hq;by_cases hu:o=0/\u= .pair a b
  ·obtain⟨rfl,rfl⟩:=hu;exfalso;apply hq;have: ∀(t:Ty) (x:t.den) (q:Nat) (l:(Ty.list v).den),pO (.list v) t x q=some l->q<t.cells:=by
    intro t
    induction t with
    |pair s t ihs iht=>
     intro x q l g;have key: ∀q,(if q<s.cells then pO (.list v) s x.1 q else pO (.list v) t x.2 (q-s.cells))=some l->q<s.cells+t.cells:=by
      intro q g;by_cases h:q<s.cells
      ·omega
      ·rw[aMK h] at g;have:=iht _ _ _ g;omega
     cases q with
     |zero=>
      unfold pO at g;rw[aOq (by intro e;cases e)] at g;exact key 0 (by simpa using g)
     |succ q=>exact key (q+1) (by simpa[pO] using g)
    |_=>
     intro x q l g;cases q with
     |zero=>first|(simp [Ty.cells];done) |(unfold pO at g;simp at g)
     |succ q=>simp [pO] at g
   exact⟨aNt _,by simpa using this _ _ _ _ g⟩
  ·have keyh:(if o<a.cells then(rN u y a x.1 o).map (fun q=>(q,x.2)) else(rN u y b x.2 (o-a.cells)).map (fun q=>(x.1,q)))=some z:=by
    cases o with
    |zero=>
     unfold rN at h;rw[aOq (fun e=>hu ⟨rfl,e⟩)] at h;simpa using h
    |succ o=>simpa[rN] using h
   have keyg: ∀x:(Ty.pair a b).den,pO (.list v) (.pair a b) x q=(if q<a.cells then pO (.list v) a x.1 q else pO (.list v) b x.2 (q-a.cells)):=by
    intro x;cases q with
    |zero=>
     conv=>lhs;unfold pO
     rw[aOq (by intro e;cases e),Nat.zero_sub]
    |succ q=>simp [pO]
   rw[keyg] at g⊢;by_cases ho:o<a.cells
   ·rw[aMI ho] at keyh;obtain⟨z',hz',rfl⟩:=aMZ.1 keyh;by_cases hqa:q<a.cells
    ·rw[aMI hqa] at g⊢;exact iha hz' g hq
    ·rw[aMK hqa] at g⊢;exact g
   ·rw[aMK ho] at keyh;obtain⟨z',hz',rfl⟩:=aMZ.1 keyh;by_cases hqa:q<a.cells
    ·rw[aMI hqa] at g⊢;exact g
    ·rw[aMK hqa] at g⊢;exact ihb hz' g (by omega)
 |unit=>
  intro x z o q l h g hq;cases q with
  |zero=>
   unfold pO at g;rw[aOq (by intro e;cases e)] at g;cases g
  |succ q=>simp [pO] at g
 |_=>
  intro x z o q l h g hq;cases o with
  |zero=>
   unfold rN at h;split at h
   ·rename_i e;subst e;cases q with
    |zero=>exact absurd ⟨aM2 _,Nat.zero_lt_one⟩ hq
    |succ q=>simp [pO] at g
   ·simp at h
  |succ o=>simp [rN] at h
theorem qU.store {side:List Prop}{rds:List Nat}{i:Nat}{u t:Ty}{x z:u.den}{y:t.den}{off:Nat}{toks:List (Nat×Nat)}{k:Option Nat}{p:Pl}{cy:List Value}{v:Value}(hb:p9 H i=some (.cells u x toks)) (hp:g.J i=some p)
  (hset:rN t y u x off=some z) (hy:Rd g w t y cy) (hk:BS g t y v k) (hk2: ∀a b,t= .pair a b->k=none) (hv:t.isRow=false->cy=[v]):
  qU g w H ⟨side,(.any,none),[(i,.cells u z (pF (vP k off) (u7 toks off t.cells)))],rds⟩ g (w.setCells p.1 (p.2+off) cy) undef/\w.there p.1 (p.2+off) cy.length:=by
 obtain⟨p',cs,hp',hR,hra,hth,hns,htk⟩:=hH.blk i _ hb;rw[hp] at hp';obtain rfl:=aML hp';obtain⟨c1,c2,c3,hcs,hl1,hl2,hz⟩:=Q9 hy hR hset;subst hcs;subst hl1;have hcl:=rP hR;have hyl:=rP hy;simp only[aMN] at hcl;have hthere:w.there p.1 (p.2+c1.length) cy.length:=fun j hj=>by
  have:=hth.1 (c1.length+j) (by omega);rwa [<-aNn] at this
 have hout: ∀b o,(b=p.1->o<p.2+c1.length\/p.2+c1.length+cy.length<=o)->(w.setCells p.1 (p.2+c1.length) cy).cell? ⟨b,o,none⟩=w.cell? ⟨b,o,none⟩:=fun b o h=>World.cell?_setCells_out p.1 cy _ w ⟨b,o,none⟩ (fun e _=>h e);have hin: ∀b o,b=p.1->p.2+c1.length<=o->o<p.2+c1.length+cy.length->qP g i (.cells u x toks) b o:=fun b o e h1 h2=>⟨p,hp,e,by omega,by omega⟩;have hsz:(w.setCells p.1 (p.2+c1.length) cy).heap.size=w.heap.size:=by
  have: ∀(l:List Value) (o:Nat) (w:World),(w.setCells p.1 o l).heap.size=w.heap.size:=by
   intro l
   induction l with
   |nil=>intro o w;rfl
   |cons v l ih=>intro o w;rw[World.setCells,ih];simp [World.setCell]
  exact this _ _ _
 have hbk: ∀b,b≠p.1->(w.setCells p.1 (p.2+c1.length) cy).heap[b]? =w.heap[b]? :=by
  intro b hb;have: ∀(l:List Value) (o:Nat) (w:World),(w.setCells p.1 o l).heap[b]? =w.heap[b]? :=by
   intro l
   induction l with
   |nil=>intro o w;rfl
   |cons v l ih=>intro o w;rw[World.setCells,ih];exact Below.heap_setCell _ _ _ _ hb
  exact this _ _ _
 have hos:(w.setCells p.1 (p.2+c1.length) cy).os=w.os/\(w.setCells p.1 (p.2+c1.length) cy).tape=w.tape/\(w.setCells p.1 (p.2+c1.length) cy).output=w.output:=by
  have: ∀(l:List Value) (o:Nat) (w:World),(w.setCells p.1 o l).os=w.os/\(w.setCells p.1 o l).tape=w.tape/\(w.setCells p.1 o l).output=w.output:=by
   intro l
   induction l with
   |nil=>intro o w;exact⟨rfl,rfl,rfl⟩
   |cons v l ih=>intro o w;rw[World.setCells];exact ih _ _
  exact this _ _ _
 have hiS: ∀b o,g.S b o->¬(b=p.1/\p.2<=o/\o<p.2+u.cells):=fun b o hs ⟨e,h1,h2⟩=>hns (o-p.2) (by omega) (by rw[show p.2+(o-p.2)=o from by omega,<-e];exact hs);have le:Le g w g (w.setCells p.1 (p.2+c1.length) cy):=⟨fun _ _ h=>h,fun b o h=>hout b o (fun e=>by
  have:=hiS b o h;rcases aNV o (p.2+c1.length) with h1|h1
  ·exact .inl h1
  ·rcases aNV o (p.2+c1.length+cy.length) with h2|h2
   ·exact absurd ⟨e,by omega,by omega⟩ this
   ·exact .inr h2),fun _ _ h=>h,fun _ _ _ h=>h⟩
 have hofI: ∀b o,qP g i (.cells u x toks) b o->rQ g H (pB [(i,oX.cells u z (pF (vP k c1.length) (u7 toks c1.length t.cells)))]) b o:=fun b o h=>⟨i,_,by simp [pB],hb,h⟩;have fr:Fr (rQ g H (pB [(i,oX.cells u z (pF (vP k c1.length) (u7 toks c1.length t.cells)))])) w (w.setCells p.1 (p.2+c1.length) cy) g.S g.S:=by
  refine⟨hos.1,hos.2.1,hos.2.2,aOh hsz.symm,fun b hb' hno=> ?_,fun b o hb' hno=>⟨hout b o (fun e=> ?_),World.frozen?_setCells _ _ _ _ _⟩,fun b o h=> .inl h,fun b s hs=> .inl ((MN _ _ _ _ _).trans hs)⟩
  ·by_cases e:b=p.1
   ·cases hcy:cy with
    |nil=>rfl
    |cons q l=>exact absurd (hofI b (p.2+c1.length) (hin b _ e (aM2 _) (by rw[hcy];simp))) (hno _)
   ·exact hbk b e
  ·rcases aNV o (p.2+c1.length) with h1|h1
   ·exact .inl h1
   ·rcases aNV o (p.2+c1.length+cy.length) with h2|h2
    ·exact absurd (hofI b o (hin b o e h1 h2)) hno
    ·exact .inr h2
 have gho: ∀j,j∉pB [(i,oX.cells u z (pF (vP k c1.length) (u7 toks c1.length t.cells)))]->g.J j=g.J j/\g.cur j=g.cur j:=fun _ _=>⟨rfl,rfl⟩;have get: ∀j blk,j∈pB [(i,oX.cells u z (pF (vP k c1.length) (u7 toks c1.length t.cells)))]->p9 (pF [(i,oX.cells u z (pF (vP k c1.length) (u7 toks c1.length t.cells)))] H) j=some blk->j=i/\blk= .cells u z (pF (vP k c1.length) (u7 toks c1.length t.cells)):=by
  intro j blk hi hg;simp only[pB,aMW] at hi;subst hi;simp only[pF,p9,aOk,aMJ] at hg;exact⟨rfl,hg.symm⟩
 have perm: ∀j blk b o,j∈pB [(i,oX.cells u z (pF (vP k c1.length) (u7 toks c1.length t.cells)))]->p9 (pF [(i,oX.cells u z (pF (vP k c1.length) (u7 toks c1.length t.cells)))] H) j=some blk->qP g j blk b o->w.heap.size<=b\/rQ g H (pB [(i,oX.cells u z (pF (vP k c1.length) (u7 toks c1.length t.cells)))]) b o:=by
  intro j blk b o hi hg ho;obtain⟨rfl,rfl⟩:=get j blk hi hg;exact .inr (hofI b o ho)
 refine⟨⟨le,⟨trivial,trivial⟩,hH.upd le fr perm gho (fun j blk hi hg=> ?_) (fun i j bi bj b o hi hj hij hgi hgj _ _=>hij ((get i bi hi hgi).1.trans (get j bj hj hgj).1.symm)) (fun b o h=>by rw[hsz];exact hH.sl b o h),fr,perm,gho,fun j u' y' us h=>by
  simp only[pF,p9] at h;split at h
  ·rename_i e1;subst e1;simp only[aMJ,oX.cells.injEq] at h;obtain⟨rfl,_⟩:=h;exact .inl ⟨x,toks,hb⟩
  ·exact .inl ⟨y',us,h⟩⟩,hthere⟩
 obtain⟨rfl,rfl⟩:=get j blk hi hg;refine⟨p,_,hp,uX le hz,fun q v hq=> ?_,⟨fun q hq=> ?_,fun h0 s hs=>(MN _ _ _ _ _).trans (hth.2 h0 s hs)⟩,hns,?_⟩
 ·by_cases h1:q<c1.length
  ·rw[hout _ _ (fun _=> .inl (by omega))];refine hra q v ?_;rw[aMU,aM0 h1] at hq⊢;exact hq
  ·by_cases h2:q<c1.length+cy.length
   ·have:=aOd p.1 cy (p.2+c1.length) w (fun j hj=>(hthere j hj).1) (q-c1.length) (by omega);rw[show p.2+c1.length+(q-c1.length)=p.2+q from by omega] at this;rw[this];rw[aMU,aMV (by omega),aM0 (by omega)] at hq;rw[<-hq,aMR (by omega)]
   ·rw[hout _ _ (fun _=> .inr (by omega))];refine hra q v ?_;rw[aMU,aMV (by omega),aMV (by omega)] at hq⊢;rw[hl2];rw[hyl] at hq;exact hq
 ·have hh:=hth.1 q hq;refine⟨?_,by rw[World.frozen?_setCells];exact hh.2⟩;by_cases h1:q<c1.length\/c1.length+cy.length<=q
  ·rw[hout _ _ (fun _=>by omega)];exact hh.1
  ·have:=aOd p.1 cy (p.2+c1.length) w (fun j hj=>(hthere j hj).1) (q-c1.length) (by omega);rw[show p.2+c1.length+(q-c1.length)=p.2+q from by omega] at this;rw[this];rfl
 ·intro q kk hm;have hsplit:(q,kk)∈vP k c1.length\/(q,kk)∈u7 toks c1.length t.cells:=by
   cases k with
   |none=>exact .inr (by simpa[vP,pF] using hm)
   |some k=>
    simp only[vP,pF,aM1] at hm;rcases hm with hm|hm
    ·exact .inl (by simp [vP,hm])
    ·exact .inr hm
  rcases hsplit with hm|hm
  ·cases k with
   |none=>simp [vP] at hm
   |some k=>
    simp only[vP,aMW,aM9] at hm;obtain⟨rfl,rfl⟩:=hm;cases t with
    |list t=>
     obtain rfl:=hv rfl;exact⟨t,y,v,aEy hH rfl hset,by simp,hk⟩
    |pair a b=>cases hk2 a b rfl
    |_=>exact hk.elim
  ·obtain⟨h1,h2⟩:=W3 hH hm;obtain⟨v',l,v1,g1,g2,g3⟩:=htk q kk h1;refine⟨v',l,v1,a6l hH hset g1 h2,?_,g3⟩;rcases aNV q c1.length with h3|h3
   ·rw[aMU,aM0 h3] at g2⊢;exact g2
   ·have h4:c1.length+t.cells<=q:=by omega
    rw[aMU,aMV (by omega),aMV (by omega)] at g2⊢;rw[hyl];rw[hl2] at g2;exact g2
theorem yP.openS {side:List Prop}{rds:List Nat}{i:Nat}{u u0:Ty}{el:Nat}{kn:Option (Nat×Nat)}{x:u.den}{z: Σ t:Ty,t.den}{off:Nat}{toks:List (Nat×Nat)}{p:Pl}{cy:List Value}(hb:p9 H i=some (.cells u x toks)) (hp:g.J i=some p)
  (hset:w8 el u0 kn u x off=some z) (hy:BR g kn cy) (hyl:cy.length=1) (hre:FN rds=true):
  yP g w H ⟨side,(.any,none),[(i,.cells z.1 z.2 [])],rds⟩ g (w.setCells p.1 (p.2+off) cy) undef/\w.there p.1 (p.2+off) cy.length:=by
 obtain⟨p',cs,hp',hR,hra,hth,hns,htk⟩:=hH.blk i _ hb;rw[hp] at hp';obtain rfl:=aML hp';obtain⟨c1,c2,c3,hcs,hl1,hl2,hz⟩:=aDY hy hR hset;subst hcs;subst hl1;have hcl:=rP hR;have hcz:=aDX hset;simp only[aMN] at hcl;have hthere:w.there p.1 (p.2+c1.length) cy.length:=fun j hj=>by
  have:=hth.1 (c1.length+j) (by omega);rwa [<-aNn] at this
 have hout: ∀b o,(b=p.1->o<p.2+c1.length\/p.2+c1.length+cy.length<=o)->(w.setCells p.1 (p.2+c1.length) cy).cell? ⟨b,o,none⟩=w.cell? ⟨b,o,none⟩:=fun b o h=>World.cell?_setCells_out p.1 cy _ w ⟨b,o,none⟩ (fun e _=>h e);have hin: ∀b o,b=p.1->p.2+c1.length<=o->o<p.2+c1.length+cy.length->qP g i (.cells u x toks) b o:=fun b o e h1 h2=>⟨p,hp,e,by omega,by omega⟩;have hsz:(w.setCells p.1 (p.2+c1.length) cy).heap.size=w.heap.size:=by
  have: ∀(l:List Value) (o:Nat) (w:World),(w.setCells p.1 o l).heap.size=w.heap.size:=by
   intro l
   induction l with
   |nil=>intro o w;rfl
   |cons v l ih=>intro o w;rw[World.setCells,ih];simp [World.setCell]
  exact this _ _ _
 have hbk: ∀b,b≠p.1->(w.setCells p.1 (p.2+c1.length) cy).heap[b]? =w.heap[b]? :=by
  intro b hb;have: ∀(l:List Value) (o:Nat) (w:World),(w.setCells p.1 o l).heap[b]? =w.heap[b]? :=by
   intro l
   induction l with
   |nil=>intro o w;rfl
   |cons v l ih=>intro o w;rw[World.setCells,ih];exact Below.heap_setCell _ _ _ _ hb
  exact this _ _ _
 have hos:(w.setCells p.1 (p.2+c1.length) cy).os=w.os/\(w.setCells p.1 (p.2+c1.length) cy).tape=w.tape/\(w.setCells p.1 (p.2+c1.length) cy).output=w.output:=by
  have: ∀(l:List Value) (o:Nat) (w:World),(w.setCells p.1 o l).os=w.os/\(w.setCells p.1 o l).tape=w.tape/\(w.setCells p.1 o l).output=w.output:=by
   intro l
   induction l with
   |nil=>intro o w;exact⟨rfl,rfl,rfl⟩
   |cons v l ih=>intro o w;rw[World.setCells];exact ih _ _
  exact this _ _ _
 have hiS: ∀b o,g.S b o->¬(b=p.1/\p.2<=o/\o<p.2+u.cells):=fun b o hs ⟨e,h1,h2⟩=>hns (o-p.2) (by omega) (by rw[show p.2+(o-p.2)=o from by omega,<-e];exact hs);have le:Le g w g (w.setCells p.1 (p.2+c1.length) cy):=⟨fun _ _ h=>h,fun b o h=>hout b o (fun e=>by
  have:=hiS b o h;rcases aNV o (p.2+c1.length) with h1|h1
  ·exact .inl h1
  ·rcases aNV o (p.2+c1.length+cy.length) with h2|h2
   ·exact absurd ⟨e,by omega,by omega⟩ this
   ·exact .inr h2),fun _ _ h=>h,fun _ _ _ h=>h⟩
 have hofI: ∀b o,qP g i (.cells u x toks) b o->rQ g H (pB [(i,oX.cells z.1 z.2 [])]) b o:=fun b o h=>⟨i,_,by simp [pB],hb,h⟩;have fr:Fr (rQ g H (pB [(i,oX.cells z.1 z.2 [])])) w (w.setCells p.1 (p.2+c1.length) cy) g.S g.S:=by
  refine⟨hos.1,hos.2.1,hos.2.2,aOh hsz.symm,fun b hb' hno=> ?_,fun b o hb' hno=>⟨hout b o (fun e=> ?_),World.frozen?_setCells _ _ _ _ _⟩,fun b o h=> .inl h,fun b s hs=> .inl ((MN _ _ _ _ _).trans hs)⟩
  ·by_cases e:b=p.1
   ·cases hcy:cy with
    |nil=>rfl
    |cons q l=>exact absurd (hofI b (p.2+c1.length) (hin b _ e (aM2 _) (by rw[hcy];simp))) (hno _)
   ·exact hbk b e
  ·rcases aNV o (p.2+c1.length) with h1|h1
   ·exact .inl h1
   ·rcases aNV o (p.2+c1.length+cy.length) with h2|h2
    ·exact absurd (hofI b o (hin b o e h1 h2)) hno
    ·exact .inr h2
 have gho: ∀j,j∉pB [(i,oX.cells z.1 z.2 [])]->g.J j=g.J j/\g.cur j=g.cur j:=fun _ _=>⟨rfl,rfl⟩;have get: ∀j blk,j∈pB [(i,oX.cells z.1 z.2 [])]->p9 (pF [(i,oX.cells z.1 z.2 [])] H) j=some blk->j=i/\blk= .cells z.1 z.2 []:=by
  intro j blk hi hg;simp only[pB,aMW] at hi;subst hi;simp only[pF,p9,aOk,aMJ] at hg;exact⟨rfl,hg.symm⟩
 have perm: ∀j blk b o,j∈pB [(i,oX.cells z.1 z.2 [])]->p9 (pF [(i,oX.cells z.1 z.2 [])] H) j=some blk->qP g j blk b o->w.heap.size<=b\/rQ g H (pB [(i,oX.cells z.1 z.2 [])]) b o:=by
  intro j blk b o hi hg ho;obtain⟨rfl,rfl⟩:=get j blk hi hg;obtain⟨q,hq,e1,e2,e3⟩:=ho;rw[hcz] at e3;exact .inr (hofI b o ⟨q,hq,e1,e2,e3⟩)
 refine⟨⟨le,⟨trivial,trivial⟩,hH.upd le fr perm gho (fun j blk hi hg=> ?_) (fun i j bi bj b o hi hj hij hgi hgj _ _=>hij ((get i bi hi hgi).1.trans (get j bj hj hgj).1.symm)) (fun b o h=>by rw[hsz];exact hH.sl b o h),fr,perm,gho,fun h=>by rw[hre] at h;cases h⟩,hthere⟩;obtain⟨rfl,rfl⟩:=get j blk hi hg;refine⟨p,_,hp,uX le hz,fun q v hq=> ?_,⟨fun q hq=> ?_,fun h0 s hs=>(MN _ _ _ _ _).trans (hth.2 (by rw[<-hcz];exact h0) s hs)⟩,fun q hq=>hns q (by rw[<-hcz];exact hq),fun _ _ hm=>by cases hm⟩
 ·by_cases h1:q<c1.length
  ·rw[hout _ _ (fun _=> .inl (by omega))];refine hra q v ?_;rw[aMU,aM0 h1] at hq⊢;exact hq
  ·by_cases h2:q<c1.length+cy.length
   ·have:=aOd p.1 cy (p.2+c1.length) w (fun j hj=>(hthere j hj).1) (q-c1.length) (by omega);rw[show p.2+c1.length+(q-c1.length)=p.2+q from by omega] at this;rw[this];rw[aMU,aMV (by omega),aM0 (by omega)] at hq;rw[<-hq,aMR (by omega)]
   ·rw[hout _ _ (fun _=> .inr (by omega))];refine hra q v ?_;rw[aMU,aMV (by omega),aMV (by omega)] at hq⊢;rw[hl2];rw[hyl] at hq;exact hq
 ·have hh:=hth.1 q (by rw[<-hcz];exact hq);refine⟨?_,by rw[World.frozen?_setCells];exact hh.2⟩;by_cases h1:q<c1.length\/c1.length+cy.length<=q
  ·rw[hout _ _ (fun _=>by omega)];exact hh.1
  ·have:=aOd p.1 cy (p.2+c1.length) w (fun j hj=>(hthere j hj).1) (q-c1.length) (by omega);rw[show p.2+c1.length+(q-c1.length)=p.2+q from by omega] at this;rw[this];rfl
end
def yQ (g:Gh) (base:Nat) (e:pC):Prop:= ∀i,i∈pB e.upd->base<=i->g.J i=none/\∀n,g.cur i n=none
section
variable {P:Program}{o:Oper}{a:Act}{g:Gh}{w:World}{H:qO}{T:rO}(hT:vK P T) (hH:rH g w H)
include hT hH
theorem a6m {x:Operand}(ho:o.op= .move x\/o.op= .assign x) {sx:oZ}(hx:pW g w sx (a.eval x)) {base:Nat}{e:pC}(hr:UE base (qC T o.type) sx=some e) (hf:yQ g base e):pS P o a g w H e:=by
 have hrun:(execOp a.eval o).run P w= .ok (.value (a.eval x)) w:=by rcases ho with ho|ho<;>simp [execOp,ho]
 generalize hst:qC T o.type=ot at hr;unfold UE at hr;split at hr
 ·cases hr;have hv:a.eval x= .slice none 0 0:=hx.1;have hfr:=(hf base (by simp [pB]) (aM2 _)).2;refine pS.value (v:= .slice none 0 0) (by rw[hrun,hv]) (qU.row (v:= .slice none 0 0) (xs:=[]) hH rfl (World.ownsRow_nil w 0 _ _) rfl (fun m _=>hfr m) (fun u hu=>by rw[hfr] at hu;cases hu) (.inl ⟨rfl,rfl,rfl,aM2 _,fun _ _ _=>rfl⟩) (fun _ _ _=>rfl) (fun b hb=>by cases hb) (fun b hb=>by cases hb) ⟨⟨by simp [Gh.tok],.inl ⟨rfl,rfl⟩⟩,trivial⟩)
 ·cases hr;have hv:a.eval x= .slice none 0 0:=hx.1;refine pS.value (v:= .slice none 0 0) (by rw[hrun,hv]) (qU.nilTok hH rfl (hf base (by simp [pB]) (aM2 _)).2)
 ·cases hr
 ·cases hr;exact pS.value hrun (.pure hH hx)
theorem aEz {u:Ty}{y:List u.den}{k:Option Nat}{v:Value}{cs:List Value}(h:BS g (.list u) y v k) (hc:cs=[v]):EK g (.list u) y cs (vP k 0):=by
 intro q kk hm;cases k with
 |none=>simp [vP] at hm
 |some k=>
  simp only[vP,aMW,aM9] at hm;obtain⟨rfl,rfl⟩:=hm;exact⟨u,y,v,by unfold pO;simp [sY],by rw[hc];rfl,h⟩
omit hT hH in
theorem JQ {α:Type}: ∀(l m n:List α),pF (pF l m) n=pF l (pF m n)
 |[],_,_=>rfl
 |x::l,m,n=>by simp only[pF,JQ l m n]
omit hT hH in
theorem CL {i:Nat}: ∀{l m:List (Nat×oX)},i∈pB (pF l m)↔i∈pB l\/i∈pB m
 |[],m=>by simp [pF,pB]
 |(k,b)::l,m=>by simp only[pF,pB,aM1,CL (l:=l),or_assoc]
omit hT hH in
theorem qU.trans {H:qO}{e1 e2:pC}{g1 g2:Gh}{w1 w2:World}{v1 v2:Value}{side:List Prop}{rds:List Nat}(h:qU g w H e1 g1 w1 v1) (k:qU g1 w1 (pF e1.upd H) e2 g2 w2 v2):qU g w H ⟨side,e2.slot,pF e2.upd e1.upd,rds⟩ g2 w2 v2:=by
 have hB: ∀b o,rQ g1 (pF e1.upd H) (pB e2.upd) b o->w.heap.size<=b\/rQ g H (pB (pF e2.upd e1.upd)) b o:=by
  rintro b o ⟨i,blk,hi,hg,ho⟩;by_cases h1:i∈pB e1.upd
  ·refine(h.perm i blk b o h1 hg ho).imp id fun⟨j,bj,hj,q⟩=>⟨j,bj,CL.2 (.inr hj),q⟩
  ·exact .inr ⟨i,blk,CL.2 (.inl hi),(B6 h1).symm.trans hg,(x9 (h.gho i h1).1 (h.gho i h1).2).1 ho⟩
 have mono: ∀b o,rQ g H (pB e1.upd) b o->rQ g H (pB (pF e2.upd e1.upd)) b o:=fun b o ⟨j,bj,hj,q⟩=>⟨j,bj,CL.2 (.inr hj),q⟩;refine⟨h.le.trans k.le,k.slot,by simp only[JQ];exact k.heap,?_,fun i blk b o hi hg ho=> ?_,fun i hi=> ?_,fun i u y us hg=> ?_⟩
 ·have h1:Fr (rQ g H (pB (pF e2.upd e1.upd))) w w1 g.S g1.S:=⟨h.fr.os,h.fr.tape,h.fr.output,h.fr.size,fun b hb hn=>h.fr.blk b hb (fun o ho=>hn o (mono b o ho)),fun b o hb hn=>h.fr.cell b o hb (fun ho=>hn (mono b o ho)),fun b o hs=>(h.fr.new b o hs).imp id (Or.imp id (mono b o)),fun b s hs=>(h.fr.shape b s hs).imp id fun h o=>mono b o (h o)⟩;exact h1.trans k.fr hB
 ·simp only[JQ] at hg;by_cases h2:i∈pB e2.upd
  ·rcases k.perm i blk b o h2 hg ho with h3|h3
   ·exact .inl (aNC h.fr.size h3)
   ·exact hB b o h3
  ·have hi1:i∈pB e1.upd:=(CL.1 hi).resolve_left h2;rw[B6 h2] at hg;exact(h.perm i blk b o hi1 hg ((x9 (k.gho i h2).1 (k.gho i h2).2).1 ho)).imp id (mono b o)
 ·have h2:i∉pB e2.upd:=fun q=>hi (CL.2 (.inl q));have h1:i∉pB e1.upd:=fun q=>hi (CL.2 (.inr q));exact⟨(k.gho i h2).1.trans (h.gho i h1).1,(k.gho i h2).2.trans (h.gho i h1).2⟩
 ·simp only[JQ] at hg;rcases k.ty i u y us hg with⟨x,ts,h3⟩ |⟨h3,h4⟩
  ·exact h.ty i u x ts h3
  ·right;refine⟨?_,fun n=> ?_⟩
   ·cases hj:g.J i with
    |none=>rfl
    |some p=>rw[h.le.J i p hj] at h3;cases h3
   ·cases hj:g.cur i n with
    |none=>rfl
    |some p=>rw[<-h4 n,h.le.cur i n p hj]
omit hT hH in
theorem qU.congrH {H H':qO}{e:pC}{g':Gh}{w':World}{v:Value}(h:qU g w H e g' w' v) (hH:H=H'):qU g w H' e g' w' v:=hH▸h
omit hT hH in
theorem W4 {w:World}: ∀(ls:List (Nat×TypeId×Nat)) (i:Nat) (g:Gh) (H:qO),rH g w H->(∀j,i<=j->j<i+ls.length->∀n,g.cur j n=none)->
  ∃g1,qU g w H ⟨[],(.any,none),CC ls i,[]⟩ g1 w undef/\g1.J=g.J/\(∀o k,(o,k)∈AZ ls i->g1.cur k 0=some (.slice none 0 0))/\(∀k,k<i->g1.cur k=g.cur k)
 |[],i,g,H,hH,_=>⟨g,.pure hH ⟨trivial,trivial⟩,rfl,fun _ _ h=>by simp [AZ] at h,fun _ _=>rfl⟩
 |(o,e,c)::r,i,g,H,hH,hf=>by
  have e1:=qU.nilTok (side:=[]) (d:= .val (.list .bool) []) (rds:=[]) (base:=i) (e:=e) (c:=c) (u:= .bool) hH rfl (hf i (aM2 _) (by simp));have hc1: ∀k n,k≠i->(g.tok i 0 (.slice none 0 0)).cur k n=g.cur k n:=fun k n hk=>by
   show (if k=i/\n=0 then _ else _)=_;rw[aMK (fun h=>hk h.1)]
  obtain⟨g1,k1,k2,k3,k4⟩:=W4 r (i+1) (g.tok i 0 (.slice none 0 0)) (pF [(i,oX.grow e c 0)] H) e1.heap (fun j h1 h2 n=>by rw[hc1 j n (by omega)];exact hf j (by omega) (by simp only[aMO];omega) n);refine⟨g1,e1.trans k1,k2.trans rfl,fun o' k hm=> ?_,fun k hk=> ?_⟩
  ·simp only[AZ,aM1,aM9] at hm;rcases hm with⟨rfl,rfl⟩ |hm
   ·rw[k4 _ (by omega)];show (if k=k/\0=0 then _ else _)=_;simp
   ·exact k3 o' k hm
  ·rw[k4 k (by omega)];funext n;exact hc1 k n (by omega)
omit hT hH in
theorem W5: ∀{ls:List (Nat×TypeId×Nat)}{i o k:Nat},(o,k)∈AZ ls i->∃q∈ls,q.1=o
 |[],_,_,_,h=>by simp [AZ] at h
 |(o',e,c)::r,i,o,k,h=>by
  simp only[AZ,aM1,aM9] at h;rcases h with⟨h1,_⟩ |h
  ·exact⟨(o',e,c),by simp,h1.symm⟩
  ·obtain⟨q,h1,h2⟩:=W5 h;exact⟨q,by simp [h1],h2⟩
omit hT hH in
theorem W6 {t:Ty}: ∀{ls:List (Nat×TypeId×Nat)},D7 t ls=true->∀q∈ls,D6 t q.1=true
 |[],_,_,h=>by cases h
 |(o,e,c)::r,h,q,hq=>by
  simp only[D7,aMS] at h;rcases aM1.1 hq with rfl|hq
  ·exact h.1
  ·exact W6 h.2 q hq
omit hT hH in
theorem MO: ∀(ls:List (Nat×TypeId×Nat)) (i j:Nat),j∈pB (CC ls i)↔i<=j/\j<i+ls.length
 |[],i,j=>by simp only[CC,pB,aOo,aNw,false_iff];omega
 |(o,e,c)::r,i,j=>by
  simp only[CC,CL,MO r (i+1) j,pB,aMW,aMO];omega
omit hT hH in
theorem a6n {w:World}: ∀(R:List (Nat×Nat×Ty)) (i:Nat) (g:Gh) (H:qO),rH g w H->(∀j,i<=j->j<i+R.length->∀n,g.cur j n=none)->
  ∃g1,qU g w H ⟨[],(.any,none),HI R i,[]⟩ g1 w undef/\g1.J=g.J/\(∀j,j<R.length->g1.cur (i+j) 0=some (.slice none 0 0))/\(∀k,k<i->g1.cur k=g.cur k)
 |[],i,g,H,hH,_=>⟨g,.pure hH ⟨trivial,trivial⟩,rfl,fun _ h=>by simp at h,fun _ _=>rfl⟩
 |(o,e,u)::r,i,g,H,hH,hf=>by
  have hfr:=hf i (aM2 _) (by simp);have e1:=qU.row (side:=[]) (rds:=[]) (k:=i) (e:=e) (t:=u) (l:=[]) (n:=0) (s:=(.any,none)) (val:=undef) (v:= .slice none 0 0) (xs:=[]) hH rfl (World.ownsRow_nil w 0 _ _) rfl (fun m _=>hfr m) (fun u hu=>by rw[hfr] at hu;cases hu) (.inl ⟨rfl,rfl,rfl,aM2 _,fun _ _ _=>rfl⟩) (fun _ _ _=>rfl) (fun b hb=>by cases hb) (fun b hb=>by cases hb) ⟨trivial,trivial⟩;have hc1: ∀k n,k≠i->(g.tok i 0 (.slice none 0 0)).cur k n=g.cur k n:=fun k n hk=>by
   show (if k=i/\n=0 then _ else _)=_;rw[aMK (fun h=>hk h.1)]
  obtain⟨g1,k1,k2,k3,k4⟩:=a6n r (i+1) (g.tok i 0 (.slice none 0 0)) (pF [(i,oX.row e u [] 0)] H) e1.heap (fun j h1 h2 n=>by rw[hc1 j n (by omega)];exact hf j (by omega) (by simp only[aMO];omega) n);refine⟨g1,e1.trans k1,k2.trans rfl,fun j hj=> ?_,fun k hk=> ?_⟩
  ·cases j with
   |zero=>
    rw[aNN,k4 _ (by omega)];show (if i=i/\0=0 then _ else _)=_;simp
   |succ j=>
    have:=k3 j (by simpa using hj);rwa [show i+1+j=i+(j+1) by omega] at this
  ·rw[k4 k (by omega)];funext n;exact hc1 k n (by omega)
omit hT hH in
theorem a6o: ∀(R:List (Nat×Nat×Ty)) (i j:Nat),j∈pB (HI R i)↔i<=j/\j<i+R.length
 |[],i,j=>by simp only[HI,pB,aOo,aNw,false_iff];omega
 |(o,e,c)::r,i,j=>by
  simp only[HI,CL,a6o r (i+1) j,pB,aMW,aMO];omega
omit hT hH in
theorem W7 {α:Type}: ∀l:List α,LZ l=l.length
 |[]=>rfl
 |_::l=>by simp only[LZ,W7 l,aMO]
omit hT hH in
theorem MP {α:Type}{x:α}: ∀{l m:List α},x∈pF l m↔x∈l\/x∈m
 |[],m=>by simp [pF]
 |y::l,m=>by simp only[pF,aM1,MP (l:=l),or_assoc]
omit hT hH in
theorem aEA {g:Gh}{w:World}: ∀{t:Ty}{x:t.den}{cs:List Value}{o:Nat},Rd g w t x cs->∀q∈D8 t x o,o<=q.1/\cs[q.1-o]? =some (.slice none 0 0):=by
 intro t
 induction t with
 |pair a b iha ihb=>
  intro x cs o r q hq;obtain⟨c1,c2,rfl,r1,r2⟩:=r;simp only[D8,MP] at hq;have hl:=rP r1;rcases hq with hq|hq
  ·obtain⟨h1,h2⟩:=iha r1 q hq;exact⟨h1,by rw[aM0 (aMX.1 h2).1];exact h2⟩
  ·obtain⟨h1,h2⟩:=ihb r2 q hq;refine⟨by omega,?_⟩;rw[aMV (by omega),hl,show q.1-o-a.cells=q.1- (o+a.cells) by omega];exact h2
 |rl e u=>
  intro x cs o r q hq;cases x with
  |none=>
   simp only[D8,UG,aMW] at hq;subst hq;refine⟨aM2 _,?_⟩;rw[show cs=[.slice none 0 0] from r];simp
  |some z=>simp [D8,UG] at hq
 |_=>intro x cs o r q hq;simp [D8] at hq
omit hT hH in
theorem aEB {g:Gh}{w:World}: ∀{t:Ty}{x:t.den}{cs:List Value}{o:Nat},Rd g w t x cs->∀q∈EF t x o,o<=q/\cs[q-o]? =some (.pointer none):=by
 intro t
 induction t with
 |pair a b iha ihb=>
  intro x cs o r q hq;obtain⟨c1,c2,rfl,r1,r2⟩:=r;simp only[EF,MP] at hq;have hl:=rP r1;rcases hq with hq|hq
  ·obtain⟨h1,h2⟩:=iha r1 q hq;exact⟨h1,by rw[aM0 (aMX.1 h2).1];exact h2⟩
  ·obtain⟨h1,h2⟩:=ihb r2 q hq;refine⟨by omega,?_⟩;rw[aMV (by omega),hl,show q-o-a.cells=q- (o+a.cells) by omega];exact h2
 |mref=>
  intro x cs o r q hq;cases x with
  |none=>
   simp only[EF,UH,aMW] at hq;subst hq;refine⟨aM2 _,?_⟩;rw[show cs=[.pointer none] from r];simp
  |some z=>simp [EF,UH] at hq
 |_=>intro x cs o r q hq;simp [EF] at hq
omit hT hH in
theorem a6p {g:Gh}{w:World}{t u:Ty}{x z:t.den}{y:u.den}{cs:List Value}{o:Nat}{v:Value}(h:rN u y t x o=some z) (hy:Rd g w u y [v]) (hR:Rd g w t x cs) (hv:cs[o]? =some v):Rd g w t z cs:=by
 obtain⟨c1,c2,c3,rfl,rfl,h2,h3⟩:=Q9 hy hR h;have hu:=rP hy;simp only[aNI] at hu;rw[<-hu] at h2;obtain⟨v',rfl⟩:=aN2.1 h2;have:(c1++[v']++c3)[c1.length]? =some v':=by simp
 rw[this] at hv;obtain rfl:=aML hv;exact h3
omit hT hH in
theorem a6q {g:Gh}{w:World}{t:Ty}{cs:List Value}: ∀{R:List (Nat×Nat×Ty)}{i:Nat}{x z:t.den},HH t i R (some x)=some z->Rd g w t x cs->(∀q∈R,cs[q.1]? =some (.slice none 0 0))->(∀j,j<R.length->g.cur (i+j) 0=some (.slice none 0 0))->Rd g w t z cs
 |[],i,x,z,h,hR,_,_=>by simp only[HH,aMJ] at h;exact h▸hR
 |(o,e,u)::r,i,x,z,h,hR,hc,hg=>by
  simp only[HH] at h;cases hs:rN (.rl e u) (some (i,0)) t x o with
  |none=>rw[hs] at h;cases r<;>simp [HH] at h
  |some x'=>
   rw[hs] at h;refine a6q h (a6p (v:= .slice none 0 0) hs ⟨_,by simpa using hg 0 (by simp),rfl,.inl ⟨rfl,rfl⟩⟩ hR (hc _ aNf)) (fun q hq=>hc q (aM4 _ hq)) (fun j hj=> ?_);have:=hg (j+1) (by simpa using hj);rwa [show i+(j+1)=i+1+j by omega] at this
omit hT hH in
theorem a6r {g:Gh}{w:World}{t:Ty}{cs:List Value}{i:Nat}{p:Pl}(hp:g.J i=some p) (hp2:p.2=0): ∀{M:List Nat}{x z:t.den},FR t i M (some x)=some z->Rd g w t x cs->(∀q∈M,cs[q]? =some (.pointer none)/\VF p.3 q)->Rd g w t z cs
 |[],x,z,h,hR,_=>by simp only[FR,aMJ] at h;exact h▸hR
 |q::r,x,z,h,hR,hc=>by
  simp only[FR] at h;cases hs:rN .mref (some (i,q)) t x q with
  |none=>rw[hs] at h;cases r<;>simp [FR] at h
  |some x'=>
   rw[hs] at h;exact a6r hp hp2 h (a6p (v:= .pointer none) hs ⟨p,hp,by rw[hp2,aNd];exact(hc _ aNf).2,.inl rfl⟩ hR (hc _ aNf).1) (fun q hq=>hc q (aM4 _ hq))
omit hT in
theorem a6s {t:Ty}{y:t.den}{ls:List (Nat×TypeId×Nat)}{base:Nat}{e:pC}{cs:List Value}{el:TypeId}(hr:P7 base el t y ls (D7 t ls)=some e) (hf:yQ g base e) (hR:Rd g w t y cs) (hn:ls≠[]->vV t cs):
  ∃g',qU g w H e g' (w.alloc (.cells cs.toArray el)) (.pointer (some ⟨w.heap.size,0,none⟩)):=by
 cases hl:D7 t ls with
 |false=>rw[hl] at hr;cases hr
 |true=>
  rw[hl] at hr;simp only[P7,W7] at hr;have cR:=fun q hq=>aEA (o:=0) hR q hq;have cM: ∀q∈P6 el t y,cs[q]? =some (.pointer none)/\VF (some (el,cs.length)) q:=by
   intro q hq;unfold P6 at hq;split at hq
   ·rename_i hb;have h0:=fun q hq=>aEB (o:=0) hR q hq;have hl:=rP hR;generalize EF t y 0=M at hq h0;rw[<-hl] at hq;unfold a5v at hq;split at hq
    ·rename_i h2;simp only[aMW] at hq;subst hq;exact⟨by simpa using(h0 0 (by simp)).2,rfl,el,hb,by rw[h2]⟩
    ·cases hq
   ·cases hq
  generalize D8 t y 0=R at hr cR;generalize P6 el t y=M at hr cM;cases hz1:HH t (base+1+ls.length) R (some y) with
  |none=>
   rw[hz1] at hr;have:FR t base M none=none:=by cases M<;>rfl
   rw[this] at hr;cases hr
  |some z1=>
   rw[hz1] at hr;cases hz2:FR t base M (some z1) with
   |none=>rw[hz2] at hr;cases hr
   |some z=>
    rw[hz2] at hr;simp only[a5w,W7] at hr;obtain rfl:=(aML hr);have hfr: ∀j,base+1<=j->j<base+1+ls.length+R.length->g.J j=none/\∀n,g.cur j n=none:=fun j h1 h2=>hf j (by
     simp only[pB,aM1];right;rw[CL];by_cases h3:j<base+1+ls.length
     ·exact .inr ((MO ls (base+1) j).2 ⟨h1,h3⟩)
     ·exact .inl ((a6o R (base+1+ls.length) j).2 ⟨by omega,h2⟩)) (by omega)
    have hf0:=hf base (by simp [pB]) (aM2 _);obtain⟨g1,k1,k2,k3,k4⟩:=W4 ls (base+1) g H hH (fun j h1 h2=>(hfr j h1 (by omega)).2);have hfr1: ∀j,base+1+ls.length<=j->j<base+1+ls.length+R.length->∀n,g1.cur j n=none:=by
     intro j h1 h2 n;have:=(k1.gho j (by simp only;rw[MO];omega)).2;rw[this];exact(hfr j (by omega) h2).2 n
    obtain⟨g2,m1,m2,m3,m4⟩:=a6n R (base+1+ls.length) g1 _ k1.heap hfr1;have hJ:(g2.var base w.heap.size (some (el,cs.length))).J base=some ⟨w.heap.size,0,some (el,cs.length)⟩:=by simp [Gh.var]
    have hle:Le g w (g2.var base w.heap.size (some (el,cs.length))) w:=by
     refine((k1.le.trans m1.le).trans ⟨fun _ _ h=>h,fun _ _ _=>rfl,fun i p h=> ?_,fun _ _ _ h=>h⟩);show (if i=base then _ else _)=_;rw[aMK (fun e1=>by rw[e1,m2,k2,hf0.1] at h;cases h)];exact h
    have hRz:Rd (g2.var base w.heap.size (some (el,cs.length))) w t z cs:=a6r hJ rfl hz2 (a6q hz1 (uX hle hR) (fun q hq=>by simpa using(cR q hq).2) (fun j hj=>m3 j hj)) cM;have htk:EK g2 t z cs (AZ ls (base+1)):=by
     intro o k hm;obtain⟨q,hq,rfl⟩:=W5 hm;obtain⟨u,h1,h2⟩:=a6a (hn (fun e=>by rw[e] at hq;cases hq)) hRz (W6 hl q hq);exact⟨u,[],_,h1,h2,m1.le.cur _ _ _ (k3 _ _ hm)⟩
    have e3:=qU.newVarJ (side:=[]) (rds:=[]) (base:=base) (toks:=AZ ls (base+1)) (e:=el) m1.heap hRz htk (by rw[m2,k2];exact hf0.1) (by rw[m4 base (by omega),k4 base (by omega)];exact funext hf0.2);have e4:=qU.trans (side:=[]) (rds:=[]) k1 m1;exact⟨_,qU.trans (side:=[]) (rds:=[]) e4 (e3.congrH (H':=pF (pF (HI R (base+1+ls.length)) (CC ls (base+1))) H) (by simp only[JQ]))⟩
theorem W8 {t:Ty}{y:t.den}{k:Option Nat}{v:Value}(h:pW g w (.val t y,k) v):rZ g w t y v/\BS g t y v k:=by
 refine⟨h.1,?_⟩;cases k with
 |none=>trivial
 |some k=>exact h.2
theorem aEC {t:TypeId}{x:Operand}(ho:o.op= .box t x) {sx:oZ}(hx:pW g w sx (a.eval x)) {base:Nat}{e:pC}(hr:UJ base t (qC T t) sx=some e) (hf:yQ g base e):pS P o a g w H e:=by
 generalize hst:qC T t=ot at hr;have hrun:(execOp a.eval o).run P w= .ok (.value (.pointer (some ⟨w.heap.size,0,none⟩))) (w.alloc (.cells (a.eval x).cells.toList.toArray t)):=by
  unfold execOp;rw[ho];simp only[Instr.box,Go.newVar,newRow,aMY,run_newObj,aMT,aM6,aOc];rfl
 have one: ∀{u:Ty}{y:u.den},rZ g w u y (a.eval x)->u.isRow=false->(a.eval x).cells.toList=[a.eval x]:=fun hv hrow=>by
  have h1:=zP (AA hrow hv) _ (aMW.2 rfl);cases h:a.eval x<;>first|rfl|(rw[h] at h1;simp [Value.oneCell'] at h1)
 unfold UJ at hr;split at hr
 ·rename_i ti u y k;split at hr
  ·obtain⟨hv,hk⟩:=W8 hT hH hx;have hR:=DC hv;unfold a5x at hr;split at hr
   ·rename_i a' b' y' k' _;have hn:vV (.pair a' b') (a.eval x).cells.toList:=hk;obtain⟨g',h⟩:=a6s (el:=t) hH hr hf hR (fun _=>hn);exact pS.value hrun h
   ·rename_i u' y' k';cases hr;have hfr:=hf base (by simp [pB]) (aM2 _);exact pS.value hrun (qU.newVar hH hR (aEz hT hH hk (one hv rfl)) hfr.1 (funext hfr.2))
   ·cases hr;have hfr:=hf base (by simp [pB]) (aM2 _);exact pS.value hrun (qU.newVar hH hR (fun q k hm=>by cases hm) hfr.1 (funext hfr.2))
  ·cases hr
 ·cases hr
theorem aED {t:TypeId}(ho:o.op= .alloc t) {base:Nat}{e:pC}(hr:UI base t (qC T t)=some e) (hf:yQ g base e):pS P o a g w H e:=by
 generalize hst:qC T t=ot at hr;have run: ∀ti,qC T t=some ti->(execOp a.eval o).run P w= .ok (.value (.pointer (some ⟨w.heap.size,0,none⟩))) (w.alloc (.cells (sJ ti.ty).toArray t)):=by
  intro ti hti;obtain⟨i,hi,hsz,hz⟩:=DD (s0 hT hti);have hc:(vJ ti.ty).cells=(sJ ti.ty).toArray:=by
   have:=DC (MH g w ti.ty);unfold vJ;cases h:ti.ty<;>simp [Ty.isRow,sJ,Value.cells]
  unfold execOp;rw[ho];simp only[Instr.alloc,zeroValue,typeInfo,Go.newVar,newRow,aMY,aNJ,hi,hz,hc,run_newObj,aMT,aM6];rfl
 unfold UI at hr;split at hr
 ·rename_i u el by' ar ls_;cases hr;have hf0:=hf base (by simp [pB]) (aM2 _);have hf1:=hf (base+1) (by simp [pB]) (by omega);have hty:=s0 hT hst;have e1:=qU.nilTok (side:=[]) (d:= .val (.list u) []) (rds:=[]) (base:=base+1) (e:=el) (c:=u.cells) (u:=u) hH rfl hf1.2;have hH1:=e1.heap;have htk:EK (g.tok (base+1) 0 (.slice none 0 0)) (.list u) [] [.slice none 0 0] [(0,base+1)]:=by
   intro q kk hm;simp only[aMW,aM9] at hm;obtain⟨rfl,rfl⟩:=hm;exact⟨u,[],.slice none 0 0,by unfold pO;simp [sY],rfl,by simp [Gh.tok]⟩
  have e2:=qU.newVar (side:=[]) (rds:=[]) (base:=base) (toks:=[(0,base+1)]) (e:=t) hH1 (CJ (g.tok (base+1) 0 (.slice none 0 0)) w (.list u)) htk hf0.1 (by
   funext n;show (if base=base+1/\n=0 then _ else _)=_;rw[aMK (by omega)];exact hf0.2 n)
  exact pS.value (run _ hst) (qU.trans (side:=[]) (rds:=[]) e1 e2)
 ·rename_i ti hno;obtain⟨g',h⟩:=a6s (el:=t) hH hr hf (CJ g w ti.ty) (fun _=>QE _);exact pS.value (run _ hst) h
 ·cases hr
omit hT hH in
theorem aEE {t:Ty}{y:t.den}{k:Option Nat}{v:Value}(h:BS g t y v k):BS g t y v (EB t k):=by
 cases t with
 |list u=>exact h
 |_=>trivial
omit hT hH in
theorem a6t {off:Nat}: ∀{l:List (Nat×Nat)}{o k:Nat},(o,k)∈JA off l->∃q,o=off+q/\(q,k)∈l
 |[],_,_,h=>by cases h
 |(q,k')::r,o,k,h=>by
  simp only[JA,aM1,aM9] at h;rcases h with⟨rfl,rfl⟩ |h
  ·exact⟨q,rfl,aNf⟩
  ·obtain⟨q',h1,h2⟩:=a6t h;exact⟨q',h1,aM4 _ h2⟩
omit hT hH in
theorem a6u {v t:Ty}{y:t.den}: ∀{u:Ty}{x z:u.den}{o q:Nat}{l:(Ty.list v).den},rN t y u x o=some z->pO (.list v) t y q=some l->q<t.cells->pO (.list v) u z (o+q)=some l:=by
 intro u
 induction u with
 |pair a b iha ihb=>
  intro x z o q l h g hq;by_cases hu:o=0/\t= .pair a b
  ·obtain⟨rfl,rfl⟩:=hu;unfold rN at h;rw[aOR rfl] at h;simp only[sY,aMJ] at h;subst h;simpa using g
  ·have keyh:(if o<a.cells then(rN t y a x.1 o).map (fun q=>(q,x.2)) else(rN t y b x.2 (o-a.cells)).map (fun q=>(x.1,q)))=some z:=by
    cases o with
    |zero=>
     unfold rN at h;rw[aOq (fun e=>hu ⟨rfl,e⟩)] at h;simpa using h
    |succ o=>simpa[rN] using h
   have keyg: ∀m,pO (.list v) (.pair a b) z m=(if m<a.cells then pO (.list v) a z.1 m else pO (.list v) b z.2 (m-a.cells)):=by
    intro m;cases m with
    |zero=>
     conv=>lhs;unfold pO
     rw[aOq (by intro e;cases e),Nat.zero_sub]
    |succ m=>simp [pO]
   rw[keyg];by_cases ho:o<a.cells
   ·rw[aMI ho] at keyh;obtain⟨z',hz',rfl⟩:=aMZ.1 keyh;have hfit:o+t.cells<=a.cells:=by
     have: ∀{u:Ty}{x z:u.den}{o:Nat},rN t y u x o=some z->o+t.cells<=u.cells:=by
      intro u
      induction u with
      |pair a b iha ihb=>
       intro x z o h;have key: ∀o,(if o<a.cells then(rN t y a x.1 o).map (fun q=>(q,x.2)) else(rN t y b x.2 (o-a.cells)).map (fun q=>(x.1,q)))=some z->o+t.cells<=a.cells+b.cells:=by
        intro o h;by_cases ho:o<a.cells
        ·rw[aMI ho] at h;obtain⟨z',hz',_⟩:=aMZ.1 h;have:=iha hz';omega
        ·rw[aMK ho] at h;obtain⟨z',hz',_⟩:=aMZ.1 h;have:=ihb hz';omega
       cases o with
       |zero=>
        unfold rN at h;split at h
        ·rename_i e;subst e;simp
        ·exact key 0 (by simpa using h)
       |succ o=>exact key (o+1) (by simpa[rN] using h)
      |_=>
       intro x z o h;cases o with
       |zero=>
        unfold rN at h;split at h
        ·rename_i e;subst e;simp
        ·simp at h
       |succ o=>simp [rN] at h
     exact this hz'
    rw[aMI (by omega)];exact iha hz' g hq
   ·rw[aMK ho] at keyh;obtain⟨z',hz',rfl⟩:=aMZ.1 keyh;rw[aMK (by omega),show o+q-a.cells=o-a.cells+q from by omega];exact ihb hz' g hq
 |_=>
  intro x z o q l h g hq;cases o with
  |zero=>
   unfold rN at h;split at h
   ·rename_i e;subst e;simp only[sY,aMJ] at h
    try subst h
    simpa using g
   ·simp at h
  |succ o=>simp [rN] at h
omit hT hH in
theorem a6v {v:Ty}: ∀{t:Ty}{x:t.den}{q:Nat}{l:(Ty.list v).den},pO (.list v) t x q=some l->q<t.cells:=by
 intro t
 induction t with
 |pair s t ihs iht=>
  intro x q l g;have key: ∀q,(if q<s.cells then pO (.list v) s x.1 q else pO (.list v) t x.2 (q-s.cells))=some l->q<s.cells+t.cells:=by
   intro q g;by_cases h:q<s.cells
   ·omega
   ·rw[aMK h] at g;have:=iht g;omega
  cases q with
  |zero=>
   unfold pO at g;rw[aOq (by intro e;cases e)] at g;exact key 0 (by simpa using g)
  |succ q=>exact key (q+1) (by simpa[pO] using g)
 |unit=>
  intro x q l g;cases q with
  |zero=>unfold pO at g;rw[aOq (by intro e;cases e)] at g;cases g
  |succ q=>simp [pO] at g
 |_=>
  intro x q l g;cases q with
  |zero=>simp [Ty.cells]
  |succ q=>simp [pO] at g
omit hT in
theorem qU.retok {i:Nat}{u:Ty}{z:u.den}{toks nt:List (Nat×Nat)}{p:Pl}(hb:p9 H i=some (.cells u z toks)) (hp:g.J i=some p)
  (hn: ∀cs,Rd g w u z cs->w.rangeAt p.1 p.2 cs->EK g u z cs nt):qU g w H ⟨[],(.any,none),[(i,.cells u z (pF nt toks))],[]⟩ g w undef:=by
 obtain⟨p',cs,hp',hR,hra,hth,hns,htk⟩:=hH.blk i _ hb;rw[hp] at hp';obtain rfl:=aML hp';have get: ∀j blk,j∈pB [(i,oX.cells u z (pF nt toks))]->p9 (pF [(i,oX.cells u z (pF nt toks))] H) j=some blk->j=i/\blk= .cells u z (pF nt toks):=by
  intro j blk hi hg;simp only[pB,aMW] at hi;subst hi;simp only[pF,p9,aOk,aMJ] at hg;exact⟨rfl,hg.symm⟩
 have perm: ∀j blk b o,j∈pB [(i,oX.cells u z (pF nt toks))]->p9 (pF [(i,oX.cells u z (pF nt toks))] H) j=some blk->qP g j blk b o->w.heap.size<=b\/rQ g H (pB [(i,oX.cells u z (pF nt toks))]) b o:=by
  intro j blk b o hi hg ho;obtain⟨rfl,rfl⟩:=get j blk hi hg;exact .inr ⟨j,_,hi,hb,ho⟩
 have le:Le g w g w:=⟨fun _ _ h=>h,fun _ _ _=>rfl,fun _ _ h=>h,fun _ _ _ h=>h⟩;have fr:Fr (rQ g H (pB [(i,oX.cells u z (pF nt toks))])) w w g.S g.S:=⟨rfl,rfl,rfl,aM2 _,fun _ _ _=>rfl,fun _ _ _ _=>⟨rfl,rfl⟩,fun _ _ h=> .inl h,fun _ _ h=> .inl h⟩;refine⟨le,⟨trivial,trivial⟩,hH.upd le fr perm (fun _ _=>⟨rfl,rfl⟩) (fun j blk hi hg=> ?_) (fun i j bi bj b o hi hj hij hgi hgj _ _=>hij ((get i bi hi hgi).1.trans (get j bj hj hgj).1.symm)) (fun b o h=>hH.sl b o h),fr,perm,fun _ _=>⟨rfl,rfl⟩,fun j u' y' us h=> ?_⟩
 ·obtain⟨rfl,rfl⟩:=get j blk hi hg;refine⟨p,cs,hp,hR,hra,hth,hns,fun q kk hm=> ?_⟩;rcases(MP.1 hm) with hm|hm
  ·exact hn cs hR hra q kk hm
  ·exact htk q kk hm
 ·simp only[pF,p9] at h;split at h
  ·rename_i e1;subst e1;simp only[aMJ,oX.cells.injEq] at h;obtain⟨rfl,_⟩:=h;exact .inl ⟨z,toks,hb⟩
  ·exact .inl ⟨y',us,h⟩
omit hT hH in
theorem aEF {g:Gh}{t a b:Ty}{y:t.den}{v:Value}{k:Option Nat}(h:k.isSome=true) (ht:t= .pair a b) (hk:BS g t y v k):vV t v.cells.toList:=by
 subst ht;cases k with
 |none=>cases h
 |some k=>exact hk
omit hT hH in
theorem aEG {base i off:Nat}{b:Option oX}{ls:List (Nat×TypeId×Nat)}{t:Ty}{y:t.den}{k:Option Nat}{e:pC}(h:PG base i off b ls t y k=some e):
  (∃(s:Ty) (x:s.den) (toks:List (Nat×Nat)) (z:s.den),b=some (.cells s x toks)/\rN t y s x off=some z/\k.isSome=true/\(∃a c,t= .pair a c)/\D7 t ls=true/\
   e=⟨[],(.any,none),(i,.cells s z (pF (JA off (AZ ls base)) (u7 toks off t.cells)))::pF (CC ls base) [(i,.cells s z (u7 toks off t.cells))],[i]⟩)\/PE t y k i off b=some e:=by
 unfold PG at h;split at h
 ·rename_i q r a c y' k';cases hok:D7 (.pair a c) (q::r) with
  |false=>rw[hok] at h;unfold PF at h;split at h<;>first|cases h|(rename_i h2;cases h2)
  |true=>
   rw[hok] at h;unfold PF at h;split at h
   ·rename_i s x toks _;cases hset:rN (.pair a c) y' s x off with
    |none=>rw[hset] at h;cases h
    |some z=>
     rw[hset] at h;exact .inl ⟨s,x,toks,z,rfl,hset,rfl,⟨a,c,rfl⟩,rfl,(aML h).symm⟩
   ·cases h
 ·exact .inr h
omit hT hH in
theorem a6w {i off k n el:Nat}{u v:Ty}{x:v.den}{y:Option pC}{e:pC}(h:orO i off k n el u v x y=some e):y=some e\/UV i (w8 el u (some (k,n)) v x off)=some e:=by
 cases y with
 |some r=>exact .inl h
 |none=>exact .inr h
theorem aEH {t:TypeId}{x y:Operand}(ho:o.op= .store t x y) {sx sy:oZ}(hx:pW g w sx (a.eval x)) (hy:pW g w sy (a.eval y)) {base:Nat}{e:pC}(hr:PI base H (qC T t) sx sy=some e) (hside: ∀p∈e.side,p) (hf:yQ g base e):pS P o a g w H e:=by
 generalize hst:qC T t=ot at hr;unfold PI at hr;split at hr
 ·rename_i ti i off k kk n k2;generalize hb:p9 H i=ob at hr;unfold UW at hr;split at hr
  ·rename_i u el _ _ _ v x' toks;rcases a6w hr with hr|hr
   case inr=>
    generalize hset:w8 el u (some (kk,n)) v x' off=oz at hr;cases oz with
    |none=>cases hr
    |some z'=>
     cases hr;have hty:=s0 hT hst;obtain⟨p,hp,hv⟩:=xT hx.1;obtain⟨h1,h2⟩:=hy.1;have hR:Rd g w (.rl el u) (some (kk,n)) [a.eval y]:=⟨_,h1,rfl,h2⟩;obtain⟨heff,hth⟩:=yP.openS (side:=[]) (rds:=[1000000000,i]) hH hb hp hset hR rfl rfl;have hce:(a.eval y).cells= #[a.eval y]:=by rcases h2 with⟨h2,_⟩ |⟨_,_,h2,_⟩<;>(rw[h2];rfl)
     refine pS.skipW (w':=w.setCells p.1 (p.2+off) [a.eval y]) ?_ heff;obtain⟨inf,hi,hsz,_⟩:=DD hty;have hcells:=run_storeCells_cells (P:=P) p.1 (p.2+off) [a.eval y] 0 w (fun j hj=>by simpa using(hth j hj).1) (fun j hj=>by simpa using(hth j hj).2) (fun v hv=>zP hR v hv);simp only[aNN] at hcells;have hs2:(a.eval y).cells.size=inf.size:=by rw[hsz,hce];rfl
     have hcl:(a.eval y).cells.toList=[a.eval y]:=by rw[hce]
     simp only[execOp,ho,hv,Instr.storeAt,Instr.sureAddr,storeVar,aMY,aM6,aMT,sizeOf,typeInfo,aNJ,hi,hs2,ne_eq,not_true_eq_false,aOS,hcl,hcells]
   generalize hset:rN (.rl el u) (some (kk,n)) v x' off=oz at hr;cases oz with
   |none=>cases hr
   |some z'=>
    cases hr;have hty:=s0 hT hst;obtain⟨p,hp,hv⟩:=xT hx.1;obtain⟨h1,h2⟩:=hy.1;have hR:Rd g w (.rl el u) (some (kk,n)) [a.eval y]:=⟨_,h1,rfl,h2⟩;obtain⟨heff,hth⟩:=qU.store (side:=[]) (rds:=[i]) (k:=none) (v:=a.eval y) hH hb hp hset hR trivial (fun _ _ _=>rfl) (fun _=>rfl);have hce:(a.eval y).cells= #[a.eval y]:=by rcases h2 with⟨h2,_⟩ |⟨_,_,h2,_⟩<;>(rw[h2];rfl)
    refine pS.skip (w':=w.setCells p.1 (p.2+off) [a.eval y]) ?_ heff;obtain⟨inf,hi,hsz,_⟩:=DD hty;have hcells:=run_storeCells_cells (P:=P) p.1 (p.2+off) [a.eval y] 0 w (fun j hj=>by simpa using(hth j hj).1) (fun j hj=>by simpa using(hth j hj).2) (fun v hv=>zP hR v hv);simp only[aNN] at hcells;have hs2:(a.eval y).cells.size=inf.size:=by rw[hsz,hce];rfl
    have hcl:(a.eval y).cells.toList=[a.eval y]:=by rw[hce]
    simp only[execOp,ho,hv,Instr.storeAt,Instr.sureAddr,storeVar,aMY,aM6,aMT,sizeOf,typeInfo,aNJ,hi,hs2,ne_eq,not_true_eq_false,aOS,hcl,hcells]
  ·cases hr
 ·rename_i ti k n c i o' _ u z kk;split at hr
  ·rename_i hu;subst hu;generalize hk:p9 H k=ob at hr;unfold PH at hr;split at hr
   ·rename_i e' t' l m;split at hr
    ·rename_i hc;generalize hset:rN ti.ty z t' (qG t' l i) o'=oz at hr;cases oz with
     |none=>cases hr
     |some z'=>
      cases hr;have hnm:=hside _ (aMW.2 rfl);obtain⟨b,cap,xs,c1,c2,c3,hv,hcur,hown,hF,hl,hi,h0,e1,e2,e3,e4⟩:=a6e hT hH hx.1 hk hnm hc;subst hnm;have hty:=s0 hT hst;obtain⟨hvy,hky⟩:=W8 hT hH hy;have hR:=DC hvy;have hRl:=rP hR;obtain⟨d1,d2,d3,f1,f2,f3,f4⟩:=Q9 hR e4 hset;obtain⟨_,_,_,_,hv0,hown0,_,hnone,hseal⟩: ∃(_:True) (_:True) (v0:Value) (xs0:List Value),g.cur k n=some v0/\w.ownsRow 0 e' t'.cells v0 n xs0/\sC (Rd g w t') t'.cells l xs0/\(∀m,n<m->g.cur k m=none)/\∀b,v0.ownBlock=some b->∀o,¬g.S b o:=by
       obtain⟨_,v0,xs0,q1,q2,q3,q4,q5⟩:=hH.blk k _ hk;exact⟨trivial,trivial,v0,xs0,q1,q2,q3,q4,q5⟩
      rw[hcur] at hv0;obtain rfl:=aML hv0;rcases hown.2 with⟨h5,_⟩ |⟨q,cap',cur,h5,_,hg,hnc,hcm,hcs,htake⟩
      ·cases h5
      simp only[aOM,aMJ,Addr.mk.injEq,and_true,true_and] at h5;obtain⟨rfl,rfl⟩:=h5;have hxl:=hown.1;have hnew:=rP f4;simp only[aMN] at hnew;have hc2l:c2.length=t'.cells:=by rw[e3,hc]
      have hd:d1.length+d2.length+d3.length=t'.cells:=by rw[<-hc2l,f1];simp only[aMN]
      have hx1:c1.length+c2.length+c3.length=n*t'.cells:=by rw[<-hxl,e1];simp only[aMN]
      have hall:cur.toList=(c1++(d1++d2++d3)++c3)++cur.toList.drop (n*t'.cells):=by
       conv=>lhs;rw[<-aNO (n*t'.cells) cur.toList,htake,e1,f1]
      obtain⟨D,hD⟩: ∃D,D=cur.toList.drop (n*t'.cells):=⟨_,rfl⟩;rw[<-hD] at hall;have hall2:cur.toList=(c1++d1)++(d2++(d3++c3++D)):=by rw[hall];simp only[aMU]
      have hpos:i.toNat*c+o'=(c1++d1).length:=by rw[aMN,e2,f2]
      have hD2:(a.eval y).cells.toList.length=d2.length:=by rw[hRl,f3]
      have hfit:i.toNat*c+o'+0+(a.eval y).cells.toList.length<=cur.size:=by
       have:cur.size=cur.toList.length:=by simp
       rw[this,hall2,aNN,hpos,hD2];simp only[aMN];omega
      have hst2:=run_storeCells_at P b (i.toNat*c+o') e' (a.eval y).cells.toList 0 cur w hg hfit (fun v hv=>zP hR v hv);have hrow:cur.toList.take (i.toNat*c+o'+0)++(a.eval y).cells.toList++cur.toList.drop (i.toNat*c+o'+0+(a.eval y).cells.toList.length)=(c1++(d1++(a.eval y).cells.toList++d3)++c3)++D:=by
       rw[aNN,hpos,hD2,hall2,aOg,List.drop_append,List.drop_of_length_le (by omega),List.nil_append,aNv,aOT];simp only[aMU]
      rw[hrow] at hst2;obtain⟨inf,hinf,hsz,_⟩:=DD hty;have hs2:(a.eval y).cells.size=inf.size:=by rw[hsz,<-hRl,aNi]
      have hnewlen:((c1++(d1++(a.eval y).cells.toList++d3)++c3)++D).length=cur.size:=by
       have:cur.size=cur.toList.length:=by simp
       rw[this,hall];simp only[aMN];omega
      have hxs':(c1++(d1++(a.eval y).cells.toList++d3)++c3).length=n*t'.cells:=by
       rw[<-hx1];simp only[aMN];rw[f1];simp only[aMN];omega
      have hown':(w.setRow b ((c1++(d1++(a.eval y).cells.toList++d3)++c3)++D).toArray).ownsRow 0 e' t'.cells (.slice (some ⟨b,0,none⟩) n cap) n (c1++(d1++(a.eval y).cells.toList++d3)++c3):=
       ⟨hxs',.inr ⟨b,cap,_,rfl,aNt _,aOD w b cur _ e' _ hg,hnc,hcm,by rw[aNA,hnewlen,hcs],by rw[<-hxs'];exact aOg⟩⟩
      have hF':sC (Rd g w t') t'.cells (l.set i.toNat z') (c1++(d1++(a.eval y).cells.toList++d3)++c3):=by
       obtain⟨q1,q2,q3,r1,r2,r3,r4⟩:=VX hF f4 (rP f4) hi;have s1:q1=c1/\q2=c2/\q3=c3:=by
        have h6:q1++(q2++q3)=c1++(c2++c3):=by rw[<-aMU,<-r1,e1,aMU]
        obtain⟨h7,h8⟩:=aOJ h6 (by rw[r2,e2,hc]);obtain⟨h9,h10⟩:=aOJ h8 (by rw[r3,e3,hc]);exact⟨h7,h9,h10⟩
       obtain⟨rfl,rfl,rfl⟩:=s1;exact r4
      have hownk: ∀o,rQ g H [k] b o:=fun o=>⟨k,_,by simp,hk,_,hcur,rfl⟩;refine pS.skip (w':=w.setRow b ((c1++(d1++(a.eval y).cells.toList++d3)++c3)++D).toArray) ?_ (qU.row (v:= .slice (some ⟨b,0,none⟩) n cap) hH (by rw[List.length_set];exact hl) hown' hF' hnone (fun u hu=>by rw[hcur] at hu;exact(aML hu).symm)
       (.inr ⟨some b,⟨rfl,rfl,rfl,by simp,fun q _ hq=>aOf w b q _ (fun e=>hq (by rw[e]))⟩,fun b' hb' o=>by cases hb';exact hownk o⟩) (fun b' o hS=> ?_) hseal (fun b' hb'=>by cases hb';exact .inr hownk) ⟨trivial,trivial⟩)
      ·simp only[execOp,ho,hv,Instr.storeAt,Instr.sureAddr,storeVar,aMY,aM6,aMT,sizeOf,typeInfo,aNJ,hinf,hs2,ne_eq,not_true_eq_false,aOS,hst2]
      ·have hne:b'≠b:=fun e=>hseal b rfl o (e▸hS);exact aM7 (a:=⟨b',o,none⟩) (aOf w b b' _ hne)
    ·cases hr
   ·cases hr
  ·cases hr
 ·rename_i ti i off k u z kk;split at hr
  ·rename_i hu;subst hu;generalize hb:p9 H i=ob at hr;have hty:=s0 hT hst;obtain⟨p,hp,hv⟩:=xT hx.1;obtain⟨hvy,hky⟩:=W8 hT hH hy;have hR:=DC hvy;have hone:ti.ty.isRow=false->(a.eval y).cells.toList=[a.eval y]:=fun hrow=>by
    have h1:=zP (AA hrow hvy) _ (aMW.2 rfl);cases h:a.eval y<;>first|rfl|(rw[h] at h1;simp [Value.oneCell'] at h1)
   have hrun:w.there p.1 (p.2+off) (a.eval y).cells.toList.length->(execOp a.eval o).run P w= .ok .skip (w.setCells p.1 (p.2+off) (a.eval y).cells.toList):=by
    intro hth;obtain⟨inf,hi,hsz,_⟩:=DD hty;have hlen:=rP hR;have hcells:=run_storeCells_cells (P:=P) p.1 (p.2+off) (a.eval y).cells.toList 0 w (fun j hj=>by simpa using(hth j hj).1) (fun j hj=>by simpa using(hth j hj).2) (fun v hv=>zP hR v hv);simp only[aNN] at hcells;have hs2:(a.eval y).cells.size=inf.size:=by rw[hsz,<-hlen,aNi]
    simp only[execOp,ho,hv,Instr.storeAt,Instr.sureAddr,storeVar,aMY,aM6,aMT,sizeOf,typeInfo,aNJ,hi,hs2,ne_eq,not_true_eq_false,aOS,hcells]
   rcases aEG hr with⟨s,x',toks,z',hb',hset,hsome,⟨pa,pb,hpair⟩,hok,rfl⟩ |hr
   ·rw[hb'] at hb;have hn:vV ti.ty (a.eval y).cells.toList:=aEF hsome hpair hky;obtain⟨heff,hth⟩:=qU.store (side:=[]) (rds:=[i]) (k:=none) (v:=undef) hH hb hp hset hR trivial (fun _ _ _=>rfl) (fun h=>by rw[hpair] at h;cases h);have hfr: ∀j,base<=j->j<base+ti.ls.length->∀n,g.cur j n=none:=fun j h1 h2=>(hf j (by
     simp only[pB,aM1];right;rw[CL];exact .inl ((MO _ base j).2 ⟨h1,h2⟩)) h1).2
    obtain⟨g1,k1,k2,k3,k4⟩:=W4 ti.ls base g _ heff.heap hfr;have e2:=qU.trans (side:=[]) (rds:=[]) heff k1;have hib:i<base:=by
     rcases aNV i base with h|h
     ·exact h
     ·have:=(hf i (by simp [pB]) h).1;rw[hp] at this;cases this
    have hiN:i∉pB (CC ti.ls base):=fun h=>by
     have:=(MO _ base i).1 h;omega
    have hb3:p9 (pF (pF (CC ti.ls base) [(i,oX.cells s z' (u7 toks off ti.ty.cells))]) H) i=some (.cells s z' (u7 toks off ti.ty.cells)):=by
     rw[JQ,B6 hiN];simp [pF,p9]
    have hyl:=rP hR;have e3:=qU.retok (p:=p) (nt:=JA off (AZ ti.ls base)) e2.heap hb3 (by rw[k2];exact hp) (fun cs hRz hra o k hm=>by
     obtain⟨q,rfl,hq⟩:=a6t hm;obtain⟨en,he,rfl⟩:=W5 hq;obtain⟨u,h1,h2⟩:=a6a hn hR (W6 hok en he);have hql:en.1<(a.eval y).cells.toList.length:=(aMX.1 h2).1;have h3:=a6u hset h1 (by omega);refine⟨u,[],.slice none 0 0,h3,?_,k3 _ _ hq⟩;have hlen:=rP hRz;have hlt:=a6v h3;have hc:cs[off+en.1]? =some cs[off+en.1]:=aMR (by omega);have hr1:=hra _ _ hc;have hr2:=aOd p.1 (a.eval y).cells.toList (p.2+off) w (fun j hj=>(hth j hj).1) en.1 hql;rw[aNn] at hr2;rw[hr2] at hr1;rw[hc,<-hr1,<-h2,aMR hql])
    exact pS.skip (w':=w.setCells p.1 (p.2+off) (a.eval y).cells.toList) (hrun hth) (qU.trans (side:=[]) (rds:=[i]) e2 e3)
   ·unfold PE at hr;split at hr
    ·rename_i s q toks _;generalize hset:rN ti.ty z s q off=oz at hr;cases oz with
     |none=>cases hr
     |some z'=>
      cases hr;obtain⟨heff,hth⟩:=qU.store (side:=[]) (rds:=[i]) hH hb hp hset hR (aEE hky) (fun a b e=>by rw[e];rfl) hone;exact pS.skip (w':=w.setCells p.1 (p.2+off) (a.eval y).cells.toList) (hrun hth) heff
    ·cases hr
  ·cases hr
 ·cases hr
theorem a6x {t:Ty}{n:Nat}{ev:Operand->Value}{ρ:Operand->oZ}: ∀(ps:List (Nat×Operand)) (l z:List t.den) (cs:List Value),sC (Rd g w t) t.cells l cs->l.length=n->(∀q∈ps,pW g w (ρ q.2) (ev q.2))->A4 t n (some l) (t7 ρ ps)=some z->
  ∃cs',Instr.fill (fun i=>some (i*t.cells,t.cells)) cs.toArray (ps.map fun q=>(q.1,ev q.2))=some cs'.toArray/\sC (Rd g w t) t.cells z cs'/\z.length=n
 |[],l,z,cs,r,hl,_,h=>by
  simp only[t7,A4,aMJ] at h;subst h;exact⟨cs,rfl,r,hl⟩
 |(i,q)::ps,l,z,cs,r,hl,hq,h=>by
  have h0:=hq (i,q) (by simp);generalize hs:ρ q=s at h0;simp only[t7,hs] at h;obtain⟨d,k⟩:=s;cases d with
  |val u y=>
   simp only[A4,a5k] at h;by_cases hc:u=t/\i<n
   ·rw[aOR hc] at h;obtain⟨rfl,hi⟩:=hc;simp only[sY] at h;have hR:=DC h0.1;obtain⟨c1,c2,c3,rfl,h2,h3,h4⟩:=VX (i:=i) r hR (rP hR) (by omega);obtain⟨cs',k1,k2,k3⟩:=a6x ps (l.set i y) z _ h4 (by simpa using hl) (fun q hq'=>hq q (by simp [hq'])) h;refine⟨cs',?_,k2,k3⟩;simp only[aNT];rw[a59 rfl (by have:=rP hR;simpa using this) (c1:=c1) (c2:=c2) (c3:=c3) (by simp) h2 h3];exact k1
   ·rw[aOq hc] at h;cases ps with
    |nil=>simp [t7,A4] at h
    |cons p ps=>simp [t7,A4] at h
  |_=>simp [A4] at h
theorem W9 {t:TypeId}{n:Nat}{ps:Array (Nat×Operand)}(ho:o.op= .buildSlice t n ps) {ρ:Operand->oZ}(hρ: ∀q∈ps.toList,pW g w (ρ q.2) (a.eval q.2)) {u:Ty}{el:TypeId}{by':Nat}{ar:Bool}{ls:List (Nat×TypeId×Nat)}(hst:qC T t=some ⟨.list u,el,by',ar,ls⟩) {l:List u.den}
  (hb:A4 u n (some (BN u n)) (t7 ρ ps.toList)=some l) (hn:n<=16777216/\n*u.cells<=16777216):
  ∃cs':List Value,sC (Rd g w u) u.cells l cs'/\l.length=n/\(execOp a.eval o).run P w= .ok (.value (.slice (some ⟨w.heap.size,0,none⟩) n n)) (w.alloc (.cells cs'.toArray el)):=by
    obtain⟨h2,h3,_⟩:=(s0 hT hst).2;obtain⟨ei,hei,hz⟩:=aMZ.1 h3;simp only[aM9] at hz;obtain⟨cs',k1,k2,k3⟩:=a6x hT hH ps.toList (BN u n) l _ (a6j n) (a6k u n) hρ hb;refine⟨cs',k2,k3,?_⟩;have hzc:(vJ u).cells=(sJ u).toArray:=by
     unfold vJ;cases h:u<;>simp [Ty.isRow,sJ,Value.cells]
    have hmap:(ps.map fun(q:Nat×Operand)=>(q.1,a.eval q.2)).toList=ps.toList.map fun q=>(q.1,a.eval q.2):=by simp
    have hzl:(sJ u).length=u.cells:=rP (CJ g w u);have hrow: ∀z:Array Value,(n*u.cells≠0->z=(sJ u).toArray)->(Array.range (n*u.cells)).map (fun i=>z[i%z.size]!)=(List.flatten (List.replicate n (sJ u))).toArray:=by
     intro z hz0;by_cases h0:n*u.cells=0
     ·rw[h0];have:List.flatten (List.replicate n (sJ u))=[]:=aNb (by simp [hzl,h0]);rw[this];simp
     ·rw[hz0 h0];have hpos:0<u.cells:=Nat.pos_of_ne_zero (fun h=>h0 (by rw[h];simp));apply aNS.1;apply List.ext_getElem?;intro j;have key: ∀(m j:Nat),j<m*u.cells->(List.flatten (List.replicate m (sJ u)))[j]? =(sJ u)[j%u.cells]? :=by
       intro m
       induction m with
       |zero=>intro j h;simp at h
       |succ m ih=>
        intro j h;rw[List.replicate_succ,aN3];by_cases hj:j<u.cells
        ·rw[aM0 (by omega),Nat.mod_eq_of_lt hj]
        ·rw[aMV (by omega),hzl,ih (j-u.cells) (by rw[aNU] at h;omega)];congr 1
         conv=>rhs;rw[<-Nat.sub_add_cancel (Nat.le_of_not_lt hj),Nat.add_mod_right]
      by_cases hj:j<n*u.cells
      ·have hm:j%u.cells<(sJ u).length:=by rw[hzl];exact Nat.mod_lt _ hpos
       simp only[Array.toList_map,Array.toList_range,List.getElem?_map,List.getElem?_range hj,Option.map_some,aNA,hzl];rw[key n j hj,aMR hm];simp [getElem!_pos,hm]
      ·rw[aNP (by simp;omega),aNP (by simp [hzl];omega)]
    have hlim: ¬(n*u.cells>2^24):=by have:=hn.2;omega
    by_cases h0:n*u.cells=0
    ·simp only[execOp,ho,Instr.buildSlice,aMY,aM3 h2,aMT,sizeOf,typeInfo,aNJ,hei,hz.1,aM6,aMK hlim,aMI h0];rw[hrow #[] (fun h=>absurd h0 h),hmap,k1];simp only[newRow,aMY,run_newObj,aMT,aM6];rfl
    ·simp only[execOp,ho,Instr.buildSlice,aMY,aM3 h2,aMT,sizeOf,typeInfo,aNJ,hei,hz.1,aM6,aMK hlim,aMK h0,zeroValue,hz.2.2,hzc];rw[hrow (sJ u).toArray (fun _=>rfl),hmap,k1];simp only[newRow,aMY,run_newObj,aMT,aM6];rfl
theorem aEI {t:TypeId}{n:Nat}{ps:Array (Nat×Operand)}(ho:o.op= .buildSlice t n ps) {ρ:Operand->oZ}(hρ: ∀q∈ps.toList,pW g w (ρ q.2) (a.eval q.2)) {base:Nat}{e:pC}(hr:UM base n (t7 ρ ps.toList) (qC T t)=some e) (hf:yQ g base e):pS P o a g w H e:=by
 generalize hst:qC T t=ot at hr;unfold UM at hr;split at hr
 ·rename_i u el by' ls_;split at hr
  ·rename_i hn0;generalize hb:A4 u n (some (BN u n)) (t7 ρ ps.toList)=ol at hr;cases ol with
   |none=>cases hr
   |some l=>
    simp only[a5y] at hr;split at hr
    ·rename_i hn;cases hr;obtain⟨cs',k2,k3,hrun⟩:=W9 hT hH ho hρ hst hb hn.2;have hfr:=(hf base (by simp [pB]) (aM2 _)).2;have hlen:=FZ k2;have hown:(w.alloc (.cells cs'.toArray el)).ownsRow 0 el u.cells (.slice (some ⟨w.heap.size,0,none⟩) n n) n cs':=⟨by rw[hlen,k3],.inr ⟨w.heap.size,n,cs'.toArray,rfl,aNt _,aOP w _,aM2 _,by unfold maxLen;omega,by simp [hlen,k3],by simp [<-k3,<-hlen]⟩⟩;refine pS.value hrun (qU.row (v:= .slice (some ⟨w.heap.size,0,none⟩) n n) (xs:=cs') hH k3 hown k2 (fun m _=>hfr m) (fun u hu=>by rw[hfr] at hu;cases hu) (.inl (World.grownBy_alloc w _ _)) (fun b o h=>aM7 (a:=⟨b,o,none⟩) (aNg _ _ _ (hH.sl b o h))) (fun b hb o hs=> ?_) (fun b hb=> ?_) ⟨⟨by simp [Gh.tok],.inr ⟨_,_,rfl,aM2 _⟩⟩,trivial⟩)
     ·cases hb;exact aOx _ (hH.sl _ _ hs)
     ·cases hb;exact .inl (aM2 _)
    ·cases hr
  ·rename_i hn0;generalize hb:A4 u n (some (BN u n)) (t7 ρ ps.toList)=ol at hr;cases ol with
   |none=>cases hr
   |some l=>
    simp only[P8] at hr;split at hr
    ·rename_i hn;cases hr;obtain⟨cs',k2,k3,hrun⟩:=W9 hT hH ho hρ hst hb hn;have hfr:=hf base (by simp [pB]) (aM2 _);exact pS.value (v:= .slice (some ⟨w.heap.size,0,none⟩) n n) (w':=w.alloc (.cells cs'.toArray el)) hrun (qU.lit hH rfl k3 k2 (by unfold maxLen;omega) hfr.2)
    ·cases hr
 ·rename_i u el by' ls_;generalize hb:A4 u n (some (BN u n)) (t7 ρ ps.toList)=ol at hr;cases ol with
  |none=>cases hr
  |some l=>
   simp only[P8] at hr;split at hr
   ·rename_i hn;cases hr;obtain⟨cs',k2,k3,hrun⟩:=W9 hT hH ho hρ hst hb hn;have hfr:=hf base (by simp [pB]) (aM2 _);exact pS.value (v:= .slice (some ⟨w.heap.size,0,none⟩) n n) (w':=w.alloc (.cells cs'.toArray el)) hrun (qU.lit hH rfl k3 k2 (by unfold maxLen;omega) hfr.2)
   ·cases hr
 ·cases hr
theorem aEJ {args:Array Operand}{tys:Array TypeId}(ho:o.op= .call ⟨.builtin .append,args,tys⟩) {ρ:Operand->oZ}(hρ: ∀x∈args.toList,pW g w (ρ x) (a.eval x)) {e:pC}
  {t:TypeId}(htt:tys= #[t,t]) (hr:PQ H (qC T t) (uA ρ args.toList)=some e) (hs: ∀p∈e.side,p):pS P o a g w H e:=by
 subst htt;generalize hst:qC T t=ot at hr;generalize hss:uA ρ args.toList=ss at hr;unfold PQ at hr;split at hr
 ·rename_i u el by' ar ls_ k n _ b1 r _;split at hr
  ·rename_i hbu;subst hbu;generalize hk:p9 H k=ob at hr;unfold PP at hr;split at hr
   ·rename_i e' t' l m;split at hr
    ·rename_i hbt;subst hbt;split at hr
     ·rename_i hec;obtain⟨rfl,hpos,hb1⟩:=hec;simp only[sY] at hr;cases hr;have hnm:=hs _ (by simp:(n=m)∈_);subst hnm;have hby:=hs _ (by simp:((n+List.length r)*by'<=140737488355328)∈_);obtain⟨v,vr,hv,hs1,hs2⟩:=QH hT hH hρ hss;obtain⟨h2,h3,_⟩:=(s0 hT hst).2;obtain⟨ei,hei,hz⟩:=aMZ.1 h3;simp only[aM9] at hz;obtain⟨cs,hx⟩:=EL (a:=a) hT hH ho;obtain⟨hl,v0,xs,hv0,hown,hF0,hnone,hseal⟩:=hH.blk k _ hk;obtain⟨hcur,hshape⟩:=hs1.1;rw[hv0] at hcur;obtain rfl:=aML hcur;obtain⟨adr,capr,hvr,hler,hlr⟩:=CK hs2.1;have hlen2:(l++r).length=n+List.length r:=by rw[aMN,hl]
      rw[hlen2];have hownk: ∀q,v0.ownBlock=some q->∀o,rQ g H [k] q o:=fun q hq o=>⟨k,_,by simp,hk,v0,hv0,hq⟩;by_cases hm:List.length r=0
      ·obtain rfl:r=[]:=aNb hm;refine pS.value (v:=v0) (w':=w) ?_ (qU.row (v:=v0) (xs:=xs) hH hlen2 hown (by rw[List.append_nil];exact hF0) hnone (fun u hu=>by
        have h5:g.cur k n=some u:=hu;rw[hv0] at h5;exact(aML h5).symm) (.inl ⟨rfl,rfl,rfl,aM2 _,fun _ _ _=>rfl⟩) (fun _ _ _=>rfl) hseal (fun q hq=> .inr (hownk q hq)) ⟨⟨by simp [Gh.tok],hshape⟩,trivial⟩)
       obtain⟨adl,capl,hvl,hlel⟩: ∃adl capl,v0= .slice adl n capl/\n<=capl:=by
        rcases hshape with⟨h,rfl⟩ |⟨b,cap,h,h'⟩
        ·exact⟨_,_,h,aM2 _⟩
        ·exact⟨_,_,h,h'⟩
       rw[hx,hv,hvr,hvl];have ha0:(#[Value.slice adl n capl,Value.slice adr (List.length ([]:List b1.den)) capr]:Array Value)[0]? =some (.slice adl n capl):=rfl;have ha1:(#[Value.slice adl n capl,Value.slice adr (List.length ([]:List b1.den)) capr]:Array Value)[1]? =some (.slice adr 0 capr):=rfl;have ht0:(#[t,t]:Array TypeId)[0]? =some t:=rfl;have ht1:(#[t,t]:Array TypeId)[1]? =some t:=rfl;simp only[builtin,Builtin.append_,ht0,ht1,ha0,ha1,aMY,aM3 h2,aMT,aM6,sizeOf,typeInfo,aNJ,hei];cases adr<;>cases adl<;>simp [Builtin.lenOf,Builtin.firstCells,loadCells,loadCellsFrom,storeCells,hlel]
      ·obtain⟨b,off,rfl,hL⟩: ∃b o,adr=some ⟨b,o,none⟩/\wH (Rd g w b1) w g.S b1.cells b o r:=by
        rcases hlr with rfl|h
        ·exact absurd rfl hm
        ·exact h
       obtain⟨news,hF,hra,_⟩:=JP hL;obtain⟨q,cap,w',hrun,hown',hq,hg,hcap,hcell⟩:=VY (P:=P) w t o.type e' ei (vJ b1) b1.cells by' h2 hei hz.2.2 hz.1 hz.2.1 (by
        have:=rP (DC (MH g w b1));simpa using this) v0 n xs hown ⟨b,off,none⟩ (List.length r) capr news (FZ hF) (fun j u hu=>by rw[aNW];exact hra j u hu) (MM (fun _ _ h=>zP h) hF) (by omega)
        (by
         have:=Nat.mul_le_mul_left (n+List.length r) hb1;unfold maxLen;omega) hby
       refine pS.value (v:= .slice (some ⟨q,0,none⟩) (n+List.length r) cap) (w':=w') ?_ (qU.row (v:= .slice (some ⟨q,0,none⟩) (n+List.length r) cap) (xs:=xs++news) hH hlen2 hown' (ME hF0 hF) (fun m hm'=>hnone m (by omega)) (fun u hu=>by
        rw[hnone _ (by omega)] at hu;cases hu) (.inr ⟨v0.ownBlock,hg,fun b hb o=>hownk b hb o⟩) (fun b o hS=>hcell b o (hH.sl b o hS) (fun hb=>absurd hS (hseal b hb o))) (fun b hb o hS=> ?_) (fun b hb=> ?_) ⟨⟨by simp [Gh.tok],.inr ⟨q,cap,rfl,hcap⟩⟩,trivial⟩)
       ·rw[hx,hv,hvr];simp only[builtin,aMY,hrun,aMT,aM6]
       ·cases hb;rcases hq with h|h
        ·rw[h] at hS;exact aOx _ (hH.sl _ _ hS)
        ·exact hseal _ h o hS
       ·cases hb;rcases hq with h|h
        ·exact .inl (aOh h.symm)
        ·exact .inr (hownk _ h)
     ·cases hr
    ·cases hr
   ·cases hr
  ·cases hr
 ·rename_i u el by' ar ls_ a1 l k b1 r k2;split at hr
  ·rename_i hab;obtain⟨rfl,rfl⟩:=hab;simp only[sY] at hr;generalize hk:p9 H k=ob at hr;unfold PO at hr;split at hr
   ·rename_i e' c n;split at hr
    ·rename_i hec;obtain⟨rfl,hcc,hpos,hb1⟩:=hec;cases hr;rw[aMN];have hln:=hs _ (by simp:(List.length l=n)∈_);have hby:=hs _ (by simp:((List.length l+List.length r)*by'<=140737488355328)∈_);obtain⟨v,vr,hv,hs1,hs2⟩:=QH hT hH hρ hss;obtain⟨h2,h3,_⟩:=(s0 hT hst).2;obtain⟨ei,hei,hz⟩:=aMZ.1 h3;simp only[aM9] at hz;obtain⟨cs,hx⟩:=EL (a:=a) hT hH ho;obtain⟨v0,xs,hv0,hown,hnone,hseal⟩:=hH.blk k _ hk;have hcur:g.cur k (List.length l)=some v:=hs1.2;rw[hln,hv0] at hcur;obtain rfl:=aML hcur;obtain⟨adr,capr,hvr,hler,hlr⟩:=CK hs2.1;obtain⟨adl,capl,hvl,hlel,hll⟩:=CK hs1.1;by_cases hm:List.length r=0
     ·
      obtain rfl:r=[]:=aNb hm;have hlr:List.length l+List.length ([]:List b1.den)=n:=by rw[hln];rfl
      have hget: ∀i,p9 (pF [(k,oX.grow e' c (List.length l+List.length ([]:List b1.den)))] H) i=p9 H i:=by
       intro i;simp only[pF,p9];by_cases hi:k=i
       ·subst hi;rw[aMI rfl,hlr];exact hk.symm
       ·rw[aMK hi]
      have hkeep:qU g w H ⟨[List.length l=n,(List.length l+List.length ([]:List b1.den))*by'<=140737488355328],(.val (.list b1) (l++[]),some k),[(k,.grow e' c (List.length l+List.length ([]:List b1.den)))],[k]⟩ g w v0:=by
       refine⟨.refl _ _,?_,⟨fun i b h=>hH.blk i b ((hget i).symm.trans h),fun i j bi bj b o' hij h1 h2=>hH.dis i j bi bj b o' hij ((hget i).symm.trans h1) ((hget j).symm.trans h2),hH.sl,hH.tab.1,fun i blk b o' h ho'=>hH.tab.2 i blk b o' ((hget i).symm.trans h) ho'⟩,.refl _ _ _,fun i blk b o' hi hg ho'=> .inr ⟨i,blk,hi,(hget i).symm.trans hg,ho'⟩,fun _ _=>⟨rfl,rfl⟩,fun i u' y us h=> .inl ⟨y,us,(hget i).symm.trans h⟩⟩;rw[List.append_nil];exact hs1
      refine pS.value (v:=v0) (w':=w) ?_ hkeep;rw[hx,hv,hvr,hvl];have ha0:(#[Value.slice adl (List.length l) capl,Value.slice adr (List.length ([]:List b1.den)) capr]:Array Value)[0]? =some (.slice adl (List.length l) capl):=rfl;have ha1:(#[Value.slice adl (List.length l) capl,Value.slice adr (List.length ([]:List b1.den)) capr]:Array Value)[1]? =some (.slice adr 0 capr):=rfl;have ht0:(#[t,t]:Array TypeId)[0]? =some t:=rfl;have ht1:(#[t,t]:Array TypeId)[1]? =some t:=rfl;simp only[builtin,Builtin.append_,ht0,ht1,ha0,ha1,aMY,aM3 h2,aMT,aM6,sizeOf,typeInfo,aNJ,hei];cases adr<;>cases adl<;>simp [Builtin.lenOf,Builtin.firstCells,loadCells,loadCellsFrom,storeCells,hlel]
     ·obtain⟨b,off,rfl,hL⟩: ∃b o,adr=some ⟨b,o,none⟩/\wH (Rd g w b1) w g.S b1.cells b o r:=by
       rcases hlr with rfl|h
       ·exact absurd rfl hm
       ·exact h
      obtain⟨news,hF,hra,_⟩:=JP hL;have hxs:sC (Rd g w b1) b1.cells l xs:=by
       by_cases h0:List.length l=0
       ·obtain rfl:l=[]:=aNb h0;have:xs=[]:=aNb (by rw[hown.1,<-hln];simp);exact this
       ·rcases hll with rfl|⟨b0,off0,rfl,hL0⟩
        ·exact absurd rfl h0
        ·obtain⟨ls,hF0,hra0,_⟩:=JP hL0;rcases hown.2 with⟨e1,e2⟩ |⟨q,cap,cur,e1,e2⟩
         ·exact absurd (hln.trans e2) h0
         ·rw[hvl] at e1;simp only[aOM,aMJ,Addr.mk.injEq] at e1;obtain⟨⟨rfl,rfl,_⟩,_,rfl⟩:=e1;have hvn:v0= .slice (some ⟨b0,0,none⟩) n capl:=by rw[hvl,hln]
          have hrx:=VZ (hvn▸hown);have:ls=xs:=by
           have hl1:=FZ hF0;have hl2:=hown.1;apply List.ext_getElem?;intro j;by_cases hj:j<ls.length
           ·have h1:=hra0 j ls[j] (aMR hj);have hj':j<xs.length:=by rw[hl2,hcc,<-hln,<-hl1];exact hj
            have h2:=hrx j xs[j] (aMR hj');rw[h1] at h2;rw[aMR hj,aMR hj',aML h2]
           ·rw[aNP (by omega),aNP (by rw[hl2,hcc,<-hln,<-hl1];omega)]
          rw[<-this];exact hF0
      obtain⟨q,cap,w',hrun,hown',hq,hg,hcap,hcell⟩:=VY (P:=P) w t o.type e' ei (vJ b1) c by' h2 hei hz.2.2 (by rw[hz.1,hcc]) hz.2.1 (by
       have:=rP (DC (MH g w b1));rw[hcc];simpa using this) v0 n xs hown ⟨b,off,none⟩ (List.length r) capr news (by rw[FZ hF,hcc]) (fun j u hu=>by rw[aNW];exact hra j u hu) (MM (fun _ _ h=>zP h) hF) (by omega)
       (by
        have:=Nat.mul_le_mul_left (List.length l+List.length r) hb1;unfold maxLen;omega) (by rw[<-hln];exact hby)
      refine pS.value (v:= .slice (some ⟨q,0,none⟩) (n+List.length r) cap) (w':=w') ?_ (by
       have:=qU.append (side:=[List.length l=n,(List.length l+List.length r)*by'<=140737488355328]) (rds:=[k]) hH hk hcc hln hv0 hown hnone hseal (hcc▸hxs) (hcc▸hF) (by omega) hown' hq hg hcap hcell;rw[hln];rw[hln] at this;exact this)
      rw[hx,hv,hvr];simp only[builtin,aMY,hrun,aMT,aM6]
    ·cases hr
   ·cases hr
  ·cases hr
 ·cases hr
end
def yR:Ty->TypeDesc
 | .int k=> .int k
 | .str=> .string
 |_=> .bool
theorem a6y {P:Program}{t:TypeId}{ti:TI}(h:sF P t ti) (hk:D9 ti.ty=true):P.underlying t=some (yR ti.ty):=by
 have h2:=h.2;unfold wJ at h2;obtain⟨ty,el,by',ar,ls⟩:=ti;cases ty<;>simp only[D9,aN9] at hk<;>exact h2
theorem aEK {g:Gh}{w:World}{k:Ty}(hk:D9 k=true) {a x:k.den}{v u:Value}(ha:rZ g w k a v) (hx:rZ g w k x u):Instr.sameNow (yR k) v u=some (EH k a x)/\(EH k a x=true->u=v):=by
 cases k with
 |int k=>
  rw[vC ha,vC hx];simp only[yR,Instr.sameNow,aOk,EH];refine⟨?_,fun h=> ?_⟩
  ·congr 1
  ·rw[aNq h]
 |str=>
  rw[xR ha,xR hx];simp only[yR,Instr.sameNow,EH];refine⟨?_,fun h=> ?_⟩
  ·congr 1;rw[aNM,MapKept.bytes_beq,aMQ];constructor
   ·intro h;have:=aNs (fun z:ByteArray=>z.data.toList) h;simpa using this
   ·intro h;rw[h]
  ·rw[aNq h]
 |bool=>
  rw[vL ha,vL hx];simp only[yR,Instr.sameNow,EH];refine⟨trivial,fun h=> ?_⟩;rw[beq_iff_eq.1 h]
 |_=>simp [D9] at hk
theorem WA {g:Gh}{w:World}{k v:Ty}(hk:D9 k=true) {a:k.den}{key:Value}(ha:rZ g w k a key): ∀{l:List (k.den×v.den)}{es:List MapEntry}(i:Nat),CF g w k v l es->
  (w9 k v l a=false->Instr.findNow (yR k) key es i=some none/\rM k v l a=v.zero/\∀b val born,rZ g w v b val->CF g w k v (sI k v a b l) (es++[⟨key,val,born⟩]))/\
  (w9 k v l a=true->∃j e,es[j]? =some e/\Instr.findNow (yR k) key es i=some (some (i+j,e.val))/\rZ g w v (rM k v l a) e.val/\e.key=key/\∀b val,rZ g w v b val->CF g w k v (sI k v a b l) (es.modify j fun e=>{e with key:=key,val:=val}))
 |[],es,i,h=>by
  rw[show es=[] from h];exact⟨fun _=>⟨rfl,rfl,fun b val born hb=>⟨_,[],rfl,ha,hb,rfl⟩⟩,fun h=>by simp [w9] at h⟩
 |(x,y)::l,_,i,⟨e,es',rfl,h1,h2,h3⟩=>by
  obtain⟨s1,s2⟩:=aEK hk ha h1;cases hq:EH k a x with
  |true=>
   rw[hq] at s1;refine⟨fun h=>by simp [w9,hq] at h,fun _=>⟨0,e,rfl,?_,?_,s2 hq,fun b val hb=> ?_⟩⟩
   ·simp only[Instr.findNow,s1,aNN]
   ·simp only[rM,hq,aOk];exact h2
   ·simp only[sI,hq,aOk];exact⟨_,es',rfl,ha,hb,h3⟩
  |false=>
   rw[hq] at s1;obtain⟨f1,f2⟩:=WA (v:=v) hk ha (i+1) h3;refine⟨fun h=> ?_,fun h=> ?_⟩
   ·simp only[w9,hq] at h;obtain⟨g1,g2,g3⟩:=f1 (by simpa using h);refine⟨by simp only[Instr.findNow,s1];exact g1,by simp only[rM,hq];simpa using g2,fun b val born hb=> ?_⟩;simp only[sI,hq];exact⟨e,_,rfl,h1,h2,g3 b val born hb⟩
   ·simp only[w9,hq] at h;obtain⟨j,e',g1,g2,g3,g4,g5⟩:=f2 (by simpa using h);refine⟨j+1,e',by simpa using g1,by simp only[Instr.findNow,s1];rw[g2];congr 3;omega,by simp only[rM,hq];simpa using g3,g4,fun b val hb=> ?_⟩;simp only[sI,hq];exact⟨e,_,rfl,h1,h2,g5 b val hb⟩
def QJ (ok:Bool) (z:Value):Option (Nat×Value)->Value
 |some (_,v)=>if ok then .tuple #[v,.bool true] else v
 |none=>if ok then .tuple #[z,.bool false] else z
section
variable {P:Program}{o:Oper}{a:Act}{g:Gh}{w:World}{H:qO}{T:rO}(hT:vK P T) (hH:rH g w H)
include hT hH
theorem qU.newMap {side:List Prop}{rds:List Nat}{base:Nat}{k v:Ty}(hf:g.J base=none) (hc:g.cur base=fun _=>none):
  qU g w H ⟨side,(.val .mp (some base),none),[(base,.map k v [])],rds⟩ (g.var base w.heap.size none) (w.alloc (.map #[] 0)) (.map (some w.heap.size)):=by
 have hJ:(g.var base w.heap.size none).J base=some ⟨w.heap.size,0,none⟩:=by simp [Gh.var]
 have le:Le g w (g.var base w.heap.size none) (w.alloc (.map #[] 0)):=⟨fun _ _ h=>h,fun b o h=>aM7 (a:=⟨b,o,none⟩) (aNg _ _ _ (hH.sl b o h)),fun i p h=>by
  show (if i=base then _ else _)=_;rw[aMK (fun e1=>by rw[e1,hf] at h;cases h)];exact h,fun _ _ _ h=>h⟩
 have fr:Fr (rQ g H (pB [(base,oX.map k v [])])) w (w.alloc (.map #[] 0)) g.S (g.var base w.heap.size none).S:=
  ⟨rfl,rfl,rfl,by simp,fun b hb _=>aNg _ _ _ hb,fun b o hb _=>⟨aM7 (a:=⟨b,o,none⟩) (aNg _ _ _ hb),aNF (a:=⟨b,o,none⟩) (aNg _ _ _ hb)⟩,fun b o h=> .inl h,fun b s h=> .inl ((CI (aNg _ _ _ (CH h))).trans h)⟩
 have gho: ∀i,i∉pB [(base,oX.map k v [])]->(g.var base w.heap.size none).J i=g.J i/\(g.var base w.heap.size none).cur i=g.cur i:=fun i hi=>⟨by
  show (if i=base then _ else _)=_;rw[aMK (fun e1=>hi (by simp [pB,e1]))],rfl⟩
 have get: ∀i blk,i∈pB [(base,oX.map k v [])]->p9 (pF [(base,oX.map k v [])] H) i=some blk->i=base/\blk= .map k v []:=by
  intro i blk hi hg;simp only[pB,aMW] at hi;subst hi;simp only[pF,p9,aOk,aMJ] at hg;exact⟨rfl,hg.symm⟩
 have perm: ∀i blk b o,i∈pB [(base,oX.map k v [])]->p9 (pF [(base,oX.map k v [])] H) i=some blk->qP (g.var base w.heap.size none) i blk b o->w.heap.size<=b\/rQ g H (pB [(base,oX.map k v [])]) b o:=by
  intro i blk b o hi hg ho;obtain⟨rfl,rfl⟩:=get i blk hi hg;obtain⟨p,hp,h1⟩:=ho;rw[hJ] at hp;obtain rfl:=aML hp;exact .inl (aOh h1.symm)
 refine⟨le,⟨.inr ⟨rfl,_,hJ,rfl⟩,trivial⟩,hH.upd le fr perm gho (fun i blk hi hg=> ?_) (fun i j bi bj b o hi hj hij hgi hgj _ _=>hij ((get i bi hi hgi).1.trans (get j bj hj hgj).1.symm)) (fun b o h=>aNm (hH.sl b o h) (by simp)),fr,perm,gho,fun i u' y us h=>by
  simp only[pF,p9] at h;split at h
  ·cases h
  ·exact .inl ⟨y,us,h⟩⟩
 obtain⟨rfl,rfl⟩:=get i blk hi hg;refine⟨⟨w.heap.size,0,none⟩,#[],0,hJ,rfl,?_,rfl,fun o hs=>aOx _ (hH.sl _ _ hs)⟩;show (w.heap.push (.map #[] 0))[w.heap.size]? =_;rw[aOI]
theorem aEL {t:TypeId}{r:Option Operand}(ho:o.op= .makeMap t r) {base:Nat}{e:pC}(hr:V7 T base (qC T t) r=some e) (hf:yQ g base e):pS P o a g w H e:=by
 generalize hst:qC T t=ot at hr;unfold V7 at hr;split at hr
 ·rename_i el fl ar ls_;unfold a5I at hr;split at hr
  ·split at hr
   ·cases hr;have hfr:=hf base (by simp [pB]) (aM2 _);refine pS.value (v:= .map (some w.heap.size)) (w':=w.alloc (.map #[] 0)) ?_ (qU.newMap hT hH hfr.1 (funext hfr.2));unfold execOp;rw[ho];simp only[Instr.makeMap,aMY,run_newObj,aMT,aM6,Option.map_none];rfl
   ·cases hr
  ·cases hr
 ·cases hr
theorem aEM {xt el fl:TypeId}{ok:Bool}{r:Nat}{es:Array MapEntry}{cl:Nat}{key z res:Value}{kd:TypeDesc}(hm:P.underlying xt=some (.map el fl)) (hb:w.heap[r]? =some (.map es cl)) (hkd:P.underlying el=some kd) (hsim: ∀ty,kd≠.interface ty) (hna: ∀n t,kd≠.array n t) (hns: ∀f,kd≠.struct f)
  {q:Option (Nat×Value)}(hq:Instr.findNow kd key es.toList 0=some q) (hz:(zeroValue fl).run P w= .ok z w)
  (hres:res=QJ ok z q):(Instr.lookup xt (.map (some r)) key ok).run P w= .ok res w:=by
 have hck: ∀em,(Instr.checkKey em 10000 el key).run P w= .ok () w:=by
  intro em;unfold Instr.checkKey;simp only[aMY,aM3 hkd,aMT];cases kd<;>first|rfl|(exact absurd rfl (hsim _)) |(exact absurd rfl (hna _ _)) |(exact absurd rfl (hns _))
 have hfk:(Instr.findKey el key es.toList).run P w= .ok q w:=by
  unfold Instr.findKey;simp only[aMY,aM3 hkd,aMT,hq,aM6]
 subst hres;unfold Instr.lookup;simp only[aMY,aM3 hm,aMT,MapKept.run_getObj_map hb,aM6,hck,hfk];cases q with
 |none=>cases ok<;>simp [hz,aMY,aMT,QJ]
 |some q=>cases ok<;>simp [aMY,aMT,QJ]
theorem qU.updMap {side:List Prop}{rds:List Nat}{i:Nat}{k v:Ty}{l l':List (k.den×v.den)}{p:Pl}{es es':Array MapEntry}{cl cl':Nat}(hi:p9 H i=some (.map k v l)) (hp:g.J i=some p) (hp0:p.2=0) (hb:w.heap[p.1]? =some (.map es cl)) (hS: ∀o,¬g.S p.1 o) (hM:CF g w k v l' es'.toList):
  qU g w H ⟨side,(.any,none),[(i,.map k v l')],rds⟩ g {w with heap:=w.heap.setIfInBounds p.1 (.map es' cl')} undef:=by
 have hlt:p.1<w.heap.size:=(aNc.1 hb).1;have hoth: ∀b,b≠p.1->(w.heap.setIfInBounds p.1 (.map es' cl'))[b]? =w.heap[b]? :=fun b hne=>by rw[aN4 (Ne.symm hne)]
 have hown: ∀o,rQ g H (pB [(i,oX.map k v l')]) p.1 o:=fun o=>⟨i,_,by simp [pB],hi,p,hp,rfl⟩;have le:Le g w g {w with heap:=w.heap.setIfInBounds p.1 (.map es' cl')}:=⟨fun _ _ h=>h,fun b o h=>aM7 (a:=⟨b,o,none⟩) (hoth b (fun e=>hS o (e▸h))),fun _ _ h=>h,fun _ _ _ h=>h⟩
 have fr:Fr (rQ g H (pB [(i,oX.map k v l')])) w {w with heap:=w.heap.setIfInBounds p.1 (.map es' cl')} g.S g.S:=
  ⟨rfl,rfl,rfl,by simp,fun b _ hn=>hoth b (fun e=>hn 0 (e▸hown 0)),fun b o _ hn=>⟨aM7 (a:=⟨b,o,none⟩) (hoth b (fun e=>hn (e▸hown o))),aNF (a:=⟨b,o,none⟩) (hoth b (fun e=>hn (e▸hown o)))⟩,fun b o h=> .inl h,fun b s h=>(by
   by_cases e:b=p.1
   ·exact .inr fun o=>e▸hown o
   ·exact .inl ((CI (hoth b e)).trans h))⟩
 have get: ∀j blk,j∈pB [(i,oX.map k v l')]->p9 (pF [(i,oX.map k v l')] H) j=some blk->j=i/\blk= .map k v l':=by
  intro j blk hj hg;simp only[pB,aMW] at hj;subst hj;simp only[pF,p9,aOk,aMJ] at hg;exact⟨rfl,hg.symm⟩
 have perm: ∀j blk b o,j∈pB [(i,oX.map k v l')]->p9 (pF [(i,oX.map k v l')] H) j=some blk->qP g j blk b o->w.heap.size<=b\/rQ g H (pB [(i,oX.map k v l')]) b o:=by
  intro j blk b o hj hg ho;obtain⟨rfl,rfl⟩:=get j blk hj hg;obtain⟨q,hq,rfl⟩:=ho;rw[hp] at hq;obtain rfl:=aML hq;exact .inr (hown o)
 refine⟨le,⟨trivial,trivial⟩,hH.upd le fr perm (fun _ _=>⟨rfl,rfl⟩) (fun j blk hj hg=> ?_) (fun j j' bi bj b o hj hj' hij hgi hgj _ _=>hij ((get j bi hj hgi).1.trans (get j' bj hj' hgj).1.symm)) (fun b o h=>by simpa using hH.sl b o h),fr,perm,fun _ _=>⟨rfl,rfl⟩,fun j u' y us h=>by
  simp only[pF,p9] at h;split at h
  ·cases h
  ·exact .inl ⟨y,us,h⟩⟩
 obtain⟨rfl,rfl⟩:=get j blk hj hg;exact⟨p,es',cl',hp,hp0,by simp [aOu,hlt],VI le hM,hS⟩
theorem a6z {i:Nat}{k:Option Nat}{v:Value}(h:pW g w (.val .mp (some i),k) v): ∃p,g.J i=some p/\v= .map (some p.1):=by
 obtain⟨p,h1,e⟩:=AA rfl h.1;simp only[aNB,and_true] at e;exact⟨p,h1,e⟩
theorem a6A {k:Ty}:(∀ty,yR k≠.interface ty)/\(∀n t,yR k≠.array n t)/\(∀f,yR k≠.struct f):=by
 cases k<;>exact⟨fun _ h=>by simp [yR] at h,fun _ _ h=>by simp [yR] at h,fun _ h=>by simp [yR] at h⟩
theorem aEN {t:TypeId}{x y:Operand}{ok:Bool}(ho:o.op= .lookup t x y ok) {sx sy:oZ}(hx:pW g w sx (a.eval x)) (hy:pW g w sy (a.eval y)) {e:pC}(hr:PX T H ok (qC T t) sx sy=some e):pS P o a g w H e:=by
 generalize hst:qC T t=ot at hr;unfold PX at hr;split at hr
 ·rename_i el fl ar ls_ i kk;generalize hk:qC T el=ok1 at hr;generalize hv:qC T fl=ok2 at hr;unfold V8 at hr;split at hr
  ·rename_i kt vt k a' _;split at hr
   ·rename_i hkt;unfold PW at hr;split at hr
    ·rename_i k' v' l hb;split at hr
     ·rename_i hkv;obtain⟨rfl,rfl⟩:=hkv;split at hr
      ·rename_i hkey;obtain⟨p,es,cl,hp,hp0,hh,hM,hS⟩:=hH.blk i _ hb;obtain⟨p',hp',hxv⟩:=a6z hT hH hx;rw[hp] at hp';obtain rfl:=aML hp';have hm:=(s0 hT hst).2;simp only[wJ] at hm;have hkd:=a6y (s0 hT hk) (hkt▸hkey);obtain⟨iv,hi1,hi2,hi3⟩:=DD (s0 hT hv);have hz:(zeroValue fl).run P w= .ok (vJ vt.ty) w:=by
        simp only[zeroValue,typeInfo,aMY,aNJ,hi1,hi3,aMT,aM6]
       obtain⟨f1,f2⟩:=WA (v:=vt.ty) hkey hy.1 0 hM;rw[<-hkt] at hkd;obtain⟨p1,p2,p3⟩:=a6A hT hH (k:=k);have go: ∀{q res},Instr.findNow (yR k) (a.eval y) es.toList 0=some q->res=QJ ok (vJ vt.ty) q->(execOp a.eval o).run P w= .ok (.value res) w:=by
        intro q res h1 h2;unfold execOp;rw[ho];simp only[hxv,aMY,aEM hT hH hm hh hkd p1 p2 p3 h1 hz h2,aMT,aM6]
       cases hmh:w9 k vt.ty l a' with
       |false=>
        obtain⟨g1,g2,_⟩:=f1 hmh;cases ok with
        |true=>
         cases hr;refine pS.pure hH (v:= .tuple #[vJ vt.ty,.bool false]) (go g1 rfl) ?_;simp only[J2,hmh,g2];exact⟨[_,_],rfl,_,[_],rfl,MH g w _,trivial,_,[],rfl,uZ g w false,trivial,rfl⟩
        |false=>
         cases hr;refine pS.pure hH (v:=vJ vt.ty) (go g1 rfl) ?_;simp only[J2,g2];exact MH g w _
       |true=>
        obtain⟨j,e',g1,g2,g3,g4,g5⟩:=f2 hmh;cases ok with
        |true=>
         cases hr;refine pS.pure hH (v:= .tuple #[e'.val,.bool true]) (go g2 rfl) ?_;simp only[J2,hmh];exact⟨[_,_],rfl,_,[_],rfl,g3,trivial,_,[],rfl,uZ g w true,trivial,rfl⟩
        |false=>
         cases hr;refine pS.pure hH (v:=e'.val) (go g2 rfl) ?_;simp only[J2];exact g3
      ·cases hr
     ·cases hr
    ·cases hr
   ·cases hr
  ·cases hr
 ·cases hr
theorem aEO {g:Gh}{w:World}{k:Ty}(hk:D9 k=true) {x:k.den}{v:Value}(h:rZ g w k x v) (n:Nat):Instr.sameBits n v v=true:=by
 cases k with
 |int k=>rw[vC h];cases n<;>simp [Instr.sameBits]
 |str=>rw[xR h];cases n<;>simp [Instr.sameBits,MapKept.bytes_beq]
 |bool=>rw[vL h];cases n<;>simp [Instr.sameBits]
 |_=>simp [D9] at hk
omit hT hH in
theorem a6B {T:rO}{ti:Option TI}{s:oZ}{v:Value}(h:pW g w s v):pW g w (PZ T ti s) v:=by
 unfold PZ;split
 ·unfold a5J;split
  ·rename_i f x _;refine⟨.inr ⟨rfl,?_⟩,trivial⟩;rcases h.1 with⟨h1,_⟩ |⟨h1,vs,h2,h3⟩
   ·cases h1
   ·rw[show vs=[] from h2] at h3;exact h3
  ·exact h
 ·exact h
theorem a6C {t:TypeId}{m x y:Operand}(ho:o.op= .mapUpdate t m x y\/o.op= .insert t m x y) {sm sx sy:oZ}(hm:pW g w sm (a.eval m)) (hx:pW g w sx (a.eval x)) (hy:pW g w sy (a.eval y)) {e:pC}(hr:JD T H (qC T t) sm sx sy=some e):pS P o a g w H e:=by
 generalize hst:qC T t=ot at hr;unfold JD at hr;split at hr
 ·rename_i el fl ar ls_ i kk;generalize hk:qC T el=ok1 at hr;unfold PY at hr;split at hr
  ·rename_i kt k a' _ u b _;split at hr
   ·rename_i hkt;unfold JC at hr;split at hr
    ·rename_i k' v' l hb;split at hr
     ·rename_i hkv;obtain⟨rfl,rfl⟩:=hkv;split at hr
      ·rename_i hkey;cases hr;obtain⟨p,es,cl,hp,hp0,hh,hM,hS⟩:=hH.blk i _ hb;obtain⟨p',hp',hxv⟩:=a6z hT hH hm;rw[hp] at hp';obtain rfl:=aML hp';have hmt:=(s0 hT hst).2;simp only[wJ] at hmt;have hkd:=a6y (s0 hT hk) (hkt▸hkey);rw[<-hkt] at hkd;obtain⟨p1,p2,p3⟩:=a6A hT hH (k:=k);have hck:(Instr.checkKey false 10000 el (a.eval x)).run P w= .ok () w:=by
        unfold Instr.checkKey;simp only[aMY,aM3 hkd,aMT];generalize yR k=kd at p1 p2 p3;cases kd<;>first|rfl|(exact absurd rfl (p1 _)) |(exact absurd rfl (p2 _ _)) |(exact absurd rfl (p3 _))
       have hfk: ∀{q},Instr.findNow (yR k) (a.eval x) es.toList 0=some q->(Instr.findKey el (a.eval x) es.toList).run P w= .ok q w:=by
        intro q hq;unfold Instr.findKey;simp only[aMY,aM3 hkd,aMT,hq,aM6]
       obtain⟨f1,f2⟩:=WA (v:=u) hkey hx.1 0 hM;cases hmh:w9 k u l a' with
       |false=>
        obtain⟨g1,_,g3⟩:=f1 hmh;refine pS.skip (w':={w with heap:=w.heap.setIfInBounds p.1 (.map (es.push ⟨a.eval x,a.eval y,cl⟩) (cl+1))}) ?_ (qU.updMap hT hH hb hp hp0 hh hS ?_)
        ·unfold execOp;rcases ho with ho|ho<;>rw[ho]<;>
          simp only[Instr.mapUpdate,hxv,aMY,aM3 hmt,aMT,MapKept.run_getObj_map hh,hck,hfk g1,MapKept.run_setObj_map _ hh,aM6]
        ·simp only[J2,Array.toList_push];exact g3 b _ _ hy.1
       |true=>
        obtain⟨j,e',g1,g2,g3,g4,g5⟩:=f2 hmh;rw[aNd] at g2;refine pS.skip (w':={w with heap:=w.heap.setIfInBounds p.1 (.map (es.modify j fun e=>{e with key:=a.eval x,val:=a.eval y}) cl)}) ?_ (qU.updMap hT hH hb hp hp0 hh hS ?_)
        ·have hj:es[j]? =some e':=by rw[<-aNQ];exact g1
         unfold execOp;rcases ho with ho|ho<;>rw[ho]<;>
          simp only[Instr.mapUpdate,hxv,aMY,aM3 hmt,aMT,MapKept.run_getObj_map hh,hck,hfk g2,hj,Option.map_some,aN1,g4,Instr.keyThatStays,aEO hT hH hkey hx.1,aOk,MapKept.run_setObj_map _ hh,aM6]
        ·simp only[J2,Array.toList_modify];exact g5 b _ hy.1
      ·cases hr
     ·cases hr
    ·cases hr
   ·cases hr
  ·cases hr
 ·cases hr
end
end Go.Proofs.YtbbpilohihldiaaGreatDoor.Vc
