/- Packed by a program of mine (wip/tools/pack.py): the same texts with short names and few blanks. -/
import Derived.Below
import Derived.Calls
import Derived.Deep.MidRow
import Derived.Deep.Upon
import Derived.Laws.AppendOwn
import Derived.Laws.BitsLemmas
import Derived.Laws.OwnMore
import Derived.Shelf.Strconv.Itoa3
import Derived.Shelf.Strings.Fields
import Derived.Shelf.Unicode.DecodeSlow
import Derived.Still
import Derived.WalkKit
set_option linter.defProp false
set_option linter.unusedVariables false
set_option linter.unusedSimpArgs false
set_option linter.unusedSectionVars false
set_option maxRecDepth 100000
set_option maxHeartbeats 4000000
namespace Go.Proofs
abbrev pC:=List UInt8
abbrev pD:=List pC
def aRd:=@_root_.Option.some.injEq
def aRe:=@_root_.Option.bind_some
def aRf:=@_root_.if_pos
def aRg:=@_root_.List.length_append
def aRh:=@_root_.Option.isSome_iff_exists
def aRi:=@_root_.Option.some.inj
def aRj:=@_root_.List.length_cons
def aRk:=@_root_.if_neg
def aRl:=@_root_.List.append_assoc
def aRm:=@_root_.List.mem_cons_self
def aRn:=@_root_.Option.map_eq_some_iff
def aRo:=@_root_.List.mem_cons_of_mem
def aRp:=@_root_.Go.Result.andThen_ok
def aRq:=@_root_.List.length_nil
def aRr:=@_root_.List.getElem?_eq_getElem
def aRs:=@_root_.List.getElem?_eq_some_iff
def aRt:=@_root_.List.getElem?_append_right
def aRu:=@_root_.List.mem_cons
def aRv:=@_root_.List.mem_singleton
def aRw:=@_root_.Bool.and_eq_true
def aRx:=@_root_.congrArg
def aRy:=@_root_.Go.Sem.run_bind
def aRz:=@_root_.List.getElem?_append_left
def aRA:=@_root_.List.length_drop
def aRB:=@_root_.Go.run_underlying
def aRC:=@_root_.Array.getElem?_eq_some_iff
def aRD:=@_root_.List.length_take
def aRE:=@_root_.Nat.le_refl
def aRF:=@_root_.decide_eq_true
def aRG:=@_root_.decide_eq_true_eq
def aRH:=@_root_.Go.World.cell?_of_block
def aRI:=@_root_.Go.Sem.run_pure
def aRJ:=@_root_.Array.getD_eq_getD_getElem?
def aRK:=@_root_.Bool.not_eq_true'
def aRL:=@_root_.List.length_pos_iff
def aRM:=@_root_.List.getElem?_cons_zero
def aRN:=@_root_.Go.RowKit.Below.heap_alloc
def aRO:=@_root_.List.getD_eq_getElem?_getD
def aRP:=@_root_.Nat.zero_add
def aRQ:=@_root_.Array.length_toList
def aRR:=@_root_.Prod.mk.injEq
def aRS:=@_root_.List.eq_nil_of_length_eq_zero
def aRT:=@_root_.Nat.lt_of_lt_of_le
def aRU:=@_root_.of_decide_eq_true
def aRV:=@_root_.List.any_eq_false
def aRW:=@_root_.List.drop_eq_getElem_cons
def aRX:=@_root_.List.all_eq_true
def aRY:=@_root_.List.getElem?_cons_succ
def aRZ:=@_root_.Nat.add_assoc
def aR0:=@_root_.Int.toNat_natCast
def aR1:=@_root_.decide_eq_false_iff_not
def aR2:=@_root_.List.mem_append
def aR3:=@_root_.Bool.or_eq_false_iff
def aR4:=@_root_.List.reverse_cons
def aR5:=@_root_.Nat.add_sub_cancel_left
def aR6:=@_root_.List.length_map
def aR7:=@_root_.List.size_toArray
def aR8:=@_root_.List.flatten_cons
def aR9:=@_root_.List.flatMap_cons
def aSa:=@_root_.List.take_append_of_le_length
def aSb:=@_root_.Go.World.frozen?_of_block
def aSc:=@_root_.List.cons.injEq
def aSd:=@_root_.List.take_left
def aSe:=@_root_.Nat.le_trans
def aSf:=@_root_.List.findIdx?_eq_some_iff_getElem
def aSg:=@_root_.Nat.add_zero
def aSh:=@_root_.List.drop_length
def aSi:=@_root_.List.map_cons
def aSj:=@_root_.List.getElem?_take_of_lt
def aSk:=@_root_.Go.run_program
def aSl:=@_root_.Bool.or_eq_true
def aSm:=@_root_.Nat.succ_mul
def aSn:=@_root_.Array.getElem?_toList
def aSo:=@_root_.Nat.zero_le
def aSp:=@_root_.Array.toList_inj
def aSq:=@_root_.List.pairwise_iff_getElem
def aSr:=@_root_.Nat.lt_or_ge
def aSs:=@_root_.Array.getElem?_modify
def aSt:=@_root_.Bool.not_eq_true
def aSu:=@_root_.Nat.mul_le_mul_right
def aSv:=@_root_.List.getElem?_take
def aSw:=@_root_.Bool.not_eq_false'
def aSx:=@_root_.List.mem_range
def aSy:=@_root_.Array.getElem?_eq_getElem
def aSz:=@_root_.Int.le_refl
def aSA:=@_root_.Nat.le_of_ble_eq_true
def aSB:=@_root_.List.length_singleton
def aSC:=@_root_.Go.Addr.add_mid
def aSD:=@_root_.List.drop_left
def aSE:=@_root_.Array.toArray_toList
def aSF:=@_root_.List.length_eq_one_iff
def aSG:=@_root_.Array.getElem?_setIfInBounds_ne
def aSH:=@_root_.List.drop_zero
def aSI:=@_root_.List.getElem?_eq_none
def aSJ:=@_root_.decide_eq_decide
def aSK:=@_root_.List.getElem_mem
def aSL:=@_root_.Go.World.cell?_setCells_in
def aSM:=@_root_.List.length_eq_zero_iff
def aSN:=@_root_.Go.setRow_other
def aSO:=@_root_.List.not_mem_nil
def aSP:=@_root_.Nat.le_of_eq
def aSQ:=@_root_.List.take_append_drop
def aSR:=@_root_.Classical.choose_spec
def aSS:=@_root_.List.findIdx?_eq_none_iff
def aST:=@_root_.Go.wpIn_mono
def aSU:=@_root_.if_true
def aSV:=@_root_.Nat.lt_irrefl
def aSW:=@_root_.List.getElem_of_mem
def aSX:=@_root_.List.drop_drop
def aSY:=@_root_.dif_neg
def aSZ:=@_root_.List.findIdx?_cons
def aS0:=@_root_.Bool.false_eq_true
def aS1:=@_root_.Array.getElem?_setIfInBounds
def aS2:=@_root_.Array.foldl_toList
def aS3:=@_root_.Nat.mul_one
def aS4:=@_root_.Bool.and_eq_false_iff
def aS5:=@_root_.Go.Addr.add_lit
def aS6:=@_root_.Array.size_append
def aS7:=@_root_.List.pairwise_append
def aS8:=@_root_.List.mem_toArray
def aS9:=@_root_.Go.IntKind.wrap_i64
def aTa:=@_root_.Go.setRow_heap
def aTb:=@_root_.Array.getElem?_push_size
def aTc:=@_root_.List.pairwise_cons
def aTd:=@_root_.List.append_inj
def aTe:=@_root_.Bool.eq_iff_iff
def aTf:=@_root_.Go.Value.slice.injEq
def aTg:=@_root_.Go.heap_alloc_new
def aTh:=@_root_.Go.World.cell?_alloc_new
def aTi:=@_root_.Nat.sub_self
def aTj:=@_root_.dif_pos
def aTk:=@_root_.Option.getD_some
def aTl:=@_root_.List.drop_succ_cons
def aTm:=@_root_.List.range'_succ
def aTn:=@_root_.if_false
theorem pF{p:Prop}(h:p:=by omega):p:=h
theorem pG{p:Prop}(h:p:=by decide):p:=h
theorem pH{p:Prop}(h:p:=by simp):p:=h
theorem pI{p:Prop}(h:p:=by simp;omega):p:=h
theorem pS{p:Prop}(h:p:=by first|rfl|trivial):p:=h
theorem pT{p:Prop}(h:p:=by kernel_rfl):p:=h
theorem pU{p:Prop}(h:p:=by rfl):p:=h
theorem pE{a:Type}{p q r:a->Prop}(k:a)(h1:p k:=by rfl)(h2:q k:=by rfl)(h3:r k:=by rfl): ∃k,p k/\q k/\r k:=⟨k,h1,h2,h3⟩
abbrev pJ:=List (pC×Bool)
abbrev pK:=List (Nat×Nat)
abbrev pL:=List Int
abbrev pM:=List Value
abbrev pN:=Option (Nat×Nat)
abbrev pO:=Option Nat
abbrev pP:=List Nat
abbrev pQ:=World
abbrev pR:=Value
end Go.Proofs
namespace Go.Proofs.YtkpflnijijccpaaGreatDoor.Vc
def NG:Nat:=6
def a9d:Nat:=73
def a9e:List (Nat×Array pR):=[(5,(Lib.pow10Tab.map fun z=>Value.int .u64 z).toArray),(0,(Lib.asciiSpaceTab.map fun z=>Value.int .u8 z).toArray)]
def aH6 (w:pQ):Prop:= ∀x∈a9e,x.1<NG/\∃e fz,w.heap[x.1]? =some (.cells x.2 e fz)
def D0 (w:pQ):Prop:=NG<=w.heap.size/\Lib.Utf8Tabs 3 4 w/\(∃m,w.cell? ⟨1,0,none⟩=some (.int .i64 m))/\aH6 w
theorem JS {w w':pQ}(h:D0 w) (hs:w.heap.size<=w'.heap.size) (hb: ∀b,b<NG->w'.heap[b]? =w.heap[b]?):D0 w':=by
 obtain⟨h0,⟨h1,h2⟩,⟨m,h3⟩,h4⟩:=h;have hc: ∀b o,b<NG->w'.cell? ⟨b,o,none⟩=w.cell? ⟨b,o,none⟩:=fun b o h=>aRH (a:=⟨b,o,none⟩) (hb b h);refine⟨aSe h0 hs,⟨fun c hc'=> ?_,fun i hi=>⟨?_,?_⟩⟩,⟨m,?_⟩,fun x hx=>⟨(h4 x hx).1,by obtain⟨h5,e,fz,h6⟩:=h4 x hx;exact⟨e,fz,(hb _ h5).trans h6⟩⟩⟩
 .rw[hc _ _ pG];exact h1 c hc'
 .rw[hc _ _ pG];exact(h2 i hi).1
 .rw[hc _ _ pG];exact(h2 i hi).2
 .rw[hc _ _ pG];exact h3
attribute [go_sem] a9d
inductive Ty where
 |bool|int (k:IntKind) |str|list (t:Ty) |unit|pair (a b:Ty) |ref|clo|mp|rl (e:Nat) (t:Ty) |mref|fn
 deriving DecidableEq
abbrev Ty.den:Ty->Type
 | .bool=>Bool
 | .int _=>Int
 | .str=>pC
 | .list t=>List t.den
 | .unit=>Unit
 | .pair a b=>a.den×b.den
 | .ref=>pN
 | .clo=>Option (Nat×pK)
 | .mp=>pO
 | .rl _ _=>pN
 | .fn=>pO
 | .mref=>pN
@[go_sem] def Ty.cells:Ty->Nat
 | .unit=>0
 | .pair a b=>a.cells+b.cells
 | .bool| .int _| .str| .list _| .ref| .clo| .mp| .rl _ _| .mref| .fn=>1
@[go_sem] def Ty.zero:(t:Ty)->t.den
 | .bool=>false
 | .int _=>(0:Int)
 | .str=>[]
 | .list _=>[]
 | .unit=>()
 | .pair a b=>(a.zero,b.zero)
 | .ref=>none
 | .clo=>none
 | .mp=>none
 | .rl _ _=>none
 | .fn=>none
 | .mref=>none
@[go_sem] def Ty.isRow:Ty->Bool
 | .unit| .pair _ _=>true
 | .bool| .int _| .str| .list _| .ref| .clo| .mp| .rl _ _| .mref| .fn=>false
@[go_sem] def Ty.pure:Ty->Bool
 | .ref| .clo| .mp| .rl _ _| .mref=>false
 | .list t=>t.pure
 | .pair a b=>a.pure&&b.pure
 | .bool| .int _| .str| .unit| .fn=>true
def qU (t:Ty) (l:List t.den) (i:Int):t.den:=l.getD i.toNat t.zero
def tM (l:pC) (i:Int):Int:=((l.getD i.toNat 0).toNat:Int)
def uY {t u:Ty}(h:t=u) (x:t.den):u.den:=h▸x
@[go_sem] theorem M7 {t:Ty}(x:t.den):uY (rfl:t=t) x=x:=rfl
@[go_sem] def r9 (u:Ty):(t:Ty)->t.den->Nat->Option u.den
 |t,x,0=>if h:t=u then some (uY h x) else match t,x with
  | .pair a b,x=>if 0<a.cells then r9 u a x.1 0 else r9 u b x.2 0
  |_,_=>none
 | .pair a b,x,o+1=>if o+1<a.cells then r9 u a x.1 (o+1) else r9 u b x.2 (o+1-a.cells)
 |_,_,_=>none
@[go_sem] def sQ (u:Ty) (y:u.den):(t:Ty)->t.den->Nat->Option t.den
 |t,x,0=>if h:u=t then some (uY h y) else match t,x with
  | .pair a b,x=>if 0<a.cells then(sQ u y a x.1 0).map (fun z=>(z,x.2)) else(sQ u y b x.2 0).map (fun z=>(x.1,z))
  |_,_=>none
 | .pair a b,x,o+1=>if o+1<a.cells then(sQ u y a x.1 (o+1)).map (fun z=>(z,x.2)) else(sQ u y b x.2 (o+1-a.cells)).map (fun z=>(x.1,z))
 |_,_,_=>none
@[go_sem] def Ty.proj:(t:Ty)->t.den->Nat->Option (Σ u:Ty,u.den)
 | .pair a _,x,0=>some ⟨a,x.1⟩
 | .pair _ b,x,i+1=>b.proj x.2 i
 |_,_,_=>none
@[go_sem] def Ty.offs:Ty->Nat->pO
 | .pair _ _,0=>some 0
 | .pair a b,i+1=>(b.offs i).map fun o=>a.cells+o
 |_,_=>none
@[go_sem] def Ty.fld:Ty->Nat->Option Ty
 | .pair a _,0=>some a
 | .pair _ b,i+1=>b.fld i
 |_,_=>none
@[go_sem] def Ty.setPart (u:Ty) (y:u.den):(t:Ty)->t.den->Nat->Option t.den
 | .pair a b,x,0=>if h:u=a then some (uY h y,x.2) else none
 | .pair a b,x,i+1=>(Ty.setPart u y b x.2 i).map fun z=>(x.1,z)
 |_,_,_=>none
inductive DV where
 |any
 |nilS
 |val (t:Ty) (x:t.den)
 |at (t:Ty) (x:t.den)
 |tup (l:List ((Σ t:Ty,t.den)×pO))
 |cond (p:Bool) (d:DV)
 |flag (p q:Prop)
 |own (k n:Nat)
 |elt (k n c:Nat) (i:Int) (o:Nat)
 |nxt (b:Bool) (p c:Int)
abbrev qB:=DV×pO
inductive q9 where
 |cells (t:Ty) (x:t.den) (toks:pK)
 |grow (e:TypeId) (c:Nat) (n:Nat)
 |row (e:TypeId) (t:Ty) (l:List t.den) (n:Nat)
 |map (k v:Ty) (l:List (k.den×v.den))
 |iter (s:pC) (p:Nat)
 |dead
structure St where
 env:List (Nat×qB)
 H:List (Nat×q9)
 nb:Nat
 N:Nat
 np:Nat:=0
@[go_sem] def lk:List (Nat×qB)->Nat->qB
 |[],_=>(.any,none)
 |(k,s)::r,t=>if k=t then s else lk r t
@[go_sem] def qD:List (Nat×q9)->Nat->Option q9
 |[],_=>none
 |(k,s)::r,t=>if k=t then some s else qD r t
structure TI where
 ty:Ty
 elem:TypeId:=0
 bytes:Nat:=0
 arr:Bool:=false
 ls:List (Nat×TypeId×Nat):=[]
abbrev sK:=List (Nat×TI)
@[go_sem] def rK:sK->TypeId->Option TI
 |[],_=>none
 |(k,s)::r,t=>if k=t then some s else rK r t
inductive PK where
 |v|own|p (t:Ty) (os:pP) |m|r|f (ks:List (Ty×pP))
structure qH where
 side:List Prop
 ret:List qB
 H:List q9
structure qW where
 ps:List PK
 C:List qB->List q9->Option qH
 gs:List (Nat×Nat×PK):=[]
 same:pP:=[]
 row:Option ((t:Ty)->List t.den->Option (List t.den)):=none
abbrev tW:=Nat->Option qW
structure qJ where
 side:List Prop
 slot:qB
 upd:List (Nat×q9)
 rds:pP
@[go_sem] def HX:pP->Bool
 |[]=>false
 |i::_=>if i=1000000000 then true else false
@[go_sem] def orE:Option qJ->Option qJ->Option qJ
 |some r,_=>some r
 |none,r=>r
@[go_sem] def AL:Option (List Prop×DV)->Option qJ
 |some (p,d)=>some ⟨p,(d,none),[],[]⟩
 |none=>none
@[go_sem] def YG:pR->DV
 | .bool b=> .val .bool b
 | .int k n=> .val (.int k) n
 | .string s=> .val .str s.data.toList
 | .slice none 0 0=> .nilS
 | .pointer none=> .val .ref none
 | .nilFunc=> .val .clo none
 | .map none=> .val .mp none
 |_=> .any
@[go_sem] def uF (env:List (Nat×qB)):Operand->qB
 | .tmp t=>lk env t
 | .const v=>(YG v,none)
 | .func f=>(.val .clo (some (f,[])),none)
 | .global _=>(.any,none)
@[go_sem] def M8:Option TI->qB->qB
 |some ⟨.list t,_,_,_,_⟩,(.nilS,_)=>(.val (.list t) [],none)
 |_,s=>s
@[go_sem] def JT:IntKind->Int->List Prop×DV
 | .i64,n=>([-9223372036854775808<=n/\n<=9223372036854775807],.val (.int .i64) n)
 |k,n=>([],.val (.int k) (k.wrap n))
@[go_sem] def qT {α:Type}:List α->List α->List α
 |[],m=>m
 |x::l,m=>x::qT l m
@[go_sem] def C0:(t:Ty)->t.den->t.den->Option Bool
 | .bool,a,b=>some (a==b)
 | .int _,a,b=>some (decide ((a:Int)=b))
 | .str,a,b=>some (decide ((a:pC)=b))
 | .unit,_,_=>some true
 | .pair s t,a,b=>eqAnd (C0 s a.1 b.1) (C0 t a.2 b.2)
 |_,_,_=>none
where
 eqAnd:Option Bool->Option Bool->Option Bool
  |some x,some y=>some (x&&y)
  |_,_=>none
attribute [go_sem] C0.eqAnd
@[go_sem] def YH (k:IntKind) (a b:Int):BinOp->Option (List Prop×DV)
 | .add=>some (JT k (a+b))
 | .sub=>some (JT k (a-b))
 | .mul=>some (JT k (a*b))
 | .eql=>some ([],.val .bool (decide (a=b)))
 | .neq=>some ([],.val .bool (!decide (a=b)))
 | .lss=>some ([],.val .bool (decide (a<b)))
 | .leq=>some ([],.val .bool (decide (a<=b)))
 | .gtr=>some ([],.val .bool (decide (b<a)))
 | .geq=>some ([],.val .bool (decide (b<=a)))
 | .quo=>some ([b≠0],.val (.int k) (k.wrap (Int.tdiv a b)))
 | .rem=>some ([b≠0],.val (.int k) (Int.tmod a b))
 | .and=>some ([],.val (.int k) (bits .and k a b))
 | .or=>some ([],.val (.int k) (bits .or k a b))
 | .xor=>some ([],.val (.int k) (bits .xor k a b))
 | .andNot=>some ([],.val (.int k) (bits .andNot k a b))
 |_=>none
def YI (k:IntKind) (a b:Int):Int:=k.wrap (a*2^min b.toNat k.bits)
def yE (k:IntKind) (a b:Int):Int:=a.fdiv (2^min b.toNat k.bits)
@[go_sem] def a9g (k:IntKind) (a:Int) (k':IntKind) (b:Int):BinOp->Option (List Prop×DV)
 | .shl=>some ([0<=b],.val (.int k) (YI k a b))
 | .shr=>some ([0<=b],.val (.int k) (yE k a b))
 |op=>if k=k' then YH k a b op else none
@[go_sem] def YJ (a b:pC):BinOp->Option (List Prop×DV)
 | .add=>some ([((a++b).length:Int)<=9223372036854775807],.val .str (a++b))
 | .eql=>some ([],.val .bool (decide (a=b)))
 | .neq=>some ([],.val .bool (!decide (a=b)))
 | .lss=>some ([],.val .bool (Op.bytesLess a b))
 | .leq=>some ([],.val .bool (Op.bytesLess a b||decide (a=b)))
 | .gtr=>some ([],.val .bool (!(Op.bytesLess a b||decide (a=b))))
 | .geq=>some ([],.val .bool (!Op.bytesLess a b))
 |_=>none
@[go_sem] def a9h:BinOp->Option Bool->Option (List Prop×DV)
 | .eql,some r=>some ([],.val .bool r)
 | .neq,some r=>some ([],.val .bool (!r))
 |_,_=>none
@[go_sem] def T8 (op:BinOp):qB->qB->Option (List Prop×DV)
 |(.val (.int k) a,_),(.val (.int k') b,_)=>a9g k a k' b op
 |(.val .str a,_),(.val .str b,_)=>YJ a b op
 |_,_=>none
@[go_sem] def a9i (k:IntKind) (a b:Int):BinOp->Option (List Prop×DV)
 | .add=>some ([],.val (.int k) (k.wrap (a+b)))
 | .sub=>some ([],.val (.int k) (k.wrap (a-b)))
 | .mul=>some ([],.val (.int k) (k.wrap (a*b)))
 |_=>none
@[go_sem] def T9 (op:BinOp):Option TI->qB->qB->Option (List Prop×DV)
 |some ⟨.int _,_,_,true,_⟩,(.val (.int k) a,_),(.val (.int k') b,_)=>if k=k' then a9i k a b op else none
 |_,_,_=>none
@[go_sem] def a9j (u:Ty) (b:Nat) (op:BinOp) (t t':Ty) (x:t.den) (y:t'.den):Option (List Prop×DV):=
 if h:t'=t then(if t=u/\(t= .bool\/(t.isRow=true/\b=1)) then a9h op (C0 t x (uY h y)) else none) else none
@[go_sem] def TA {α:Type}(l:List α):BinOp->Option (List Prop×DV)
 | .eql=>some ([],.flag (l=[]) True)
 | .neq=>some ([],.flag True (l=[]))
 |_=>none
@[go_sem] def YK:Option TI->BinOp->qB->qB->Option (List Prop×DV)
 |some ⟨.list _,_,_,_,_⟩,op,(.val (.list _) l,_),(.nilS,_)=>TA l op
 |some ⟨.list _,_,_,_,_⟩,op,(.nilS,_),(.val (.list _) l,_)=>TA l op
 |some ⟨u,_,b,_,_⟩,op,(.val t x,_),(.val t' y,_)=>a9j u b op t t' x y
 |_,_,_,_=>none
@[go_sem] def YL:Option (List Prop×DV)->Option (List Prop×DV)->Option (List Prop×DV)
 |some r,_=>some r
 |none,r=>r
@[go_sem] def YM:UnOp->qB->Option (List Prop×DV)
 | .not,(.val .bool b,_)=>some ([],.val .bool (!b))
 | .neg,(.val (.int k) n,_)=>some (JT k (-(n:Int)))
 |_,_=>none
def vG (l:pL):pC:=l.map fun n=>UInt8.ofNat n.toNat
def uR (s:pC):pL:=s.map fun b=>(b.toNat:Int)
@[go_sem] def TB:Option TI->Option TI->qB->Option (List Prop×DV)
 |some _,some ⟨.int k,_,_,_,_⟩,(.val (.int _) n,_)=>some ([],.val (.int k) (k.wrap n))
 |some _,some ⟨.str,_,_,_,_⟩,(.val .str s,_)=>some ([],.val .str s)
 |_,_,_=>none
@[go_sem] def a9k (l:pL):Option TI->Option (List Prop×DV)
 |some ⟨.int .u8,_,_,_,_⟩=>some ([],.val .str (vG l))
 |_=>none
@[go_sem] def YN (T:sK):Option TI->Option TI->qB->Option (List Prop×DV)
 |some ⟨.list (.int .u8),e,_,_,_⟩,some ⟨.str,_,_,_,_⟩,(.val (.list (.int .u8)) l,_)=>a9k l (rK T e)
 |_,_,_=>none
def sC {α:Type}(l:List α) (lo hi:Int):List α:=(l.drop lo.toNat).take (hi.toNat-lo.toNat)
@[go_sem] def DQ:Option qB->Int->Option Int
 |none,d=>some d
 |some (.val (.int _) n,_),_=>some n
 |_,_=>none
@[go_sem] def TC (t:Ty) (n:Nat) (f:Int->Int->t.den):Option Int->Option Int->Option (List Prop×DV)
 |some a,some b=>some ([0<=a/\a<=b/\b<=(n:Int)],.val t (f a b))
 |_,_=>none
@[go_sem] def YO:Option TI->qB->Option qB->Option qB->Option (List Prop×DV)
 |some ⟨.str,_,_,_,_⟩,(.val .str l,_),lo,hi=>TC .str (List.length l) (sC l) (DQ lo 0) (DQ hi (List.length l))
 |some ⟨.list u,_,_,_,_⟩,(.val (.list t) l,_),lo,hi=>if t=u then TC (.list t) (List.length l) (sC l) (DQ lo 0) (DQ hi (List.length l)) else none
 |_,_,_,_=>none
@[go_sem] def TD (t:Ty) (x:t.den) (i:Nat):Option Ty->Option t.den
 |some (.list u)=>Ty.setPart (.list u) [] t x i
 |_=>none
@[go_sem] def AM (t:Ty):Option t.den->List (Nat×qB)->Option t.den
 |some x,[]=>some x
 |some x,(i,(.val u y,_))::r=>AM t (Ty.setPart u y t x i) r
 |some x,(i,(.nilS,_))::r=>AM t (TD t x i (t.fld i)) r
 |_,_=>none
@[go_sem] def D1 (t:Ty):Nat->List t.den
 |0=>[]
 |n+1=>t.zero::D1 t n
@[go_sem] def a9l (t:Ty) (n:Nat) (l:List t.den) (i:Nat) (u:Ty) (y:u.den):Option (List t.den):=if h:u=t/\i<n then some (l.set i (uY h.1 y)) else none
@[go_sem] def B8 (t:Ty) (n:Nat):Option (List t.den)->List (Nat×qB)->Option (List t.den)
 |some l,[]=>some l
 |some l,(i,(.val u y,_))::r=>B8 t n (a9l t n l i u y) r
 |_,_=>none
attribute [go_sem] List.set_cons_zero List.set_cons_succ
@[go_sem] def JU:List qB->Option pK
 |[]=>some []
 |(.val .ref (some p),_)::r=>(JU r).map (p:: ·)
 |_=>none
@[go_sem] def xO:pK->Nat->pO
 |[],_=>none
 |(o,k)::r,a=>if o=a then some k else xO r a
@[go_sem] def xZ:pO->Nat->pK
 |some k,o=>[(o,k)]
 |none,_=>[]
@[go_sem] def vW:pK->Nat->Nat->pK
 |[],_,_=>[]
 |(q,k)::r,o,n=>if o<=q/\q<o+n then vW r o n else(q,k)::vW r o n
@[go_sem] def F4:Ty->pO->pO
 | .list _,k=>k
 |_,_=>none
@[go_sem] def zJ {α:Type}:List α->List α->List α
 |[],acc=>acc
 |x::l,acc=>zJ l (x::acc)
inductive rG where
 |box (id:Nat) (u:Ty) (x:u.den) (toks:pK) (o:Nat)
 |tok (id:Nat)
@[go_sem] def rG.id:rG->Nat
 | .box i _ _ _ _=>i
 | .tok k=>k
@[go_sem] def C1:Nat->pP->Bool
 |_,[]=>false
 |i,j::r=>if i=j then true else C1 i r
@[go_sem] def sD:List rG->pP
 |[]=>[]
 |w::r=>w.id::sD r
structure t7 where
 args:List qB
 H:List q9
 ws:List rG
 n:Nat
@[go_sem] def JV:pP->Nat->pK
 |[],_=>[]
 |q::qs,n=>(q,n)::JV qs (n+1)
@[go_sem] def C2 (k:Nat):Option q9->Option t7->Option t7
 |some (.grow e c m),some a=>if C1 k (sD a.ws)=true then none else some ⟨a.args,.grow e c m::a.H,.tok k::a.ws,a.n+1⟩
 |_,_=>none
@[go_sem] def zK (H:List (Nat×q9)):pO->Option t7->Option t7
 |some k,a=>C2 k (qD H k) a
 |none,_=>none
@[go_sem] def yU (H:List (Nat×q9)) (toks:pK) (o:Nat):pP->Option t7->Option t7
 |[],a=>a
 |q::qs,a=>yU H toks o qs (zK H (xO toks (o+q)) a)
@[go_sem] def M9 (n:Nat):pP->Bool
 |[]=>true
 |q::qs=>decide (q<n)&&M9 n qs
@[go_sem] def F5 (H:List (Nat×q9)) (t:Ty) (os:pP) (i o:Nat) (u:Ty) (x:u.den) (toks:pK) (a:t7):Option t.den->Option t7
 |some y=>if (M9 t.cells os&& !C1 i (sD a.ws))=true then yU H toks o os (some ⟨(.val .ref (some (a.n,0)),none)::a.args,.cells t y (JV os (a.n+1))::a.H,.box i u x toks o::a.ws,a.n+1⟩) else none
 |none=>none
@[go_sem] def wB (H:List (Nat×q9)) (t:Ty) (os:pP) (i o:Nat) (a:t7):Option q9->Option t7
 |some (.cells u x toks)=>F5 H t os i o u x toks a (r9 t u x o)
 |_=>none
@[go_sem] def C3 (t:Ty) (x:t.den) (k:Nat) (a:t7):Option q9->Option t7
 |some (.grow e c m)=>if (t.pure&& !C1 k (sD a.ws))=true then some ⟨(.val t x,some a.n)::a.args,.grow e c m::a.H,.tok k::a.ws,a.n+1⟩ else none
 |_=>none
@[go_sem] def TF (t:Ty) (x:t.den) (a:t7):Option t7:=
 if t.pure=true then some ⟨(.val t x,none)::a.args,a.H,a.ws,a.n⟩ else none
@[go_sem] def TG (f:FuncId) (a:t7):Option t7:=some ⟨(.val .clo (some (f,[])),none)::a.args,a.H,a.ws,a.n⟩
@[go_sem] def TH (a:t7):Option t7:=some ⟨(.nilS,none)::a.args,a.H,a.ws,a.n⟩
@[go_sem] def C5 (i:Nat) (a:t7):Option q9->Option t7
 |some (.map k v l)=>if (k.pure&&v.pure&& !C1 i (sD a.ws))=true then some ⟨(.val .mp (some a.n),none)::a.args,.map k v l::a.H,.tok i::a.ws,a.n+1⟩ else none
 |_=>none
@[go_sem] def C6 (k n:Nat) (a:t7):Option q9->Option t7
 |some (.row e t l m)=>if (t.pure&& !C1 k (sD a.ws))=true then some ⟨(.own a.n n,none)::a.args,.row e t l m::a.H,.tok k::a.ws,a.n+1⟩ else none
 |_=>none
@[go_sem] def y3 (H:List (Nat×q9)) (f:FuncId) (args:List qB):List (Ty×pP)->pK->pK->Option t7->Option t7
 |[],[],ids,some a=>some ⟨(.val .clo (some (f,zJ ids [])),none)::args,a.H,a.ws,a.n⟩
 |(t,os)::ks,(i,o)::cs,ids,some a=>y3 H f args ks cs ((a.n,0)::ids) (wB H t os i o a (qD H i))
 |_,_,_,_=>none
@[go_sem] def yF (H:List (Nat×q9)) (a:t7):PK->qB->Option t7
 | .v,(.val .clo (some (f,[])),_)=>TG f a
 | .v,(.val t x,_)=>TF t x a
 | .v,(.nilS,_)=>TH a
 | .own,(.val (.list t) x,some k)=>C3 (.list t) x k a (qD H k)
 | .p t os,(.val .ref (some (i,o)),_)=>wB H t os i o a (qD H i)
 | .m,(.val .mp (some i),_)=>C5 i a (qD H i)
 | .r,(.own k n,_)=>C6 k n a (qD H k)
 | .f ks,(.val .clo (some (f,cs)),_)=>y3 H f a.args ks cs [] (some a)
 |_,_=>none
@[go_sem] def y4 (H:List (Nat×q9)):List PK->List qB->Option t7->Option t7
 |_,_,none=>none
 |[],[],some a=>some a
 |p::ps,s::ss,some a=>y4 H ps ss (yF H a p s)
 |_,_,some _=>none
@[go_sem] def aH7:Option pN->qB
 |some (some p)=>(.val .ref (some p),none)
 |_=>(.any,none)
@[go_sem] def aH8:Option pO->qB
 |some (some i)=>(.val .mp (some i),none)
 |_=>(.any,none)
@[go_sem] def aH9:Option pN->qB
 |some (some (k,n))=>(.own k n,none)
 |_=>(.any,none)
@[go_sem] def G7:(t:Ty)->t.den->Nat->Option pN
 | .rl _ _,x,0=>some x
 | .pair a b,x,o=>if o<a.cells then G7 a x.1 o else G7 b x.2 (o-a.cells)
 |_,_,_=>none
@[go_sem] def JW (q:Nat):PK->Option q9->qB
 | .r,some (.cells t y _)=>aH9 (G7 t y q)
 | .p _ _,some (.cells t y _)=>aH7 (r9 .ref t y q)
 | .m,some (.cells t y _)=>aH8 (r9 .mp t y q)
 |_,_=>(.any,none)
@[go_sem] def HY:List q9->Nat->Option q9
 |[],_=>none
 |b::_,0=>some b
 |_::r,n+1=>HY r n
@[go_sem] def MA (l:List qB):Option t7->Option t7
 |some a=>some ⟨l,a.H,a.ws,a.n⟩
 |none=>none
@[go_sem] def B9 (H:List (Nat×q9)):List (Nat×Nat×PK)->Option t7->Option t7
 |_,none=>none
 |[],some a=>some a
 |(c,q,pk)::r,some a=>B9 H r (MA a.args (yF H a pk (JW q pk (HY a.H (a.n-1-c)))))
@[go_sem] def G8 (i o:Nat):List rG->Nat->pN
 |[],_=>none
 | .box j _ _ _ oc::r,c=>if j=i/\oc<=o then some (c,o-oc) else G8 i o r (c+1)
 | .tok _::r,c=>G8 i o r (c+1)
@[go_sem] def wS (i:Nat):List rG->Nat->pO
 |[],_=>none
 | .tok j::r,c=>if j=i then some c else wS i r (c+1)
 | .box _ _ _ _ _::r,c=>wS i r (c+1)
@[go_sem] def JX {α β:Type}:Option α->Option β->Option (α×β)
 |some a,some b=>some (a,b)
 |_,_=>none
@[go_sem] def TJ (W:List rG):pN->Option pN
 |none=>some none
 |some (i,o)=>(G8 i o W 0).map some
@[go_sem] def a9m (W:List rG):pO->Option pO
 |none=>some none
 |some i=>(wS i W 0).map some
@[go_sem] def a9n (W:List rG):pN->Option pN
 |none=>some none
 |some (k,n)=>(wS k W 0).map fun c=>some (c,n)
@[go_sem] def OZ:Option (Nat×pK)->Option (Option (Nat×pK))
 |none=>some none
 |some (f,[])=>some (some (f,[]))
 |_=>none
@[go_sem] def D2 (W:List rG):(t:Ty)->t.den->Option t.den
 | .ref,x=>TJ W x
 | .clo,x=>OZ x
 | .mp,x=>a9m W x
 | .pair a b,x=>JX (if a.pure=true then some x.1 else D2 W a x.1) (if b.pure=true then some x.2 else D2 W b x.2)
 | .list t,x=>if t.pure=true then some x else none
 | .bool,x=>some x
 | .int _,x=>some x
 | .str,x=>some x
 | .unit,x=>some x
 | .rl _ _,x=>a9n W x
 | .fn,x=>some x
 | .mref,x=>TJ W x
@[go_sem] def YP:Option q9->Option (List q9)->Option (List q9)
 |some b,some l=>some (b::l)
 |_,_=>none
@[go_sem] def aIa (t:Ty) (ts:pK):Option t.den->Option q9
 |some y=>some (.cells t y ts)
 |none=>none
@[go_sem] def TK (W:List rG):q9->Option q9
 | .cells t y ts=>if t.pure=true then some (.cells t y ts) else aIa t ts (D2 W t y)
 |b=>some b
@[go_sem] def HZ (W:List rG):List q9->Option (List q9)
 |[]=>some []
 |b::r=>YP (TK W b) (HZ W r)
@[go_sem] def AN:List rG->Nat->Option rG
 |[],_=>none
 |w::_,0=>some w
 |_::r,n+1=>AN r n
@[go_sem] def MB (n:Nat) (c:Nat):Option rG->Bool
 |some _=>false
 |none=>decide (c<n)
@[go_sem] def AO (base n c:Nat):Option rG->pO
 |some (.box _ _ _ _ _)=>none
 |some (.tok k)=>some k
 |none=>if c<n then some (base+c) else none
@[go_sem] def a9o (base n c o:Nat):Option rG->qB
 |some (.box i _ _ _ o')=>(.val .ref (some (i,o'+o)),none)
 |wh=>if MB n c wh=true then(.val .ref (some (base+c,o)),none) else(.any,none)
@[go_sem] def JY (base n:Nat) (W:List rG):pO->pO
 |some c=>AO base n c (AN W c)
 |none=>none
@[go_sem] def aIb (m:Nat):pO->qB
 |some k=>(.own k m,none)
 |none=>(.any,none)
@[go_sem] def aIc:pO->qB
 |some k=>(.val .mp (some k),none)
 |none=>(.any,none)
@[go_sem] def YQ (base n c o:Nat):Option rG->pN
 |some (.box i _ _ _ o')=>some (i,o'+o)
 |wh=>if MB n c wh=true then some (base+c,o) else none
@[go_sem] def aId:pN->Option pK->Option pK
 |some p,some l=>some (p::l)
 |_,_=>none
@[go_sem] def MC (base n:Nat) (W:List rG):pK->Option pK
 |[]=>some []
 |(c,o)::r=>aId (YQ base n c o (AN W c)) (MC base n W r)
@[go_sem] def aIe (f:Nat):Option pK->qB
 |some l=>(.val .clo (some (f,l)),none)
 |none=>(.any,none)
@[go_sem] def TL (base n:Nat) (W:List rG):qB->qB
 |(.own c m,_)=>aIb m (JY base n W (some c))
 |(.val .ref (some (c,o)),_)=>a9o base n c o (AN W c)
 |(.val .ref none,_)=>(.val .ref none,none)
 |(.val .mp (some c),_)=>aIc (JY base n W (some c))
 |(.val .mp none,_)=>(.val .mp none,none)
 |(.val .clo (some (f,cs)),_)=>aIe f (MC base n W cs)
 |(.val t x,k)=>if t.pure=true then(.val t x,JY base n W (F4 t k)) else(.any,none)
 |_=>(.any,none)
@[go_sem] def aIf (q:Nat):pO->pK->pK
 |some k,r=>(q,k)::r
 |none,r=>r
@[go_sem] def DR (base n:Nat) (W:List rG) (o:Nat):pK->pK
 |[]=>[]
 |(q,c)::r=>aIf (o+q) (AO base n c (AN W c)) (DR base n W o r)
@[go_sem] def JZ (base n:Nat) (W:List rG):pN->Option pN
 |none=>some none
 |some (c,o)=>back2 c o (AN W c)
where
 back2 (c o:Nat):Option rG->Option pN
  |some (.box i _ _ _ o')=>some (some (i,o'+o))
  |wh=>if MB n c wh=true then some (some (base+c,o)) else none
attribute [go_sem] JZ.back2
@[go_sem] def a9p (base n:Nat) (W:List rG):pO->Option pO
 |none=>some none
 |some c=>(AO base n c (AN W c)).map some
@[go_sem] def a9q (base n:Nat) (W:List rG):pN->Option pN
 |none=>some none
 |some (c,q)=>(AO base n c (AN W c)).map fun k=>some (k,q)
@[go_sem] def C7 (base n:Nat) (W:List rG):(t:Ty)->t.den->Option t.den
 | .ref,x=>JZ base n W x
 | .clo,x=>OZ x
 | .mp,x=>a9p base n W x
 | .pair a b,x=>JX (if a.pure=true then some x.1 else C7 base n W a x.1) (if b.pure=true then some x.2 else C7 base n W b x.2)
 | .list t,x=>if t.pure=true then some x else none
 | .bool,x=>some x
 | .int _,x=>some x
 | .str,x=>some x
 | .unit,x=>some x
 | .rl _ _,x=>a9q base n W x
 | .fn,x=>some x
 | .mref,x=>JZ base n W x
@[go_sem] def TM (i o:Nat) (u t:Ty) (toks ts:pK):Option u.den->Option (Nat×q9)
 |some z=>some (i,.cells u z (qT ts (vW toks o t.cells)))
 |none=>none
@[go_sem] def a9r (i:Nat) (t:Ty) (ts:pK):Option t.den->Option (Nat×q9)
 |some y=>some (i,.cells t y ts)
 |none=>none
@[go_sem] def DS (base n c:Nat) (W:List rG):q9->Option (Nat×q9)
 | .cells t y ts=>if t.pure=true then some (base+c,.cells t y (DR base n W 0 ts)) else a9r (base+c) t (DR base n W 0 ts) (C7 base n W t y)
 | .grow e m k=>some (base+c,.grow e m k)
 | .row e t l n=>if t.pure=true then some (base+c,.row e t l n) else none
 | .map k v l=>if (k.pure&&v.pure)=true then some (base+c,.map k v l) else none
 | .iter _ _=>none
 | .dead=>some (base+c,.dead)
@[go_sem] def A3 (k:Nat):q9->Option (Nat×q9)
 | .cells _ _ _=>none
 | .grow e m n=>some (k,.grow e m n)
 | .row e t l n=>if t.pure=true then some (k,.row e t l n) else none
 | .map s v l=>if (s.pure&&v.pure)=true then some (k,.map s v l) else none
 | .iter _ _=>none
 | .dead=>some (k,.dead)
@[go_sem] def a9s (i o:Nat) (u t:Ty) (toks ts:pK) (x:u.den):Option t.den->Option (Nat×q9)
 |some y=>TM i o u t toks ts (sQ t y u x o)
 |none=>none
@[go_sem] def y5 (base n i o:Nat) (W:List rG) (u:Ty) (x:u.den) (toks:pK):q9->Option (Nat×q9)
 | .cells t y ts=>if t.pure=true then TM i o u t toks (DR base n W o ts) (sQ t y u x o) else a9s i o u t toks (DR base n W o ts) x (C7 base n W t y)
 | .dead=>some (i,.dead)
 | .grow _ _ _=>none
 | .row _ _ _ _=>none
 | .map _ _ _=>none
 | .iter _ _=>none
@[go_sem] def P0:Option (Nat×q9)->Option (List (Nat×q9))->Option (List (Nat×q9))
 |some q,some r=>some (q::r)
 |_,_=>none
@[go_sem] def BA (base n:Nat) (W:List rG):Nat->List rG->List q9->Option (List (Nat×q9))
 |_,[],[]=>some []
 |c,[],b::L=>P0 (DS base n c W b) (BA base n W (c+1) [] L)
 |c,.box i u x toks o::ws,b::L=>P0 (y5 base n i o W u x toks b) (BA base n W (c+1) ws L)
 |c,.tok k::ws,b::L=>P0 (A3 k b) (BA base n W (c+1) ws L)
 |_,_::_,[]=>none
@[go_sem] def G9:List qB->Option (List ((Σ t:Ty,t.den)×pO))
 |[]=>some []
 |(.val t x,k)::r=>(G9 r).map ((⟨t,x⟩,k):: ·)
 |(.own k n,_)::r=>(G9 r).map ((⟨.rl 0 .unit,some (k,n)⟩,none):: ·)
 |_=>none
@[go_sem] def aIg:Option (List ((Σ t:Ty,t.den)×pO))->qB
 |some q=>(.tup q,none)
 |none=>(.any,none)
@[go_sem] def MD:List qB->Option qB
 |[]=>some (.tup [],none)
 |[s]=>some s
 |s::s'::l=>some (aIg (G9 (s::s'::l)))
@[go_sem] def YR (W:List rG):pP->pP
 |[]=>[]
 |c::r=>sameId (AN W c) (YR W r)
where
 sameId:Option rG->pP->pP
  |some w,r=>w.id::r
  |none,r=>r
attribute [go_sem] YR.sameId
@[go_sem] def P2 (side:List Prop) (rds:pP):Option (List (Nat×q9))->Option qB->Option qJ
 |some H,some s=>some ⟨side,s,H,rds⟩
 |_,_=>none
@[go_sem] def P3 (base n:Nat) (W:List rG):List qB->List qB
 |[]=>[]
 |s::r=>TL base n W s::P3 base n W r
@[go_sem] def qY:List q9->Nat
 |[]=>0
 |_::r=>qY r+1
@[go_sem] def TN (base:Nat) (W:List rG) (sm:pP):Option qH->Option qJ
 |some r=>P2 r.side (qT (sD W) (YR W sm)) (BA base (qY r.H) W 0 W r.H) (MD (P3 base (qY r.H) W r.ret))
 |none=>none
@[go_sem] def TO (C:List qB->List q9->Option qH) (sm:pP) (base:Nat) (W:List rG) (args:List qB):Option (List q9)->Option qJ
 |some L=>TN base W sm (C args L)
 |none=>none
@[go_sem] def P4 (C:List qB->List q9->Option qH) (sm:pP) (base:Nat):Option t7->Option qJ
 |some a=>TO C sm base (zJ a.ws []) (zJ a.args []) (HZ (zJ a.ws []) (zJ a.H []))
 |none=>none
@[go_sem] def GA (H:List (Nat×q9)) (base:Nat) (args:List qB):Option qW->Option qJ
 |some g=>P4 g.C g.same base (B9 H g.gs (y4 H g.ps args (some ⟨[],[],[],0⟩)))
 |none=>none
@[go_sem] def P5:List PK->List qB->pO
 | .r::ps,_::ss=>P5 ps ss
 |_::_,(.own k _,_)::_=>some k
 |_::ps,_::ss=>P5 ps ss
 |_,_=>none
@[go_sem] def a9t (k:Nat) (t:Ty) (l:List t.den):qB->qB
 |(.own j m,x)=>if j=k then(.val (.list t) l,none) else(.own j m,x)
 |s=>s
@[go_sem] def P6 (k:Nat) (t:Ty) (l:List t.den):List qB->List qB
 |[]=>[]
 |s::r=>a9t k t l s::P6 k t l r
@[go_sem] def K0 (k n:Nat):List qB->List Prop
 |[]=>[]
 |(.own j m,_)::r=>(j=k->m=n)::K0 k n r
 |_::r=>K0 k n r
@[go_sem] def I0:Ty->Bool
 | .list _=>false
 | .pair a b=>I0 a&&I0 b
 | .bool| .int _| .str| .unit| .fn=>true
 | .ref| .clo| .mp| .rl _ _| .mref=>false
@[go_sem] def qE:List (Nat×q9)->pP
 |[]=>[]
 |(i,_)::r=>i::qE r
@[go_sem] def ME:List (Nat×q9)->Bool
 |[]=>true
 |(_,.cells t _ [])::r=>I0 t&&ME r
 |_=>false
@[go_sem] def YS (sd:List Prop) (k:Nat):Option qJ->Option qJ
 |some ⟨side,(.val t x,_),U,rds⟩=>if (I0 t&&ME U&& !C1 k (qE U))=true then some ⟨qT sd side,(.val t x,none),U,k::rds⟩ else none
 |_=>none
@[go_sem] def P7 (H:List (Nat×q9)) (base:Nat) (args:List qB) (g:qW) (k:Nat):Option q9->Option qJ
 |some (.row _ t l m)=>YS (K0 k m args) k (GA ((k,.dead)::H) base (P6 k t l args) (some g))
 |_=>none
@[go_sem] def a9u (H:List (Nat×q9)) (base:Nat) (args:List qB) (g:qW):pO->Option qJ
 |some k=>P7 H base args g k (qD H k)
 |none=>GA H base args (some g)
@[go_sem] def a9v (k n m e:Nat) (t:Ty):Option (List t.den)->Option qJ
 |some l=>some ⟨[n=m,m<4611686018427387904],(.tup [],none),[(k,.row e t l m)],[k]⟩
 |none=>none
@[go_sem] def YT (F:(t:Ty)->List t.den->Option (List t.den)) (k n:Nat):Option q9->Option qJ
 |some (.row e t l m)=>a9v k n m e t (F t l)
 |_=>none
@[go_sem] def TP (H:List (Nat×q9)) (F:(t:Ty)->List t.den->Option (List t.den)):List qB->Option qJ
 |[(.own k n,_)]=>YT F k n (qD H k)
 |_=>none
@[go_sem] def YU (base:Nat):Option TI->qB->Option qJ
 |some ⟨.list u,e,_,true,_⟩,(.nilS,_)=>some ⟨[],(.own base 0,none),[(base,.row e u [] 0)],[]⟩
 |some ⟨.list u,e,_,false,_⟩,(.nilS,_)=>some ⟨[],(.val (.list u) [],some base),[(base,.grow e u.cells 0)],[]⟩
 |_,(.nilS,_)=>none
 |_,s=>some ⟨[],s,[],[]⟩
@[go_sem] def F6:Ty->Nat->Bool
 | .list _,0=>true
 | .pair a b,o=>if o<a.cells then F6 a o else F6 b (o-a.cells)
 |_,_=>false
@[go_sem] def F7 (t:Ty):List (Nat×TypeId×Nat)->Bool
 |[]=>true
 |(o,_,_)::r=>F6 t o&&F7 t r
@[go_sem] def C8:List (Nat×TypeId×Nat)->Nat->pK
 |[],_=>[]
 |(o,_,_)::r,i=>(o,i)::C8 r (i+1)
@[go_sem] def DT:List (Nat×TypeId×Nat)->Nat->List (Nat×q9)
 |[],_=>[]
 |(_,e,c)::r,i=>qT (DT r (i+1)) [(i,.grow e c 0)]
@[go_sem] def YV (e:Nat):Bool:=if e=73 then true else if e=a9d then true else false
@[go_sem] def YW (e:Nat) (u:Ty) (o:Nat):pN->List (Nat×Nat×Ty)
 |none=>[(o,e,u)]
 |some _=>[]
@[go_sem] def F8:(t:Ty)->t.den->Nat->List (Nat×Nat×Ty)
 | .rl e u,x,o=>YW e u o x
 | .pair a b,x,o=>qT (F8 a x.1 o) (F8 b x.2 (o+a.cells))
 |_,_,_=>[]
@[go_sem] def YX (o:Nat):pN->pP
 |none=>[o]
 |some _=>[]
@[go_sem] def GB:(t:Ty)->t.den->Nat->pP
 | .mref,x,o=>YX o x
 | .pair a b,x,o=>qT (GB a x.1 o) (GB b x.2 (o+a.cells))
 |_,_,_=>[]
@[go_sem] def a9w:Nat->pP->pP
 |2,[0]=>[0]
 |_,_=>[]
@[go_sem] def TQ (el:Nat) (t:Ty) (y:t.den):pP:=if YV el=true then a9w t.cells (GB t y 0) else[]
@[go_sem] def K1 (t:Ty):Nat->List (Nat×Nat×Ty)->Option t.den->Option t.den
 |_,[],x=>x
 |i,(o,e,u)::r,some x=>K1 t (i+1) r (sQ (.rl e u) (some (i,0)) t x o)
 |_,_::_,none=>none
@[go_sem] def I1 (t:Ty) (i:Nat):pP->Option t.den->Option t.den
 |[],x=>x
 |q::r,some x=>I1 t i r (sQ .mref (some (i,q)) t x q)
 |_::_,none=>none
@[go_sem] def K2:List (Nat×Nat×Ty)->Nat->List (Nat×q9)
 |[],_=>[]
 |(_,e,u)::r,i=>qT (K2 r (i+1)) [(i,.row e u [] 0)]
@[go_sem] def P8 {α:Type}:List α->Nat
 |[]=>0
 |_::r=>P8 r+1
@[go_sem] def a9x (base:Nat) (t:Ty) (ls:List (Nat×TypeId×Nat)) (R:List (Nat×Nat×Ty)):Option t.den->Option qJ
 |some z=>some ⟨[],(.val .ref (some (base,0)),none),(base,.cells t z (C8 ls (base+1)))::qT (K2 R (base+1+P8 ls)) (DT ls (base+1)),[]⟩
 |none=>none
@[go_sem] def TR (base el:Nat) (t:Ty) (y:t.den) (ls:List (Nat×TypeId×Nat)):Bool->Option qJ
 |true=>a9x base t ls (F8 t y 0) (I1 t base (TQ el t y) (K1 t (base+1+P8 ls) (F8 t y 0) (some y)))
 |false=>none
@[go_sem] def C9 (k:Nat):List (Nat×TypeId×Nat)->List (Nat×TypeId×Nat)
 |[]=>[]
 |(o,e,c)::r=>if o+1=k then C9 k r else(o,e,c)::C9 k r
@[go_sem] def a9y (base el:Nat) (ls:List (Nat×TypeId×Nat)):(t:Ty)->t.den->pO->Option qJ
 | .pair a b,y,some k=>TR base el (.pair a b) y (C9 k ls) (F7 (.pair a b) (C9 k ls))
 | .list u,y,k=>some ⟨[],(.val .ref (some (base,0)),none),[(base,.cells (.list u) y (xZ k 0))],[]⟩
 |t,y,_=>some ⟨[],(.val .ref (some (base,0)),none),[(base,.cells t y [])],[]⟩
@[go_sem] def P9 (base el:Nat):Option TI->Option qJ
 |some ⟨.list u,e,_,_,_⟩=>some ⟨[],(.val .ref (some (base,0)),none),[(base,.cells (.list u) [] [(0,base+1)]),(base+1,.grow e u.cells 0)],[]⟩
 |some ti=>TR base el ti.ty ti.ty.zero ti.ls (F7 ti.ty ti.ls)
 |none=>none
@[go_sem] def YY (base el:Nat):Option TI->qB->Option qJ
 |some ti,(.val t y,k)=>if t=ti.ty then a9y base el ti.ls t y k else none
 |_,_=>none
@[go_sem] def YZ (base el:Nat):Option TI->qB->Option qJ
 |some ⟨.list u,e,b,a,ls⟩,(.nilS,_)=>P9 base el (some ⟨.list u,e,b,a,ls⟩)
 |ti,s=>YY base el ti (M8 ti s)
@[go_sem] def K3:Ty->Bool
 | .list _=>true
 | .pair a b=>K3 a||K3 b
 | .bool| .int _| .str| .unit| .ref| .clo| .mp| .rl _ _| .mref| .fn=>false
@[go_sem] def TS:pO->pO->pO
 |some o,some m=>if m=0 then some (o+1) else none
 |_,_=>none
@[go_sem] def Z0:Ty->Bool
 | .list _=>true
 | .pair _ _| .bool| .int _| .str| .unit| .ref| .clo| .mp| .rl _ _| .mref| .fn=>false
@[go_sem] def TT (u:Ty) (o m:pO):Bool->Bool->pO
 |false,_=>m
 |true,true=>TS o m
 |true,false=>none
@[go_sem] def AP (t:Ty):List (Nat×qB)->pO
 |[]=>some 0
 |(_,(.nilS,_))::r=>AP t r
 |(i,(.val u _,_))::r=>TT u (t.offs i) (AP t r) (K3 u) (Z0 u)
 |_=>none
@[go_sem] def Z1:Ty->pO->pO
 | .pair _ _,m=>m
 |_,_=>none
@[go_sem] def aIh (t:Ty) (k:pO):Option t.den->Option qJ
 |some x=>some ⟨[],(.val t x,k),[],[]⟩
 |none=>none
@[go_sem] def Z2 (sl:List (Nat×qB)):Option TI->Option qJ
 |some ti=>if ti.ty.isRow=true then aIh ti.ty (Z1 ti.ty (AP ti.ty sl)) (AM ti.ty (some ti.ty.zero) sl) else none
 |none=>none
@[go_sem] def TU (base e c n:Nat) (t:Ty):Option (List t.den)->Option qJ
 |some l=>if n<=16777216/\n*c<=16777216 then some ⟨[],(.val (.list t) l,some base),[(base,.grow e c n)],[]⟩ else none
 |none=>none
@[go_sem] def a9z (base e n:Nat) (t:Ty):Option (List t.den)->Option qJ
 |some l=>if t.pure=true/\n<=16777216/\n*t.cells<=16777216 then some ⟨[],(.own base n,none),[(base,.row e t l n)],[]⟩ else none
 |none=>none
@[go_sem] def Z3 (base n:Nat) (sl:List (Nat×qB)):Option TI->Option qJ
 |some ⟨.list u,e,_,true,_⟩=>if n=0 then a9z base e n u (B8 u n (some (D1 u n)) sl) else TU base e u.cells n u (B8 u n (some (D1 u n)) sl)
 |some ⟨.list u,e,_,false,_⟩=>TU base e u.cells n u (B8 u n (some (D1 u n)) sl)
 |_=>none
@[go_sem] def a9A (t:Ty) (k:pO) (i:Nat):Option t.den->Option qJ
 |some y=>some ⟨[],(.val t y,k),[],[i]⟩
 |none=>none
@[go_sem] def PA (t:Ty) (i off:Nat):Option q9->Option qJ
 |some (.cells u x toks)=>a9A t (F4 t (xO toks off)) i (r9 t u x off)
 |_=>none
@[go_sem] def a9B (u:Ty) (k n m:Nat):Option u.den->Option qJ
 |some y=>some ⟨[n=m],(.val u y,none),[],[k]⟩
 |none=>none
@[go_sem] def PB (u:Ty) (k n c:Nat) (i:Int) (o:Nat):Option q9->Option qJ
 |some (.row _ t l m)=>if c=t.cells then a9B u k n m (r9 u t (qU t l i) o) else none
 |_=>none
@[go_sem] def Z4 (i:Nat):Option pN->Option qJ
 |some (some (k,n))=>some ⟨[],(.own k n,none),[],[i]⟩
 |_=>none
@[go_sem] def TV (i off:Nat):TI->Option q9->Option qJ
 |⟨.list u,e,_,_,_⟩,some (.cells v x _)=>Z4 i (r9 (.rl e u) v x off)
 |_,_=>none
@[go_sem] def Z5:pN->pN->pN
 |some p,_=>some p
 |none,q=>q
@[go_sem] def BB:(t:Ty)->t.den->pN
 | .rl _ _,x=>x
 | .pair a b,x=>Z5 (BB a x.1) (BB b x.2)
 |_,_=>none
@[go_sem] def Z6 (u0:Ty) (l:List u0.den) (u:Ty):pN->Option (Σ t:Ty,t.den)
 |some _=>if u=u0 then some ⟨.list u0,l⟩ else none
 |none=>none
@[go_sem] def K4 (a b:Ty) (x:a.den) (y:b.den):pN->Option (Σ t:Ty,t.den)->Option (Σ t:Ty,t.den)->Option (Σ t:Ty,t.den)
 |some _,some ⟨a',x'⟩,_=>some ⟨.pair a' b,(x',y)⟩
 |some _,none,_=>none
 |none,_,some ⟨b',y'⟩=>some ⟨.pair a b',(x,y')⟩
 |none,_,none=>none
@[go_sem] def zL (u0:Ty) (l:List u0.den):(t:Ty)->t.den->Option (Σ t:Ty,t.den)
 | .rl _ u,x=>Z6 u0 l u x
 | .pair a b,x=>K4 a b x.1 x.2 (BB a x.1) (zL u0 l a x.1) (zL u0 l b x.2)
 |_,_=>none
@[go_sem] def Z7 (t:Ty) (i k:Nat) (sd:Prop) (e:TypeId) (c n:Nat) (v:Ty) (x:v.den):Option t.den->Option qJ
 |some y=>some ⟨[sd],(.val t y,none),[(i,.cells v x []),(k,.grow e c n)],[1000000000,i,k]⟩
 |none=>none
@[go_sem] def Z8 (t:Ty) (i off k:Nat) (sd:Prop) (e:TypeId) (c n:Nat):Option (Σ t:Ty,t.den)->Option qJ
 |some ⟨v,x⟩=>Z7 t i k sd e c n v x (r9 t v x off)
 |none=>none
@[go_sem] def TW (t:Ty) (i off k n0:Nat) (v:Ty) (x:v.den):Option q9->Option qJ
 |some (.row e u0 l m)=>Z8 t i off k (n0=m) e u0.cells (List.length l) (zL u0 l v x)
 |_=>none
@[go_sem] def TX (H:List (Nat×q9)) (t:Ty) (i off:Nat) (v:Ty) (x:v.den):pN->Option qJ
 |some (k,n0)=>TW t i off k n0 v x (qD H k)
 |none=>none
@[go_sem] def I2 (H:List (Nat×q9)) (t:Ty) (i off:Nat):Option q9->Option qJ
 |some (.cells v x _)=>TX H t i off v x (BB v x)
 |_=>none
@[go_sem] def orS (H:List (Nat×q9)) (t:Ty) (i off:Nat) (b:Option q9):Option qJ->Option qJ
 |some r=>some r
 |none=>I2 H t i off b
@[go_sem] def TY (H:List (Nat×q9)):Option TI->qB->Option qJ
 |some ti,(.elt k n c i o,_)=>PB ti.ty k n c i o (qD H k)
 |some ti,(.at u x,_)=>if u=ti.ty then some ⟨[],(.val u x,none),[],[]⟩ else none
 |some ti,(.val .ref (some (i,off)),_)=>orS H ti.ty i off (qD H i) (orE (PA ti.ty i off (qD H i)) (TV i off ti (qD H i)))
 |_,_=>none
@[go_sem] def TZ (u:Ty) (i:Nat) (toks:pK):Option u.den->Option qJ
 |some z=>some ⟨[],(.any,none),[(i,.cells u z toks)],[i]⟩
 |none=>none
@[go_sem] def U0 (t:Ty) (y:t.den) (k:pO) (i off:Nat):Option q9->Option qJ
 |some (.cells u x toks)=>TZ u i (qT (xZ (F4 t k) off) (vW toks off t.cells)) (sQ t y u x off)
 |_=>none
@[go_sem] def MF (off:Nat):pK->pK
 |[]=>[]
 |(o,k)::r=>(off+o,k)::MF off r
@[go_sem] def a9D (u:Ty) (i:Nat) (nt toks:pK) (bs:List (Nat×q9)):Option u.den->Option qJ
 |some z=>some ⟨[],(.any,none),(i,.cells u z (qT nt toks))::qT bs [(i,.cells u z toks)],[i]⟩
 |none=>none
@[go_sem] def U1 (t:Ty) (y:t.den) (ls:List (Nat×TypeId×Nat)) (base i off:Nat):Option q9->Bool->Option qJ
 |some (.cells u x toks),true=>a9D u i (MF off (C8 ls base)) (vW toks off t.cells) (DT ls base) (sQ t y u x off)
 |_,_=>none
@[go_sem] def U2 (base i off:Nat) (b:Option q9):List (Nat×TypeId×Nat)->(t:Ty)->t.den->pO->Option qJ
 |q::r,.pair a c,y,some k=>U1 (.pair a c) y (C9 k (q::r)) base i off b (F7 (.pair a c) (C9 k (q::r)))
 |_,t,y,k=>U0 t y k i off b
@[go_sem] def a9E (k n m:Nat) (e:TypeId) (t:Ty) (l:List t.den) (i:Int):Option t.den->Option qJ
 |some z=>some ⟨[n=m],(.any,none),[(k,.row e t (l.set i.toNat z) m)],[k]⟩
 |none=>none
@[go_sem] def U3 (u:Ty) (y:u.den) (k n c:Nat) (i:Int) (o:Nat):Option q9->Option qJ
 |some (.row e t l m)=>if c=t.cells then a9E k n m e t l i (sQ u y t (qU t l i) o) else none
 |_=>none
@[go_sem] def Z9 (b:Ty) (y:b.den):Option (Σ t:Ty,t.den)->Option (Σ t:Ty,t.den)
 |some ⟨a,x⟩=>some ⟨.pair a b,(x,y)⟩
 |none=>none
@[go_sem] def ZA (a:Ty) (x:a.den):Option (Σ t:Ty,t.den)->Option (Σ t:Ty,t.den)
 |some ⟨b,y⟩=>some ⟨.pair a b,(x,y)⟩
 |none=>none
@[go_sem] def yG (e:Nat) (u:Ty) (kn:pN):(t:Ty)->t.den->Nat->Option (Σ t:Ty,t.den)
 | .list v,_,0=>if v=u then some ⟨.rl e u,kn⟩ else none
 | .pair a b,x,o=>if o<a.cells then Z9 b x.2 (yG e u kn a x.1 o) else ZA a x.1 (yG e u kn b x.2 (o-a.cells))
 |_,_,_=>none
@[go_sem] def ZB (i:Nat):Option (Σ t:Ty,t.den)->Option qJ
 |some ⟨v,z⟩=>some ⟨[],(.any,none),[(i,.cells v z [])],[1000000000,i]⟩
 |none=>none
@[go_sem] def orO (i off k n e:Nat) (u v:Ty) (x:v.den):Option qJ->Option qJ
 |some r=>some r
 |none=>ZB i (yG e u (some (k,n)) v x off)
@[go_sem] def ZC (i off k n:Nat):TI->Option q9->Option qJ
 |⟨.list u,e,_,_,_⟩,some (.cells v x toks)=>orO i off k n e u v x (TZ v i (vW toks off 1) (sQ (.rl e u) (some (k,n)) v x off))
 |_,_=>none
@[go_sem] def U4 (base:Nat) (H:List (Nat×q9)):Option TI->qB->qB->Option qJ
 |some ti,(.val .ref (some (i,off)),_),(.own k n,_)=>ZC i off k n ti (qD H i)
 |some ti,(.elt k n c i o,_),(.val t y,_)=>if t=ti.ty then U3 t y k n c i o (qD H k) else none
 |some ti,(.val .ref (some (i,off)),_),(.val t y,k)=>if t=ti.ty then U2 base i off (qD H i) ti.ls t y k else none
 |_,_,_=>none
@[go_sem] def ZD:qB->Option qJ
 |(.val .ref (some p),_)=>some ⟨[],(.val .ref (some p),none),[],[]⟩
 |(.at t x,_)=>some ⟨[],(.at t x,none),[],[]⟩
 |(.elt k n c i o,_)=>some ⟨[],(.elt k n c i o,none),[],[]⟩
 |_=>none
@[go_sem] def a9G (f:FuncId):Option pK->Option qJ
 |some l=>some ⟨[],(.val .clo (some (f,l)),none),[],[]⟩
 |none=>none
@[go_sem] def aIi (f:FuncId) (l:Option pK):List Operand->Option qJ
 |[]=>a9G f l
 |_=>none
@[go_sem] def U5 (side:List Prop):Option (Σ t:Ty,t.den)->Option qJ
 |some ⟨t,x⟩=>if 0<t.cells then some ⟨side,(.at t x,none),[],[]⟩ else none
 |none=>none
@[go_sem] def U6 (side:List Prop) (i off:Nat):pO->Option Ty->Option qJ
 |some o,some u=>if 0<u.cells then some ⟨side,(.val .ref (some (i,off+o)),none),[],[]⟩ else none
 |_,_=>none
@[go_sem] def a9H (k n c:Nat) (i:Int) (o:Nat):pO->Option Ty->Option qJ
 |some q,some u=>if 0<u.cells then some ⟨[],(.elt k n c i (o+q),none),[],[]⟩ else none
 |_,_=>none
@[go_sem] def ZE (f:Nat):Option TI->qB->Option qJ
 |some ⟨t,_,_,false,_⟩,(.elt k n c i o,_)=>a9H k n c i o (t.offs f) (t.fld f)
 |some ⟨t,_,_,false,_⟩,(.at u y,_)=>if u=t then U5 [] (u.proj y f) else none
 |some ⟨t,_,_,false,_⟩,(.val .ref (some (i,off)),_)=>U6 [] i off (t.offs f) (t.fld f)
 |_,_=>none
@[go_sem] def aIj:Option (Σ t:Ty,t.den)->Option qJ
 |some ⟨t,x⟩=>some ⟨[],(.val t x,none),[],[]⟩
 |none=>none
@[go_sem] def ZF (f:Nat):Option TI->qB->Option qJ
 |some ⟨t,_,_,false,_⟩,(.val u y,_)=>if u=t then aIj (u.proj y f) else none
 |_,_=>none
@[go_sem] def ZG:Option TI->qB->qB->Option qJ
 |some ⟨.list t',_,_,_,_⟩,(.own k n,_),(.val (.int _) i,_)=>if 0<t'.cells then some ⟨[0<=i/\i<(n:Int)],(.elt k n t'.cells i 0,none),[],[]⟩ else none
 |some ⟨.list t',_,_,_,_⟩,(.val (.list t) l,_),(.val (.int _) i,_)=>if t=t' then some ⟨[0<=i/\i<(List.length l:Int)],(.at t (qU t l i),none),[],[]⟩ else none
 |some ⟨.pair a b,_,_,true,_⟩,(.val .ref (some (i,off)),_),(.val (.int _) n,_)=>U6 [(0:Int)<=n] i off ((Ty.pair a b).offs (Int.toNat n)) ((Ty.pair a b).fld (Int.toNat n))
 |some ⟨.pair a b,_,_,true,_⟩,(.at u x,_),(.val (.int _) n,_)=>if u= .pair a b then U5 [(0:Int)<=n] (u.proj x (Int.toNat n)) else none
 |_,_,_=>none
@[go_sem] def ZH:Option TI->qB->qB->Option qJ
 |some ⟨.str,_,_,_,_⟩,(.val .str l,_),(.val (.int _) i,_)=>some ⟨[0<=i/\i<(List.length l:Int)],(.val (.int .u8) (tM l i),none),[],[]⟩
 |_,_,_=>none
@[go_sem] def aIk (e:Nat) (u:Ty):pN->qB
 |some (k,n)=>(.own k n,none)
 |none=>(.val (.rl e u) none,none)
@[go_sem] def aIl:(t:Ty)->t.den->pO->qB
 | .rl e u,x,_=>aIk e u x
 | .bool,x,k=>(.val .bool x,k)
 | .int i,x,k=>(.val (.int i) x,k)
 | .str,x,k=>(.val .str x,k)
 | .list u,x,k=>(.val (.list u) x,k)
 | .unit,x,k=>(.val .unit x,k)
 | .pair a b,x,k=>(.val (.pair a b) x,k)
 | .ref,x,k=>(.val .ref x,k)
 | .clo,x,k=>(.val .clo x,k)
 | .mp,x,k=>(.val .mp x,k)
 | .mref,x,k=>(.val .mref x,k)
 | .fn,x,k=>(.val .fn x,k)
@[go_sem] def U7:List ((Σ t:Ty,t.den)×pO)->Nat->Option qJ
 |[],_=>none
 |(⟨t,x⟩,k)::_,0=>some ⟨[],aIl t x k,[],[]⟩
 |_::r,n+1=>U7 r n
@[go_sem] def a9I (b:Bool) (p c:Int):Nat->Option qJ
 |0=>some ⟨[],(.val .bool b,none),[],[]⟩
 |1=>some ⟨[b=true],(.val (.int .i64) p,none),[],[]⟩
 |2=>some ⟨[b=true],(.val (.int .i32) c,none),[],[]⟩
 |_=>none
@[go_sem] def ZI (i:Nat):qB->Option qJ
 |(.tup l,_)=>U7 l i
 |(.nxt b p c,_)=>a9I b p c i
 |_=>none
@[go_sem] def U8 (i:Nat):Option q9->Option qJ
 |some (.map _ _ l)=>some ⟨[],(.val (.int .i64) (List.length l:Int),none),[],[i]⟩
 |_=>none
@[go_sem] def ZJ (H:List (Nat×q9)):Option TI->List qB->Option qJ
 |some ⟨.mp,_,_,_,_⟩,[(.val .mp (some i),_)]=>U8 i (qD H i)
 |some ⟨.str,_,_,_,_⟩,[(.val .str l,_)]=>some ⟨[],(.val (.int .i64) (List.length l:Int),none),[],[]⟩
 |some ⟨.list _,_,_,_,_⟩,[(.val (.list _) l,_)]=>some ⟨[],(.val (.int .i64) (List.length l:Int),none),[],[]⟩
 |some ⟨.list _,_,_,_,_⟩,[(.own _ n,_)]=>some ⟨[],(.val (.int .i64) (n:Int),none),[],[]⟩
 |_,_=>none
@[go_sem] def U9 (a:Ty) (l r:List a.den) (k e' by':Nat):Option q9->Option qJ
 |some (.grow e c n)=>if e=e'/\c=a.cells/\0<c/\0<by' then some ⟨[List.length l=n,(List.length l+List.length r)*by'<=140737488355328],(.val (.list a) (l++r),some k),[(k,.grow e c (List.length (l++r)))],[k]⟩ else none
 |_=>none
@[go_sem] def UA (b:Ty) (r:List b.den) (k n e' by':Nat):Option q9->Option qJ
 |some (.row e t l m)=>if h:b=t then(if e=e'/\0<t.cells/\0<by' then some ⟨[n=m,(n+List.length r)*by'<=140737488355328],(.own k (List.length (l++uY (t:= .list b) (u:= .list t) (by rw[h]) r)),none),[(k,.row e t (l++uY (t:= .list b) (u:= .list t) (by rw[h]) r) (List.length (l++uY (t:= .list b) (u:= .list t) (by rw[h]) r)))],[k]⟩ else none) else none
 |_=>none
@[go_sem] def UB (H:List (Nat×q9)):Option TI->List qB->Option qJ
 |some ⟨.list u,e,by',_,_⟩,[(.own k n,_),(.val (.list b) r,_)]=>if b=u then UA b r k n e by' (qD H k) else none
 |some ⟨.list u,e,by',_,_⟩,[(.val (.list a) l,some k),(.val (.list b) r,_)]=>if h:b=a/\a=u then U9 a l (uY (t:= .list b) (u:= .list a) (by rw[h.1]) r) k e by' (qD H k) else none
 |_,_=>none
@[go_sem] def UC (mx:Bool):List qB->Option (List Prop×DV)
 |[(.val (.int k) a,_),(.val (.int k') b,_)]=>if k=k' then some ([],.val (.int k) (if mx then max (a:Int) b else min (a:Int) b)) else none
 |_=>none
@[go_sem] def ZK:pK->List qB
 |[]=>[]
 |c::r=>(.val .ref (some c),none)::ZK r
@[go_sem] def UD (H:List (Nat×q9)) (base:Nat) (args:List qB) (g:qW):Option ((t:Ty)->List t.den->Option (List t.den))->Option qJ
 |some F=>TP H F args
 |none=>a9u H base args g (P5 g.ps args)
@[go_sem] def K5 (H:List (Nat×q9)) (base:Nat) (args:List qB):Option qW->Option qJ
 |some g=>UD H base args g g.row
 |none=>none
@[go_sem] def PC (Γ:tW) (f:Nat):Option qW:=if f<1000000000 then Γ f else none
@[go_sem] def MG (Γ:tW) (H:List (Nat×q9)) (base:Nat) (args:List qB):qB->Option qJ
 |(.val .clo (some (f,caps)),_)=>K5 H base (args++ZK caps) (PC Γ f)
 |(.val .fn (some f),_)=>K5 H base args (PC Γ f)
 |_=>none
@[go_sem] def GC (T:sK) (ρ:Operand->qB):List Operand->List TypeId->List qB
 |x::xs,t::ts=>M8 (rK T t) (ρ x)::GC T ρ xs ts
 |_,_=>[]
@[go_sem] def vX (ρ:Operand->qB):List Operand->List qB
 |[]=>[]
 |x::xs=>ρ x::vX ρ xs
@[go_sem] def uZ (ρ:Operand->qB):List (Nat×Operand)->List (Nat×qB)
 |[]=>[]
 |(i,x)::xs=>(i,ρ x)::uZ ρ xs
@[go_sem] def zM (ρ:Operand->qB):Option Operand->Option qB
 |some x=>some (ρ x)
 |none=>none
@[go_sem] def UE (T:sK) (H:List (Nat×q9)) (ss:List qB):List TypeId->Option qJ
 |t::_=>ZJ H (rK T t) ss
 |[]=>none
@[go_sem] def UF (l:pL) (s:pC) (k e':Nat):Option q9->Option qJ
 |some (.grow e c n)=>if e=e'/\c=1 then some ⟨[List.length l=n,List.length l+List.length s<=140737488355328],(.val (.list (.int .u8)) (l++uR s),some k),[(k,.grow e c (List.length (l++uR s)))],[k]⟩ else none
 |_=>none
@[go_sem] def ZL (H:List (Nat×q9)):Option TI->Option TI->List qB->Option qJ
 |some ⟨.list (.int .u8),e,1,_,_⟩,some ⟨.str,_,_,_,_⟩,[(.val (.list (.int .u8)) l,some k),(.val .str s,_)]=>UF l s k e (qD H k)
 |_,_,_=>none
@[go_sem] def UG (T:sK) (H:List (Nat×q9)) (ss:List qB):List TypeId->Option qJ
 |[t,u]=>if t=u then UB H (rK T t) ss else ZL H (rK T t) (rK T u) ss
 |_=>none
@[go_sem] def K6:List Operand->List TypeId->Bool
 |[],[]=>true
 |_::xs,_::ts=>K6 xs ts
 |_,_=>false
@[go_sem] def ZM (T:sK) (Γ:tW) (ρ:Operand->qB) (base:Nat) (H:List (Nat×q9)) (args:List Operand) (tys:List TypeId) (f:qB):Bool->Option qJ
 |true=>MG Γ H base (GC T ρ args tys) f
 |false=>none
@[go_sem] def K7 (T:sK) (Γ:tW) (ρ:Operand->qB) (base:Nat) (H:List (Nat×q9)) (args:Array Operand) (tys:Array TypeId):Callee->Option qJ
 | .builtin .len=>UE T H (vX ρ args.toList) tys.toList
 | .builtin .append=>UG T H (vX ρ args.toList) tys.toList
 | .builtin .max=>AL (UC true (vX ρ args.toList))
 | .builtin .min=>AL (UC false (vX ρ args.toList))
 | .value f=>ZM T Γ ρ base H args.toList tys.toList (ρ f) (K6 args.toList tys.toList)
 |_=>none
@[go_sem] def DU:Ty->Bool
 | .int _| .str| .bool=>true
 |_=>false
def GD:(k:Ty)->k.den->k.den->Bool
 | .int _,a,b=>decide ((a:Int)=b)
 | .str,a,b=>decide ((a:pC)=b)
 | .bool,a,b=>a==b
 |_,_,_=>false
def rV (k v:Ty):List (k.den×v.den)->k.den->v.den
 |[],_=>v.zero
 |(x,y)::r,a=>if GD k a x=true then y else rV k v r a
def vK (k v:Ty):List (k.den×v.den)->k.den->Bool
 |[],_=>false
 |(x,_)::r,a=>if GD k a x=true then true else vK k v r a
def tJ (k v:Ty) (a:k.den) (b:v.den):List (k.den×v.den)->List (k.den×v.den)
 |[]=>[(a,b)]
 |(x,y)::r=>if GD k a x=true then(a,b)::r else(x,y)::tJ k v a b r
@[go_sem] def a9J (base:Nat):Option TI->Option TI->Option qJ
 |some k,some v=>if DU k.ty=true then some ⟨[],(.val .mp (some base),none),[(base,.map k.ty v.ty [])],[]⟩ else none
 |_,_=>none
@[go_sem] def ZN (T:sK) (base:Nat):Option TI->Option Operand->Option qJ
 |some ⟨.mp,e,f,_,_⟩,none=>a9J base (rK T e) (rK T f)
 |_,_=>none
@[go_sem] def UH (k:Ty) (a:k.den) (u:Ty) (i:Nat) (ok:Bool):Option q9->Option qJ
 |some (.map k' v l)=>if h:k=k'/\v=u then(if DU k=true then(match ok with
   |true=>some ⟨[],(.tup [(⟨v,rV k' v l (uY h.1 a)⟩,none),(⟨.bool,vK k' v l (uY h.1 a)⟩,none)],none),[],[i]⟩
   |false=>some ⟨[],(.val v (rV k' v l (uY h.1 a)),none),[],[i]⟩) else none) else none
 |_=>none
@[go_sem] def ZO (H:List (Nat×q9)) (ok:Bool) (i:Nat):Option TI->Option TI->qB->Option qJ
 |some kt,some vt,(.val k a,_)=>if k=kt.ty then UH k a vt.ty i ok (qD H i) else none
 |_,_,_=>none
@[go_sem] def a9K (ok:Bool):Option TI->Option TI->qB->Option qJ
 |some kt,some vt,(.val k _,_)=>if k=kt.ty then(if DU k=true then(match ok with
   |true=>some ⟨[],(.tup [(⟨vt.ty,vt.ty.zero⟩,none),(⟨.bool,false⟩,none)],none),[],[]⟩
   |false=>some ⟨[],(.val vt.ty vt.ty.zero,none),[],[]⟩) else none) else none
 |_,_,_=>none
@[go_sem] def UI (T:sK) (H:List (Nat×q9)) (ok:Bool):Option TI->qB->qB->Option qJ
 |some ⟨.mp,e,f,_,_⟩,(.val .mp (some i),_),s=>ZO H ok i (rK T e) (rK T f) s
 |some ⟨.mp,e,f,_,_⟩,(.val .mp none,_),s=>a9K ok (rK T e) (rK T f) s
 |_,_,_=>none
@[go_sem] def MH (k:Ty) (a:k.den) (u:Ty) (b:u.den) (i:Nat):Option q9->Option qJ
 |some (.map k' v l)=>if h:k=k'/\u=v then(if DU k=true then some ⟨[],(.any,none),[(i,.map k' v (tJ k' v (uY h.1 a) (uY h.2 b) l))],[i]⟩ else none) else none
 |_=>none
@[go_sem] def UJ (H:List (Nat×q9)) (i:Nat):Option TI->qB->qB->Option qJ
 |some kt,(.val k a,_),(.val u b,_)=>if k=kt.ty then MH k a u b i (qD H i) else none
 |_,_,_=>none
@[go_sem] def a9L:Option TI->qB->qB
 |some ⟨.fn,_,_,_,_⟩,(.val .clo (some (f,[])),_)=>(.val .fn (some f),none)
 |_,s=>s
@[go_sem] def UK (T:sK):Option TI->qB->qB
 |some ⟨.mp,_,f,_,_⟩,s=>a9L (rK T f) s
 |_,s=>s
@[go_sem] def MI (T:sK) (H:List (Nat×q9)):Option TI->qB->qB->qB->Option qJ
 |some ⟨.mp,e,_,_,_⟩,(.val .mp (some i),_),s,x=>UJ H i (rK T e) s x
 |_,_,_,_=>none
def xP (s:pC) (p:Nat):Int:=((Utf8.decode ⟨s.toArray⟩ p).1:Int)
def ZP (s:pC) (p:Nat):Nat:=(Utf8.decode ⟨s.toArray⟩ p).2
def AQ (s:pC) (p:Nat):Nat:=if p<s.length then p+ZP s p else p
@[go_sem] def ZQ (base:Nat):Option TI->qB->Option qJ
 |some ⟨.str,_,_,_,_⟩,(.val .str s,_)=>some ⟨[],(.val .ref (some (base,0)),none),[(base,.iter s 0)],[]⟩
 |_,_=>none
@[go_sem] def ZR (i:Nat):Option q9->Option qJ
 |some (.iter s p)=>some ⟨[],(.nxt (decide (p<List.length s)) ((p:Nat):Int) (xP s p),none),[(i,.iter s (AQ s p))],[i]⟩
 |_=>none
@[go_sem] def UL (H:List (Nat×q9)):Bool->qB->Option qJ
 |true,(.val .ref (some (i,0)),_)=>ZR i (qD H i)
 |_,_=>none
@[go_sem] def v6 (T:sK) (Γ:tW) (ty:TypeId) (ρ:Operand->qB) (base:Nat) (H:List (Nat×q9)):Op->Option qJ
 | .move x| .assign x=>YU base (rK T ty) (ρ x)
 | .alloc e=>P9 base e (rK T e)
 | .box e x=>YZ base e (rK T e) (ρ x)
 | .build t ps=>Z2 (uZ ρ ps.toList) (rK T t)
 | .buildSlice t n ps=>Z3 base n (uZ ρ ps.toList) (rK T t)
 | .load t a=>TY H (rK T t) (ρ a)
 | .store t a x=>U4 base H (rK T t) (ρ a) (M8 (rK T t) (ρ x))
 | .nilCheck x=>ZD (ρ x)
 | .binOp op t x y _=>AL (YL (T9 op (rK T t) (ρ x) (ρ y)) (YL (T8 op (ρ x) (ρ y)) (YK (rK T t) op (ρ x) (ρ y))))
 | .unOp op _ x=>AL (YM op (ρ x))
 | .convert src dst x=>AL (YL (TB (rK T src) (rK T dst) (ρ x)) (YN T (rK T src) (rK T dst) (ρ x)))
 | .makeFunc (.func f) first caps=>aIi f (JU (vX ρ caps.toList)) first.toList
 | .slice t x lo hi none=>AL (YO (rK T t) (ρ x) (zM ρ lo) (zM ρ hi))
 | .fieldAddr t x f=>ZE f (rK T t) (ρ x)
 | .field t x f=>ZF f (rK T t) (ρ x)
 | .indexAddr t x ix=>ZG (rK T t) (ρ x) (ρ ix)
 | .index t x ix=>ZH (rK T t) (ρ x) (ρ ix)
 | .extract x i=>ZI i (ρ x)
 | .makeMap t r=>ZN T base (rK T t) r
 | .range t x=>ZQ base (rK T t) (ρ x)
 | .next x b=>UL H b (ρ x)
 | .lookup t x i ok=>UI T H ok (rK T t) (ρ x) (ρ i)
 | .mapUpdate t m k x=>MI T H (rK T t) (ρ m) (ρ k) (UK T (rK T t) (ρ x))
 | .insert t m k x=>MI T H (rK T t) (ρ m) (ρ k) (UK T (rK T t) (ρ x))
 | .call c=>K7 T Γ ρ base H c.args c.argTypes c.callee
 |_=>none
@[go_sem] def y6:qB->qB
 |(.cond _ d,_)=>(d,none)
 |s=>s
@[go_sem] def zB (G:Bool):List qB->List Prop
 |[]=>[]
 |(.cond p _,_)::r=>(G=true->p=true)::zB G r
 |_::r=>zB G r
@[go_sem] def a9M (b:Bool):qB->Option Bool
 |(.val .bool c,_)=>some (c==b)
 |(.cond p (.val .bool c),_)=>some (p&&(c==b))
 |_=>none
@[go_sem] def A4:List Oper->Nat->Option Tmp
 |[],_=>none
 |o::_,0=>o.dst
 |_::r,n+1=>A4 r n
@[go_sem] def GE (env:List (Nat×qB)) (b:Bool):Option Tmp->Option Bool
 |some t=>a9M b (lk env t)
 |none=>none
@[go_sem] def a9N (b:Bool):qB->Bool
 |(.val .bool c,_)=>c==b
 |(.cond p (.val .bool c),_)=>p&&(c==b)
 |(.cond p .any,_)=>p
 |_=>true
@[go_sem] def K8 (env:List (Nat×qB)) (b:Bool):Option Tmp->Bool
 |some t=>a9N b (lk env t)
 |none=>true
@[go_sem] def UM (j:Nat) (b:Bool):Nat:=1000000000+(2*j+if b=true then 1 else 0)
@[go_sem] theorem aPy (x y:Bool):cond x y false=(x&&y):=by cases x<;>rfl
@[go_sem] theorem aPz (x y:Bool):cond x true y=(x||y):=by cases x<;>rfl
@[go_sem] def a9O (x:Bool):qB->qB->Option qJ
 |(.val .bool y,_),(.val .bool z,_)=>some ⟨[],(.val .bool (cond x y z),none),[],[]⟩
 |(.cond p (.val .bool y),_),(.val .bool z,_)=>some ⟨[x=true->p=true],(.val .bool (cond x y z),none),[],[]⟩
 |(.val .bool y,_),(.cond p (.val .bool z),_)=>some ⟨[x=false->p=true],(.val .bool (cond x y z),none),[],[]⟩
 |(.cond q (.val .bool y),_),(.cond p (.val .bool z),_)=>some ⟨[x=true->q=true,x=false->p=true],(.val .bool (cond x y z),none),[],[]⟩
 |(.val .bool y,_),(.cond _ .any,_)=>some ⟨[x=true],(.val .bool y,none),[],[]⟩
 |(.cond q (.val .bool y),_),(.cond _ .any,_)=>some ⟨[x=true,q=true],(.val .bool y,none),[],[]⟩
 |(.cond _ .any,_),(.val .bool z,_)=>some ⟨[x=false],(.val .bool z,none),[],[]⟩
 |(.cond _ .any,_),(.cond p (.val .bool z),_)=>some ⟨[x=false,p=true],(.val .bool z,none),[],[]⟩
 |_,_=>none
@[go_sem] def PD:qB->qB->qB->Option qJ
 |(.val .bool x,_),a,b=>a9O x a b
 |_,_,_=>none
@[go_sem] def sI:Op->List Operand
 | .move x| .assign x| .box _ x| .load _ x| .nilCheck x| .unOp _ _ x| .convert _ _ x| .fieldAddr _ x _| .field _ x _| .extract x _=>[x]
 | .build _ ps| .buildSlice _ _ ps=>parts ps.toList
 | .store _ a v| .binOp _ _ a v _| .indexAddr _ a v| .index _ a v=>[a,v]
 | .lookup _ a v _=>[a,v]
 | .range _ x| .next x _=>[x]
 | .mapUpdate _ m k x=>[m,k,x]
 | .insert _ m k x=>[m,k,x]
 | .makeFunc _ _ caps=>caps.toList
 | .slice _ x l h _=>x::qT (opt l) (opt h)
 | .call ⟨.value f,args,_⟩=>f::args.toList
 | .call ⟨_,args,_⟩=>args.toList
 |_=>[]
where
 parts:List (Nat×Operand)->List Operand
  |[]=>[]
  |(_,x)::r=>x::parts r
 opt:Option Operand->List Operand
  |some x=>[x]
  |none=>[]
attribute [go_sem] sI.parts sI.opt
@[go_sem] def MJ (l:List Prop):Option qJ->Option qJ
 |some e=>some ⟨qT l e.side,e.slot,e.upd,e.rds⟩
 |none=>none
@[go_sem] def PE (G:Bool):List Prop->List Prop
 |[]=>[]
 |p::r=>(G=true->p)::PE G r
@[go_sem] def I3 (G:Bool) (l:List Prop):Option qJ->Option qJ
 |some ⟨side,(d,_),[],rds⟩=>some ⟨qT l (PE G side),(.cond G d,none),[],rds⟩
 |some ⟨side,s,u::us,rds⟩=>some ⟨(G=true)::qT l (PE G side),s,u::us,rds⟩
 |none=>none
@[go_sem] def CA (env:List (Nat×qB)):List Operand->List qB
 |[]=>[]
 |x::r=>uF env x::CA env r
@[go_sem] def MK (T:sK) (Γ:tW) (o:Oper) (s:St):Option Bool->Op->Option qJ
 |some G,.pick c a b=>I3 G (zB G [uF s.env c]) (PD (y6 (uF s.env c)) (uF s.env a) (uF s.env b))
 |some G,op=>I3 G (zB G (CA s.env (sI op))) (v6 T Γ o.type (fun x=>y6 (uF s.env x)) s.nb s.H op)
 |none,_=>none
@[go_sem] def a9P:Op->Bool
 | .defer _=>true
 |_=>false
@[go_sem] def a9Q (up:Bool):Bool->Option qJ
 |true=>none
 |false=>some ⟨[up=false],(.cond false .any,none),[],[]⟩
@[go_sem] def PF (T:sK) (Γ:tW) (o:Oper) (s:St) (up:Bool) (g:Option Bool) (op:Op):Option qW->Option qJ
 |some _=>a9Q up (a9P op)
 |none=>MK T Γ o s g op
@[go_sem] def ML (T:sK) (Γ:tW) (o:Oper) (s:St):Op->Option qJ
 | .pick c a b=>PD (uF s.env c) (uF s.env a) (uF s.env b)
 |op=>MJ (zB true (CA s.env (sI op))) (v6 T Γ o.type (fun x=>y6 (uF s.env x)) s.nb s.H op)
@[go_sem] def I4 (np:Nat):List (Nat×q9)->Bool
 |[]=>true
 |(i,.cells _ _ _)::r=>if np<=i then I4 np r else false
 |_::r=>I4 np r
@[go_sem] def a9R (np:Nat) (e:qJ):Bool->Option qJ
 |true=>if I4 np e.upd=true then some e else none
 |false=>some e
@[go_sem] def ZS (np:Nat):Option qJ->Option qJ
 |some e=>a9R np e (HX e.rds)
 |none=>none
@[go_sem] def MM (T:sK) (Γ:tW) (ops:List Oper) (o:Oper) (s:St):Option qJ:=
 match o.guard with
 |none=>ML T Γ o s o.op
 |some (j,b)=>PF T Γ o s (K8 s.env b (A4 ops j)) (GE s.env b (A4 ops j)) o.op (Γ (UM j b))
@[go_sem] def yH (T:sK) (Γ:tW) (ops:List Oper) (o:Oper) (s:St):Option qJ:=ZS s.np (MM T Γ ops o s)
@[go_sem] def tN:Option Tmp->qB->List (Nat×qB)->List (Nat×qB)
 |some d,s,env=>(d,s)::env
 |none,_,env=>env
structure vH where
 s:St
 side:List Prop
 es:List qJ
@[go_sem] def I5 (N:Nat):Option Tmp->Bool
 |some d=>decide (d<N)
 |none=>true
@[go_sem] def I7 (n:Nat):List (Nat×q9)->Bool
 |[]=>true
 |(i,_)::r=>decide (i<n)&&I7 n r
@[go_sem] def CB (i:Nat):pP->Bool
 |[]=>false
 |j::r=>if j=i then C1 i r else CB i r
@[go_sem] def K9 (H U:List (Nat×q9)) (rds:pP):List (Nat×q9)->List Prop
 |[]=>[]
 |(i,_)::r=>if CB i rds=true then(qD U i=qD H i)::K9 H U rds r else K9 H U rds r
@[go_sem] def I8 (rds:pP):List (Nat×q9)->List (Nat×q9)
 |[]=>[]
 |(i,b)::r=>if CB i rds=true then I8 rds r else(i,b)::I8 rds r
@[go_sem] def wJ (e:qJ):List (Nat×q9):=I8 e.rds e.upd
@[go_sem] def UN (o:Oper) (a:vH):Option qJ->Option vH
 |some e=>if (I5 a.s.N o.dst&&I7 (a.s.nb+32) e.upd)=true then some ⟨⟨tN o.dst e.slot a.s.env,qT e.upd a.s.H,a.s.nb+32,a.s.N,a.s.np⟩,qT a.side (qT (K9 a.s.H e.upd e.rds e.upd) e.side),e::a.es⟩ else none
 |none=>none
@[go_sem] def uS (T:sK) (Γ:tW) (ops:List Oper):List Oper->Option vH->Option vH
 |[],a=>a
 |o::r,some a=>uS T Γ ops r (UN o a (yH T Γ ops o a.s))
 |_::_,none=>none
@[go_sem] def PG:List (Nat×q9)->pP->Bool
 |[],_=>false
 |(i,_)::r,l=>l.contains i||PG r l
@[go_sem] def A5 (a b:qJ):Bool:= !PG (wJ a) (qT b.rds (qE b.upd))&& !PG (wJ b) a.rds
def DW (lo:Nat):List (Nat×q9)->Bool
 |[]=>true
 |(i,_)::r=>(decide (i<lo)||decide (lo+32<=i))&&DW lo r
def UO (ops:Array Oper) (bs:pP) (nb i:Nat) (o:Oper) (e:qJ):List Oper->List qJ->Nat->Bool
 |p::ps,f::fs,j=>((bs.getD j 0).testBit i||(o.apart ops p&&A5 e f&&DW (nb+32*i) f.upd))&&UO ops bs nb i o e ps fs (j+1)
 |_,_,_=>true
def UP (ops:Array Oper) (bs:pP) (nb:Nat):List Oper->List qJ->Nat->Bool
 |o::os,e::es,i=>UO ops bs nb i o e os es (i+1)&&UP ops bs nb os es (i+1)
 |_,_,_=>true
def PH:List Oper->Nat->Bool
 |[],_=>true
 |o::r,i=>o.after.toList.all (fun e=> !Region.binds .any e||decide (e.on<i))&&PH r (i+1)
def F9 (ops:Array Oper) (nb:Nat) (es:List qJ):Bool:=PH ops.toList 0&&UP ops (Region.before ops).toList nb ops.toList es 0
@[go_sem] def a9S (ops:Array Oper) (nb:Nat):Option vH->Option vH
 |some a=>if F9 ops nb a.es.reverse then some a else none
 |none=>none
@[go_sem] def PI (T:sK) (Γ:tW) (ops:Array Oper) (s:St):Bool->Option vH
 |true=>a9S ops s.nb (uS T Γ ops.toList ops.toList (some ⟨s,[],[]⟩))
 |false=>uS T Γ ops.toList ops.toList (some ⟨s,[],[]⟩)
inductive Ex where
 |normal|exit (id:Nat) |ret
structure wK where
 slots:pP
 ids:pK:=[]
@[go_sem] def xG:pK->Nat->pO
 |[],_=>none
 |(n,o)::r,k=>if o=k then some n else xG r k
@[go_sem] def a9T (m:pK):pN->pN
 |some (i,o)=>(xG m i).map fun j=>(j,o)
 |none=>none
@[go_sem] def CC (m:pK):pK->Option pK
 |[]=>some []
 |(i,o)::r=>renCons (xG m i) o (CC m r)
where
 renCons:pO->Nat->Option pK->Option pK
  |some j,o,some r=>some ((j,o)::r)
  |_,_,_=>none
attribute [go_sem] CC.renCons
@[go_sem] def a9U (m:pK):pO->pO
 |some k=>xG m k
 |none=>none
@[go_sem] def aIm (n:Nat):pO->qB
 |some k=>(.own k n,none)
 |none=>(.any,none)
@[go_sem] def a9V (m:pK):Option (Nat×pK)->Option (Option (Nat×pK))
 |none=>some none
 |some (f,l)=>(CC m l).map fun l'=>some (f,l')
@[go_sem] def UQ (m:pK):pN->Option pN
 |none=>some none
 |some (i,o)=>(xG m i).map fun j=>some (j,o)
@[go_sem] def a9W (m:pK):pO->Option pO
 |none=>some none
 |some i=>(xG m i).map some
@[go_sem] def a9X (m:pK):pN->Option pN
 |none=>some none
 |some (k,n)=>(xG m k).map fun j=>some (j,n)
@[go_sem] def zN (m:pK):(t:Ty)->t.den->Option t.den
 | .ref,x=>UQ m x
 | .clo,x=>a9V m x
 | .mp,x=>a9W m x
 | .pair a b,x=>JX (if a.pure=true then some x.1 else zN m a x.1) (if b.pure=true then some x.2 else zN m b x.2)
 | .list t,x=>if t.pure=true then some x else none
 | .bool,x=>some x
 | .int _,x=>some x
 | .str,x=>some x
 | .unit,x=>some x
 | .rl _ _,x=>a9X m x
 | .fn,x=>some x
 | .mref,x=>UQ m x
@[go_sem] def A6 (m:pK):qB->qB
 |(.own k n,_)=>aIm n (xG m k)
 |(.val .ref none,_)=>(.val .ref none,none)
 |(.val .ref (some p),_)=>refSlot (a9T m (some p))
 |(.val .clo (some (f,l)),_)=>cloSlot f (CC m l)
 |(.val .mp (some i),_)=>mpSlot (xG m i)
 |(.val t x,k)=>if t.pure then(.val t x,a9U m (F4 t k)) else valSlot t (zN m t x)
 |(.at t x,_)=>if t.pure then(.at t x,none) else(.any,none)
 |(.nilS,_)=>(.nilS,none)
 |_=>(.any,none)
where
 refSlot:pN->qB
  |some p=>(.val .ref (some p),none)
  |none=>(.any,none)
 cloSlot (f:Nat):Option pK->qB
  |some l=>(.val .clo (some (f,l)),none)
  |none=>(.any,none)
 valSlot (t:Ty):Option t.den->qB
  |some y=>(.val t y,none)
  |none=>(.any,none)
 mpSlot:pO->qB
  |some j=>(.val .mp (some j),none)
  |none=>(.any,none)
attribute [go_sem] A6.refSlot A6.cloSlot A6.mpSlot A6.valSlot
@[go_sem] def UR (q j:Nat):pK->pK
 |[]=>[(q,j)]
 |(a,b)::r=>if q<=a then(q,j)::(a,b)::r else(a,b)::UR q j r
@[go_sem] def KA (m:pK):pK->pK
 |[]=>[]
 |(q,k)::r=>renTok1 q (xG m k) (KA m r)
where
 renTok1 (q:Nat):pO->pK->pK
  |some j,r=>UR q j r
  |none,r=>r
attribute [go_sem] KA.renTok1
@[go_sem] def ZT (t:Ty) (toks:pK):Option t.den->q9
 |some y=> .cells t y toks
 |none=> .dead
@[go_sem] def I9 (m:pK):Option q9->q9
 |some (.cells t x toks)=>if t.pure then .cells t x (KA m toks) else ZT t (KA m toks) (zN m t x)
 |some (.grow e c n)=> .grow e c n
 |some (.row e t l n)=>if t.pure then .row e t l n else .dead
 |some (.map k v l)=>if k.pure&&v.pure then .map k v l else .dead
 |some (.iter s p)=> .iter s p
 |_=> .dead
@[go_sem] def PJ (m:pK) (env:List (Nat×qB)):pP->List (Nat×qB)
 |[]=>[]
 |t::r=>(t,A6 m (lk env t))::PJ m env r
@[go_sem] def US (m:pK) (H:List (Nat×q9)):pK->List (Nat×q9)
 |[]=>[]
 |(n,o)::r=>(n,I9 m (qD H o))::US m H r
@[go_sem] def UT:pK->Nat
 |[]=>0
 |(n,_)::r=>max (n+1) (UT r)
@[go_sem] def MN (n o:Nat):pK->Bool
 |[]=>false
 |(n',o')::r=>decide (n'=n)||decide (o'=o)||MN n o r
@[go_sem] def xQ (np:Nat):pK->Bool
 |[]=>true
 |(n,o)::r=>(decide (np<=n)||decide (n=o))&& !MN n o r&&xQ np r
@[go_sem] def PL (s:St) (k:wK):Bool->St
 |true=>⟨PJ k.ids s.env k.slots,US k.ids s.H k.ids,max s.np (UT k.ids),s.N,s.np⟩
 |false=>⟨[],[],s.nb,s.N,s.np⟩
@[go_sem] def St.keep (s:St) (k:wK):St:=PL s k (xQ s.np k.ids)
@[go_sem] def r7:List Prop->Prop
 |[]=>True
 |[p]=>p
 |p::q::r=>p/\r7 (q::r)
@[go_sem] def a9Y (Q:Ex->St->Prop):Option vH->Prop
 |some a=>r7 a.side/\Q .normal a.s
 |none=>False
@[go_sem] def a9Z (A B:Prop):qB->Prop
 |(.val .bool x,_)=>(x=true->A)/\(x=false->B)
 |(.flag p q,_)=>(p->A)/\(q->B)
 |_=>False
@[go_sem] def PM (f:St->Prop) (Q:Ex->St->Prop):Ex->St->Prop
 | .normal,s=>f s
 | .exit j,s=>Q (.exit j) s
 | .ret,s=>Q .ret s
@[go_sem] def IA (id:Nat) (Q:Ex->St->Prop):Ex->St->Prop
 | .normal,s=>Q .normal s
 | .exit j,s=>if j=id then Q .normal s else Q (.exit j) s
 | .ret,s=>Q .ret s
@[go_sem] def aIn (I:St->Prop) (μ:St->Nat) (m:Nat) (Q:Ex->St->Prop):Ex->St->Prop
 | .normal,s=> ∃k:wK,I (s.keep k)/\μ (s.keep k)<m
 | .exit j,s=>Q (.exit j) s
 | .ret,s=>Q .ret s
def wT (T:sK) (Γ:tW):Code->St->(Ex->St->Prop)->Prop
 | .skip,s,Q=>Q .normal s
 | .label _,s,Q=>Q .normal s
 | .region _ ops draw,s,Q=>a9Y Q (PI T Γ ops s draw)
 | .seq a b,s,Q=>wT T Γ a s (PM (fun s'=>wT T Γ b s' Q) Q)
 | .cond c a b,s,Q=>a9Z (wT T Γ a s Q) (wT T Γ b s Q) (uF s.env c)
 | .block id c,s,Q=>wT T Γ c s (IA id Q)
 | .loop c,s,Q=> ∃(k:wK) (I:St->Prop) (μ:St->Nat),I (s.keep k)/\∀s,I s->wT T Γ c s (aIn I μ (μ s) Q)
 | .exit id,s,Q=>Q (.exit id) s
 | .ret,s,Q=>Q .ret s
 |_,_,_=>False
attribute [go_sem] Ty.list.injEq Ty.pair.injEq Ty.int.injEq
section
variable {T:sK}{Γ:tW}{s:St}{Q:Ex->St->Prop}
theorem aIo {id:Nat}{ops:Array Oper}{a:vH}(h:uS T Γ ops.toList ops.toList (some ⟨s,[],[]⟩)=some a) (hp:r7 a.side) (hq:Q .normal a.s):wT T Γ (.region id ops false) s Q:=by
 unfold wT PI;rw[h];exact⟨hp,hq⟩
theorem aIp {id:Nat}{ops:Array Oper}{a:vH}(h:uS T Γ ops.toList ops.toList (some ⟨s,[],[]⟩)=some a) (hf:F9 ops s.nb a.es.reverse=true) (hp:r7 a.side) (hq:Q .normal a.s):wT T Γ (.region id ops true) s Q:=by
 unfold wT PI;rw[h];show a9Y Q (if F9 ops s.nb a.es.reverse=true then some a else none);rw[aRf hf];exact⟨hp,hq⟩
end
end Go.Proofs.YtkpflnijijccpaaGreatDoor.Vc
namespace Go.Proofs.YtkpflnijijccpaaGreatDoor.Vc
open Go.RowKit
abbrev s7:=List (Nat×q9)
structure Pl where
 b:Nat
 o:Nat
 k:Option (TypeId×Nat):=none
structure Gh where
 S:Nat->Nat->Prop
 J:Nat->Option Pl
 cur:Nat->Nat->Option pR
def yV {α:Type}(R:α->pM->Prop) (w:pQ) (S:Nat->Nat->Prop) (c b:Nat):Nat->List α->Prop
 |_,[]=>True
 |o,x::xs=>(∃cs,cs.length=c/\w.rangeAt b o cs/\(∀j,j<c->S b (o+j))/\R x cs)/\yV R w S c b (o+c) xs
def yI (g:Gh):pK->pM->Prop
 |[],vs=>vs=[]
 |(i,o)::l,vs=> ∃p vs',g.J i=some p/\vs= .pointer (some ⟨p.1,p.2+o,none⟩)::vs'/\yI g l vs'
def PN (g:Gh):pN->pM->Prop
 |none,cs=>cs=[.pointer none]
 |some (i,o),cs=> ∃p,g.J i=some p/\cs=[.pointer (some ⟨p.1,p.2+o,none⟩)]
def PO (g:Gh):Option (Nat×pK)->pM->Prop
 |none,cs=>cs=[.nilFunc]
 |some (f,l),cs=> ∃vs,yI g l vs/\cs=[.func (.func f) #[] vs.toArray]
def KB (g:Gh):pO->pM->Prop
 |none,cs=>cs=[.map none]
 |some i,cs=> ∃p,g.J i=some p/\cs=[.map (some p.1)]
def ZU (k:Option (TypeId×Nat)) (o:Nat):Prop:=o=0/\∃e,YV e=true/\k=some (e,2)
def FA (g:Gh):pN->pM->Prop
 |none,cs=>cs=[.slice none 0 0]
 |some (k,n),cs=> ∃v,g.cur k n=some v/\cs=[v]/\((v= .slice none 0 0/\n=0)\/∃b cap,v= .slice (some ⟨b,0,none⟩) n cap/\n<=cap)
def PP (g:Gh):pN->pM->Prop
 |none,cs=>cs=[.pointer none]
 |some (i,o),cs=> ∃p,g.J i=some p/\ZU p.3 (p.2+o)/\(cs=[.pointer none]\/cs=[.pointer (some ⟨p.1,p.2+o,none⟩)])
def a90:pO->pM->Prop
 |none,cs=>cs=[.nilFunc]
 |some f,cs=>cs=[.func (.func f) #[] #[]]
def Rd (g:Gh) (w:pQ):(t:Ty)->t.den->pM->Prop
 | .bool,x,cs=>cs=[.bool x]
 | .int k,n,cs=>cs=[.int k n]
 | .str,l,cs=>cs=[.string ⟨List.toArray l⟩]
 | .list t,l,cs=> ∃a cap,cs=[.slice a (List.length l) cap]/\List.length l<=cap/\(l=[]\/∃b o,a=some ⟨b,o,none⟩/\yV (Rd g w t) w g.S t.cells b o l)
 | .unit,_,cs=>cs=[]
 | .pair s t,x,cs=> ∃c1 c2,cs=c1++c2/\Rd g w s x.1 c1/\Rd g w t x.2 c2
 | .ref,x,cs=>PN g x cs
 | .clo,x,cs=>PO g x cs
 | .mp,x,cs=>KB g x cs
 | .rl _ _,x,cs=>FA g x cs
 | .fn,x,cs=>a90 x cs
 | .mref,x,cs=>PP g x cs
def tO (g:Gh) (w:pQ) (t:Ty) (x:t.den) (v:pR):Prop:=
 (t.isRow=true/\∃cs:pM,v= .agg cs.toArray/\Rd g w t x cs)\/(t.isRow=false/\Rd g w t x [v])
def y7 (k:Nat):Ty->Nat->pM->Prop
 | .list _,o,cs=>o+1=k\/cs=[.slice none 0 0]
 | .pair a b,o,cs=> ∃c1 c2,cs=c1++c2/\c1.length=a.cells/\y7 k a o c1/\y7 k b (o+a.cells) c2
 |_,_,_=>True
def D3 (g:Gh) (t:Ty) (x:t.den) (v:pR):pO->Prop
 |none=>True
 |some k=>match t,x with
  | .list _,l=>g.cur k (List.length l)=some v
  | .pair a b,_=>y7 k (.pair a b) 0 v.cells.toList
  |_,_=>False
def MO (g:Gh) (w:pQ):List ((Σ t:Ty,t.den)×pO)->pM->Prop
 |[],vs=>vs=[]
 |(⟨t,x⟩,k)::l,vs=> ∃v vs',vs=v::vs'/\tO g w t x v/\D3 g t x v k/\MO g w l vs'
def A7 (g:Gh) (w:pQ):DV->pR->Prop
 | .any,_=>True
 | .nilS,v=>v= .slice none 0 0
 | .val t x,v=>tO g w t x v
 | .at t x,v=> ∃b o cs,v= .pointer (some ⟨b,o,none⟩)/\w.rangeAt b o cs/\(∀j,j<t.cells->g.S b (o+j))/\Rd g w t x cs
 | .tup l,v=> ∃vs:pM,v= .tuple vs.toArray/\MO g w l vs
 | .cond p d,v=>(p=true->A7 g w d v)/\(p=false->v=undef)
 | .flag p q,v=> ∃b,v= .bool b/\(b=true->p)/\(b=false->q)
 | .own k n,v=>g.cur k n=some v/\((v= .slice none 0 0/\n=0)\/∃b cap,v= .slice (some ⟨b,0,none⟩) n cap/\n<=cap)
 | .nxt b p c,v=>(b=true->v= .tuple #[.bool true,.int .i64 p,.int .i32 c])/\(b=false->v= .tuple #[.bool false])
 | .elt k n c i o,v=> ∃b cap,g.cur k n=some (.slice (some ⟨b,0,none⟩) n cap)/\0<=i/\i<(n:Int)/\v= .pointer (some ⟨b,i.toNat*c+o,none⟩)
def rH (g:Gh) (w:pQ) (s:qB) (v:pR):Prop:=
 A7 g w s.1 v/\match s with
  |(_,none)=>True
  |(.val t x,some k)=>D3 g t x v (some k)
  |(_,some _)=>False
structure Le (g:Gh) (w:pQ) (g':Gh) (w':pQ):Prop where
 S: ∀b o,g.S b o->g'.S b o
 cell: ∀b o,g.S b o->w'.cell? ⟨b,o,none⟩=w.cell? ⟨b,o,none⟩
 J: ∀i p,g.J i=some p->g'.J i=some p
 cur: ∀k n v,g.cur k n=some v->g'.cur k n=some v
theorem Le.refl (g:Gh) (w:pQ):Le g w g w:=⟨fun _ _ h=>h,fun _ _ _=>rfl,fun _ _ h=>h,fun _ _ _ h=>h⟩
theorem Le.trans {g g' g'':Gh}{w w' w'':pQ}(h:Le g w g' w') (k:Le g' w' g'' w''):Le g w g'' w'':=
 ⟨fun b o x=>k.S b o (h.S b o x),fun b o x=>(k.cell b o (h.S b o x)).trans (h.cell b o x),fun i p x=>k.J i p (h.J i p x),fun i n v x=>k.cur i n v (h.cur i n v x)⟩
theorem ZV {g g':Gh}(hJ: ∀i p,g.J i=some p->g'.J i=some p): ∀{l:pK}{vs:pM},yI g l vs->yI g' l vs
 |[],_,h=>h
 |(_,_)::_,_,⟨p,vs',h1,h2,h3⟩=>⟨p,vs',hJ _ _ h1,h2,ZV hJ h3⟩
theorem aIq {g g':Gh}(hJ: ∀i p,g.J i=some p->g'.J i=some p): ∀{x:pN}{cs:pM},PN g x cs->PN g' x cs
 |none,_,h=>h
 |some (_,_),_,⟨p,h1,h2⟩=>⟨p,hJ _ _ h1,h2⟩
theorem aIr {g g':Gh}(hJ: ∀i p,g.J i=some p->g'.J i=some p): ∀{x:Option (Nat×pK)}{cs:pM},PO g x cs->PO g' x cs
 |none,_,h=>h
 |some (_,_),_,⟨vs,h1,h2⟩=>⟨vs,ZV hJ h1,h2⟩
theorem aIs {g g':Gh}(hJ: ∀i p,g.J i=some p->g'.J i=some p): ∀{x:pO}{cs:pM},KB g x cs->KB g' x cs
 |none,_,h=>h
 |some _,_,⟨p,h1,h2⟩=>⟨p,hJ _ _ h1,h2⟩
theorem aIt {g g':Gh}(hc: ∀k n v,g.cur k n=some v->g'.cur k n=some v): ∀{x:pN}{cs:pM},FA g x cs->FA g' x cs
 |none,_,h=>h
 |some (_,_),_,⟨v,h1,h2⟩=>⟨v,hc _ _ _ h1,h2⟩
theorem aIu {g g':Gh}(hJ: ∀i p,g.J i=some p->g'.J i=some p): ∀{x:pN}{cs:pM},PP g x cs->PP g' x cs
 |none,_,h=>h
 |some (_,_),_,⟨p,h1,h2⟩=>⟨p,hJ _ _ h1,h2⟩
theorem ZW {α:Type}{R R':α->pM->Prop}{w w':pQ}{S S':Nat->Nat->Prop}{c b:Nat}(hR: ∀x cs,R x cs->R' x cs) (hS: ∀o,S b o->S' b o)
  (hc: ∀o,S b o->w'.cell? ⟨b,o,none⟩=w.cell? ⟨b,o,none⟩): ∀{l:List α}{o:Nat},yV R w S c b o l->yV R' w' S' c b o l
 |[],_,_=>trivial
 |_::_,o,⟨⟨cs,h1,h2,h3,h4⟩,h5⟩=>⟨⟨cs,h1,fun j v hv=>by
   have hj:j<c:=h1▸(aRs.1 hv).1;rw[hc _ (h3 j hj)];exact h2 j v hv,fun j hj=>hS _ (h3 j hj),hR _ _ h4⟩,ZW hR hS hc h5⟩
theorem xR {g g':Gh}{w w':pQ}(h:Le g w g' w'): ∀{t:Ty}{x:t.den}{cs:pM},Rd g w t x cs->Rd g' w' t x cs
 | .bool,_,_,r=>r
 | .int _,_,_,r=>r
 | .str,_,_,r=>r
 | .unit,_,_,r=>r
 | .ref,_,_,r=>aIq h.J r
 | .clo,_,_,r=>aIr h.J r
 | .mp,_,_,r=>aIs h.J r
 | .rl _ _,_,_,r=>aIt h.cur r
 | .fn,_,_,r=>r
 | .mref,_,_,r=>aIu h.J r
 | .pair _ _,_,_,⟨c1,c2,e,r1,r2⟩=>⟨c1,c2,e,xR h r1,xR h r2⟩
 | .list _,_,_,⟨a,cap,e,hle,hl⟩=>⟨a,cap,e,hle,hl.imp id fun⟨b,o,ea,hr⟩=>⟨b,o,ea,ZW (fun _ _=>xR h) (fun _=>h.S _ _) (fun _=>h.cell _ _) hr⟩⟩
theorem sR {g:Gh}{w:pQ}: ∀{t:Ty}{x:t.den}{cs:pM},Rd g w t x cs->cs.length=t.cells
 | .bool,_,_,r=>by cases r;rfl
 | .int _,_,_,r=>by cases r;rfl
 | .str,_,_,r=>by cases r;rfl
 | .unit,_,_,r=>by cases r;rfl
 | .ref,none,_,r=>by cases r;rfl
 | .ref,some (_,_),_,⟨_,_,e⟩=>by cases e;rfl
 | .clo,none,_,r=>by cases r;rfl
 | .clo,some (_,_),_,⟨_,_,e⟩=>by cases e;rfl
 | .mp,none,_,r=>by cases r;rfl
 | .mp,some _,_,⟨_,_,e⟩=>by cases e;rfl
 | .fn,none,_,r=>by cases r;rfl
 | .fn,some _,_,r=>by cases r;rfl
 | .rl _ _,none,_,r=>by cases r;rfl
 | .rl _ _,some (_,_),_,⟨_,_,e,_⟩=>by cases e;rfl
 | .mref,none,_,r=>by cases r;rfl
 | .mref,some (_,_),_,⟨_,_,_,e⟩=>by rcases e with e|e<;>(cases e;rfl)
 | .pair _ _,_,_,⟨c1,c2,e,r1,r2⟩=>by rw[e,aRg,sR r1,sR r2];rfl
 | .list _,_,_,⟨_,_,e,_,_⟩=>by cases e;rfl
theorem UU {g g':Gh}{w w':pQ}(h:Le g w g' w') {t:Ty}{x:t.den}{v:pR}(r:tO g w t x v):tO g' w' t x v:=
 r.imp (fun⟨a,cs,e,q⟩=>⟨a,cs,e,xR h q⟩) (fun⟨a,q⟩=>⟨a,xR h q⟩)
theorem a91 {g g':Gh}{w w':pQ}(h:Le g w g' w') {t:Ty}{x:t.den}{v:pR}{k:pO}(r:D3 g t x v k):D3 g' t x v k:=by
 cases k with
 |none=>trivial
 |some k=>
  cases t with
  |list u=>exact h.cur _ _ _ r
  |pair a b=>exact r
  |_=>exact r.elim
theorem a92 {g g':Gh}{w w':pQ}(h:Le g w g' w'): ∀{l:List ((Σ t:Ty,t.den)×pO)}{vs:pM},MO g w l vs->MO g' w' l vs
 |[],_,r=>r
 |(⟨_,_⟩,_)::_,_,⟨v,vs',e,r1,r2,r3⟩=>⟨v,vs',e,UU h r1,a91 h r2,a92 h r3⟩
theorem a93 {g g':Gh}{w w':pQ}(h:Le g w g' w'): ∀{d:DV}{v:pR},A7 g w d v->A7 g' w' d v
 | .any,_,r=>r
 | .nilS,_,r=>r
 | .val _ _,_,r=>UU h r
 | .at t _,_,⟨b,o,cs,e,h1,h2,h3⟩=>⟨b,o,cs,e,fun j v hv=>by
   by_cases hj:j<t.cells
   .rw[h.cell _ _ (h2 j hj)];exact h1 j v hv
   .exact absurd (aRs.1 hv).1 (by rw[sR h3];exact hj),fun j hj=>h.S _ _ (h2 j hj),xR h h3⟩
 | .tup _,_,⟨vs,e,r⟩=>⟨vs,e,a92 h r⟩
 | .cond _ _,_,⟨r1,r2⟩=>⟨fun p=>a93 h (r1 p),r2⟩
 | .flag _ _,_,r=>r
 | .own _ _,_,⟨h1,h2⟩=>⟨h.cur _ _ _ h1,h2⟩
 | .nxt _ _ _,_,r=>r
 | .elt _ _ _ _ _,_,⟨b,cap,h1,h2⟩=>⟨b,cap,h.cur _ _ _ h1,h2⟩
theorem BC {g g':Gh}{w w':pQ}(h:Le g w g' w') {s:qB}{v:pR}(r:rH g w s v):rH g' w' s v:=by
 obtain⟨d,k⟩:=s;refine⟨a93 h r.1,?_⟩;have r2:=r.2;cases k with
 |none=>trivial
 |some k=>
  cases d with
  |val t x=>exact a91 h r2
  |_=>exact r2.elim
theorem AR {g:Gh}{w:pQ}: ∀{t:Ty}{x:t.den}{cs:pM},Rd g w t x cs->∀v∈cs,v.oneCell'=true
 | .bool,_,_,r=>by cases r;intro v hv;simp at hv;subst hv;rfl
 | .int _,_,_,r=>by cases r;intro v hv;simp at hv;subst hv;rfl
 | .str,_,_,r=>by cases r;intro v hv;simp at hv;subst hv;rfl
 | .unit,_,_,r=>by cases r;intro v hv;simp at hv
 | .ref,none,_,r=>by cases r;intro v hv;simp at hv;subst hv;rfl
 | .ref,some (_,_),_,⟨_,_,e⟩=>by cases e;intro v hv;simp at hv;subst hv;rfl
 | .clo,none,_,r=>by cases r;intro v hv;simp at hv;subst hv;rfl
 | .clo,some (_,_),_,⟨_,_,e⟩=>by cases e;intro v hv;simp at hv;subst hv;rfl
 | .mp,none,_,r=>by cases r;intro v hv;simp at hv;subst hv;rfl
 | .mp,some _,_,⟨_,_,e⟩=>by cases e;intro v hv;simp at hv;subst hv;rfl
 | .fn,none,_,r=>by cases r;intro v hv;simp at hv;subst hv;rfl
 | .fn,some _,_,r=>by cases r;intro v hv;simp at hv;subst hv;rfl
 | .rl _ _,none,_,r=>by cases r;intro v hv;simp at hv;subst hv;rfl
 | .rl _ _,some (_,_),_,⟨_,_,e,hs⟩=>by
  cases e;intro v hv;simp at hv;subst hv;rcases hs with⟨rfl,_⟩ |⟨_,_,rfl,_⟩<;>rfl
 | .mref,none,_,r=>by cases r;intro v hv;simp at hv;subst hv;rfl
 | .mref,some (_,_),_,⟨_,_,_,e⟩=>by rcases e with e|e<;>(cases e;intro v hv;simp at hv;subst hv;rfl)
 | .pair _ _,_,_,⟨c1,c2,e,r1,r2⟩=>by
  subst e;intro v hv;rcases aR2.1 hv with h|h
  .exact AR r1 v h
  .exact AR r2 v h
 | .list _,_,_,⟨_,_,e,_,_⟩=>by cases e;intro v hv;simp at hv;subst hv;rfl
theorem wC {g g':Gh}{w:pQ}(hS:g'.S=g.S): ∀{t:Ty}{x:t.den}{cs:pM},t.pure=true->Rd g w t x cs->Rd g' w t x cs
 | .bool,_,_,_,r=>r
 | .int _,_,_,_,r=>r
 | .str,_,_,_,r=>r
 | .unit,_,_,_,r=>r
 | .ref,_,_,h,_=>by simp [Ty.pure] at h
 | .clo,_,_,h,_=>by simp [Ty.pure] at h
 | .mp,_,_,h,_=>by simp [Ty.pure] at h
 | .rl _ _,_,_,h,_=>by simp [Ty.pure] at h
 | .fn,_,_,_,r=>r
 | .mref,_,_,h,_=>by simp [Ty.pure] at h
 | .pair _ _,_,_,h,⟨c1,c2,e,r1,r2⟩=>by
  simp only[Ty.pure,aRw] at h;exact⟨c1,c2,e,wC hS h.1 r1,wC hS h.2 r2⟩
 | .list _,_,_,h,⟨a,cap,e,hle,hl⟩=>by
  simp only[Ty.pure] at h;exact⟨a,cap,e,hle,hl.imp id fun⟨b,o,ea,hr⟩=>⟨b,o,ea,ZW (fun _ _ r=>wC hS h r) (fun _ q=>by rw[hS];exact q) (fun _ _=>rfl) hr⟩⟩
def DX (g:Gh) (w:pQ) (k v:Ty):List (k.den×v.den)->List MapEntry->Prop
 |[],es=>es=[]
 |(a,b)::l,es=> ∃e es',es=e::es'/\tO g w k a e.key/\tO g w v b e.val/\DX g w k v l es'
theorem ZX {g g':Gh}{w w':pQ}(h:Le g w g' w') {k v:Ty}: ∀{l:List (k.den×v.den)}{es:List MapEntry},DX g w k v l es->DX g' w' k v l es
 |[],_,r=>r
 |_::_,_,⟨e,es',h1,h2,h3,h4⟩=>⟨e,es',h1,UU h h2,UU h h3,ZX h h4⟩
theorem a94 {g g':Gh}{w:pQ}(hS:g'.S=g.S) {t:Ty}{x:t.den}{v:pR}(hp:t.pure=true) (r:tO g w t x v):tO g' w t x v:=
 r.imp (fun⟨a,cs,e,q⟩=>⟨a,cs,e,wC hS hp q⟩) (fun⟨a,q⟩=>⟨a,wC hS hp q⟩)
theorem PQ {g g':Gh}{w:pQ}(hS:g'.S=g.S) {k v:Ty}(hk:k.pure=true) (hv:v.pure=true): ∀{l:List (k.den×v.den)}{es:List MapEntry},DX g w k v l es->DX g' w k v l es
 |[],_,r=>r
 |_::_,_,⟨e,es',h1,h2,h3,h4⟩=>⟨e,es',h1,a94 hS hk h2,a94 hS hv h3,PQ hS hk hv h4⟩
def tX {α:Type}(R:α->pM->Prop) (c:Nat):List α->pM->Prop
 |[],cs=>cs=[]
 |x::xs,cs=> ∃c1 c2,cs=c1++c2/\c1.length=c/\R x c1/\tX R c xs c2
theorem IB {α:Type}{R:α->pM->Prop}{c:Nat}: ∀{l:List α}{cs:pM},tX R c l cs->cs.length=l.length*c
 |[],_,h=>by rw[h];simp
 |_::l,_,⟨c1,c2,e,h1,_,h3⟩=>by rw[e,aRg,h1,IB h3,aRj,aSm];omega
theorem PR {α:Type}{R:α->pM->Prop}{c:Nat}: ∀{l m:List α}{cs ds:pM},tX R c l cs->tX R c m ds->tX R c (l++m) (cs++ds)
 |[],_,_,_,h,k=>by rw[h];exact k
 |_::_,_,_,_,⟨c1,c2,e,h1,h2,h3⟩,k=>⟨c1,c2++_,by rw[e,aRl],h1,h2,PR h3 k⟩
theorem D4 {α:Type}{R R':α->pM->Prop}{c:Nat}(hR: ∀x cs,R x cs->R' x cs): ∀{l:List α}{cs:pM},tX R c l cs->tX R' c l cs
 |[],_,h=>h
 |_::_,_,⟨c1,c2,e,h1,h2,h3⟩=>⟨c1,c2,e,h1,hR _ _ h2,D4 hR h3⟩
theorem DY {g:Gh}{w:pQ}{u:Ty}: ∀{t:Ty}{x:t.den}{cs:pM}{o:Nat}{y:u.den},Rd g w t x cs->r9 u t x o=some y->
  ∃c1 c2 c3,cs=c1++c2++c3/\c1.length=o/\Rd g w u y c2:=by
 intro t
 induction t with
 |pair a b iha ihb=>
  intro x cs o y r h;obtain⟨c1,c2,e,r1,r2⟩:=r;have key: ∀o,(if o<a.cells then r9 u a x.1 o else r9 u b x.2 (o-a.cells))=some y->∃d1 d2 d3,cs=d1++d2++d3/\d1.length=o/\Rd g w u y d2:=by
   intro o h;by_cases ho:o<a.cells
   .rw[aRf ho] at h;obtain⟨d1,d2,d3,e',hl,hr⟩:=iha r1 h;exact⟨d1,d2,d3++c2,by rw[e,e'];simp,hl,hr⟩
   .rw[aRk ho] at h;obtain⟨d1,d2,d3,e',hl,hr⟩:=ihb r2 h;refine⟨c1++d1,d2,d3,by rw[e,e'];simp,?_,hr⟩;rw[aRg,hl,sR r1];omega
  cases o with
  |zero=>
   unfold r9 at h;by_cases hu:Ty.pair a b=u
   .rw[aTj hu] at h;subst hu;simp only[uY,aRd] at h;subst h;exact⟨[],cs,[],by simp,rfl,⟨c1,c2,e,r1,r2⟩⟩
   .rw[aSY hu] at h;refine key 0 ?_;simpa using h
  |succ o=>exact key (o+1) (by simpa[r9] using h)
 |_=>
  intro x cs o y r h;cases o with
  |zero=>
   unfold r9 at h;split at h
   .rename_i hu;subst hu;simp only[uY,aRd] at h
    try subst h
    exact⟨[],cs,[],by simp,rfl,r⟩
   .simp at h
  |succ o=>simp [r9] at h
theorem UV {g:Gh}{w:pQ}{u:Ty}{y:u.den}{cy:pM}(hy:Rd g w u y cy): ∀{t:Ty}{x z:t.den}{cs:pM}{o:Nat},Rd g w t x cs->sQ u y t x o=some z->
  ∃c1 c2 c3,cs=c1++c2++c3/\c1.length=o/\c2.length=u.cells/\Rd g w t z (c1++cy++c3):=by
 intro t
 induction t with
 |pair a b iha ihb=>
  intro x z cs o r h;obtain⟨c1,c2,e,r1,r2⟩:=r;have key: ∀o,(if o<a.cells then(sQ u y a x.1 o).map (fun q=>(q,x.2)) else(sQ u y b x.2 (o-a.cells)).map (fun q=>(x.1,q)))=some z->
    ∃d1 d2 d3,cs=d1++d2++d3/\d1.length=o/\d2.length=u.cells/\Rd g w (.pair a b) z (d1++cy++d3):=by
   intro o h;by_cases ho:o<a.cells
   .rw[aRf ho] at h;obtain⟨q,hq,rfl⟩:=aRn.1 h;obtain⟨d1,d2,d3,e',hl,hl2,hr⟩:=iha r1 hq;exact⟨d1,d2,d3++c2,by rw[e,e'];simp,hl,hl2,⟨d1++cy++d3,c2,by simp,hr,r2⟩⟩
   .rw[aRk ho] at h;obtain⟨q,hq,rfl⟩:=aRn.1 h;obtain⟨d1,d2,d3,e',hl,hl2,hr⟩:=ihb r2 hq;refine⟨c1++d1,d2,d3,by rw[e,e'];simp,?_,hl2,⟨c1,d1++cy++d3,by simp,r1,hr⟩⟩;rw[aRg,hl,sR r1];omega
  cases o with
  |zero=>
   unfold sQ at h;by_cases hu:u=Ty.pair a b
   .rw[aTj hu] at h;subst hu;simp only[uY,aRd] at h;subst h;exact⟨[],cs,[],by simp,rfl,sR (t:= .pair a b) (x:=x) ⟨c1,c2,e,r1,r2⟩,by simpa using hy⟩
   .rw[aSY hu] at h;refine key 0 ?_;simpa using h
  |succ o=>exact key (o+1) (by simpa[sQ] using h)
 |_=>
  intro x z cs o r h;cases o with
  |zero=>
   unfold sQ at h;split at h
   .rename_i hu;subst hu;simp only[uY,aRd] at h
    try subst h
    exact⟨[],cs,[],by simp,rfl,sR r,by simpa using hy⟩
   .simp at h
  |succ o=>simp [sQ] at h
theorem aIv {e:Nat}{u:Ty}{kn:pN}: ∀{t:Ty}{x:t.den}{o:Nat}{q: Σ t:Ty,t.den},yG e u kn t x o=some q->q.1.cells=t.cells:=by
 intro t
 induction t with
 |pair a b iha ihb=>
  intro x o q h;unfold yG at h;split at h
  .cases hq:yG e u kn a x.1 o with
   |none=>rw[hq] at h;cases h
   |some r=>
    obtain⟨a',x'⟩:=r;rw[hq] at h;simp only[Z9,aRd] at h;subst h;have:=iha hq;simp only[Ty.cells] at this|-;omega
  .cases hq:yG e u kn b x.2 (o-a.cells) with
   |none=>rw[hq] at h;cases h
   |some r=>
    obtain⟨b',y'⟩:=r;rw[hq] at h;simp only[ZA,aRd] at h;subst h;have:=ihb hq;simp only[Ty.cells] at this|-;omega
 |list v=>
  intro x o q h;cases o with
  |zero=>
   simp only[yG] at h;split at h
   .simp only[aRd] at h;subst h;rfl
   .cases h
  |succ o=>simp [yG] at h
 |_=>intro x o q h;cases o<;>simp [yG] at h
theorem aIw {g:Gh}{w:pQ}{e:Nat}{u:Ty}{kn:pN}{cy:pM}(hy:FA g kn cy): ∀{t:Ty}{x:t.den}{cs:pM}{o:Nat}{q: Σ t:Ty,t.den},Rd g w t x cs->yG e u kn t x o=some q->
  ∃c1 c2 c3,cs=c1++c2++c3/\c1.length=o/\c2.length=1/\Rd g w q.1 q.2 (c1++cy++c3):=by
 intro t
 induction t with
 |pair a b iha ihb=>
  intro x cs o q r h;obtain⟨c1,c2,e1,r1,r2⟩:=r;unfold yG at h;split at h
  .cases hq:yG e u kn a x.1 o with
   |none=>rw[hq] at h;cases h
   |some z=>
    obtain⟨a',x'⟩:=z;rw[hq] at h;simp only[Z9,aRd] at h;subst h;obtain⟨d1,d2,d3,e',hl,hl2,hr⟩:=iha r1 hq;exact⟨d1,d2,d3++c2,by rw[e1,e'];simp,hl,hl2,⟨d1++cy++d3,c2,by simp,hr,r2⟩⟩
  .cases hq:yG e u kn b x.2 (o-a.cells) with
   |none=>rw[hq] at h;cases h
   |some z=>
    obtain⟨b',y'⟩:=z;rw[hq] at h;simp only[ZA,aRd] at h;subst h;obtain⟨d1,d2,d3,e',hl,hl2,hr⟩:=ihb r2 hq;refine⟨c1++d1,d2,d3,by rw[e1,e'];simp,?_,hl2,⟨c1,d1++cy++d3,by simp,r1,hr⟩⟩;rw[aRg,hl,sR r1];omega
 |list v=>
  intro x cs o q r h;cases o with
  |zero=>
   simp only[yG] at h;split at h
   .simp only[aRd] at h;subst h;exact⟨[],cs,[],by simp,rfl,sR r,by rw[List.nil_append,List.append_nil];exact hy⟩
   .cases h
  |succ o=>simp [yG] at h
 |_=>intro x cs o q r h;cases o<;>simp [yG] at h
def GF (g:Gh) (t:Ty) (x:t.den) (cs:pM) (toks:pK):Prop:=
 ∀o k,(o,k)∈toks->∃(u:Ty) (l:List u.den) (v:pR),r9 (.list u) t x o=some l/\cs[o]? =some v/\g.cur k l.length=some v
def aIx (w:pQ) (p:Pl) (n:Nat):Prop:=w.there p.1 p.2 n/\(0<n->∀s,p.3=some s->w.shape? p.1=some s)
theorem CD {w:pQ}{b:Nat}{s:TypeId×Nat}(h:w.shape? b=some s):b<w.heap.size:=by
 unfold World.shape? at h;cases hb:w.heap[b]? with
 |none=>rw[hb] at h;cases h
 |some x=>exact(aRC.1 hb).1
theorem CE {w w':pQ}{b:Nat}(h:w'.heap[b]? =w.heap[b]?):w'.shape? b=w.shape? b:=by
 unfold World.shape?;rw[h]
def A8 (g:Gh) (w:pQ) (i:Nat):q9->Prop
 | .cells t x toks=> ∃p cs,g.J i=some p/\Rd g w t x cs/\w.rangeAt p.1 p.2 cs/\aIx w p t.cells/\(∀j,j<t.cells->¬g.S p.1 (p.2+j))/\GF g t x cs toks
 | .grow e c n=> ∃v xs,g.cur i n=some v/\w.ownsRow 0 e c v n xs/\(∀m,n<m->g.cur i m=none)/\∀b,v.ownBlock=some b->∀o,g.S b o->o<n*c
 | .row e t l n=>l.length=n/\∃v xs,g.cur i n=some v/\w.ownsRow 0 e t.cells v n xs/\tX (Rd g w t) t.cells l xs/\(∀m,n<m->g.cur i m=none)/\∀b,v.ownBlock=some b->∀o,¬g.S b o
 | .map k v l=> ∃p es clock,g.J i=some p/\p.2=0/\w.heap[p.1]? =some (.map es clock)/\DX g w k v l es.toList/\∀o,¬g.S p.1 o
 | .iter s n=> ∃p,g.J i=some p/\p.2=0/\w.heap[p.1]? =some (.stringIter ⟨s.toArray⟩ n)/\∀o,¬g.S p.1 o
 | .dead=>True
def sA (g:Gh) (i:Nat):q9->Nat->Nat->Prop
 | .cells t _ _,b,o=> ∃p,g.J i=some p/\b=p.1/\p.2<=o/\o<p.2+t.cells
 | .grow _ _ n,b,_=> ∃v,g.cur i n=some v/\v.ownBlock=some b
 | .row _ _ _ n,b,_=> ∃v,g.cur i n=some v/\v.ownBlock=some b
 | .map _ _ _,b,_=> ∃p,g.J i=some p/\b=p.1
 | .iter _ _,b,_=> ∃p,g.J i=some p/\b=p.1
 | .dead,_,_=>False
structure sE (g:Gh) (w:pQ) (H:s7):Prop where
 blk: ∀i b,qD H i=some b->A8 g w i b
 dis: ∀i j bi bj b o,i≠j->qD H i=some bi->qD H j=some bj->sA g i bi b o->sA g j bj b o->False
 sl: ∀b o,g.S b o->b<w.heap.size
 tab:D0 w/\∀i blk b o,qD H i=some blk->sA g i blk b o->NG<=b
def sX (g:Gh) (H:s7) (ids:pP) (b o:Nat):Prop:= ∃i blk,i∈ids/\qD H i=some blk/\sA g i blk b o
structure Fr (A:Nat->Nat->Prop) (w w':pQ) (S S':Nat->Nat->Prop):Prop where
 os:w'.os=w.os
 tape:w'.tape=w.tape
 output:w'.output=w.output
 size:w.heap.size<=w'.heap.size
 blk: ∀b,b<w.heap.size->(∀o,¬A b o)->w'.heap[b]? =w.heap[b]?
 cell: ∀b o,b<w.heap.size->¬A b o->w'.cell? ⟨b,o,none⟩=w.cell? ⟨b,o,none⟩/\w'.frozen? ⟨b,o,none⟩=w.frozen? ⟨b,o,none⟩
 new: ∀b o,S' b o->S b o\/w.heap.size<=b\/A b o
 shape: ∀b s,w.shape? b=some s->w'.shape? b=some s\/∀o,A b o
theorem Fr.refl (A:Nat->Nat->Prop) (w:pQ) (S:Nat->Nat->Prop):Fr A w w S S:=
 ⟨rfl,rfl,rfl,aRE _,fun _ _ _=>rfl,fun _ _ _ _=>⟨rfl,rfl⟩,fun _ _ h=> .inl h,fun _ _ h=> .inl h⟩
theorem Fr.trans {A B:Nat->Nat->Prop}{w w' w'':pQ}{S S' S'':Nat->Nat->Prop}(h:Fr A w w' S S') (k:Fr B w' w'' S' S'') (hB: ∀b o,B b o->w.heap.size<=b\/A b o):Fr A w w'' S S'':=by
 refine⟨k.os.trans h.os,k.tape.trans h.tape,k.output.trans h.output,aSe h.size k.size,fun b hb hA=> ?_,fun b o hb hA=> ?_,fun b o hs=> ?_,fun b s hs=> ?_⟩
 .refine(k.blk b (aRT hb h.size) fun o ho=> ?_).trans (h.blk b hb hA);rcases hB b o ho with h1|h1
  .omega
  .exact hA o h1
 .have h1:=h.cell b o hb hA;have h2:=k.cell b o (aRT hb h.size) (fun ho=>by
   rcases hB b o ho with h1|h1
   .omega
   .exact hA h1)
  exact⟨h2.1.trans h1.1,h2.2.trans h1.2⟩
 .rcases k.new b o hs with h1|h1|h1
  .exact h.new b o h1
  .exact .inr (.inl (aSe h.size h1))
  .exact .inr (hB b o h1)
 .rcases h.shape b s hs with h1|h1
  .rcases k.shape b s h1 with h2|h2
   .exact .inl h2
   .refine .inr fun o=>(hB b o (h2 o)).resolve_left ?_;have:=CD hs;omega
  .exact .inr h1
structure sB (g:Gh) (w:pQ) (H:s7) (e:qJ) (g':Gh) (w':pQ) (v:pR):Prop where
 le:Le g w g' w'
 slot:rH g' w' e.slot v
 heap:sE g' w' (qT e.upd H)
 fr:Fr (sX g H (qE e.upd)) w w' g.S g'.S
 perm: ∀i blk b o,i∈qE e.upd->qD (qT e.upd H) i=some blk->sA g' i blk b o->w.heap.size<=b\/sX g H (qE e.upd) b o
 gho: ∀i,i∉qE e.upd->g'.J i=g.J i/\g'.cur i=g.cur i
 ty: ∀i u y us,qD (qT e.upd H) i=some (.cells u y us)->(∃x ts,qD H i=some (.cells u x ts))\/(g.J i=none/\∀n,g.cur i n=none)
structure zO (g:Gh) (w:pQ) (H:s7) (e:qJ) (g':Gh) (w':pQ) (v:pR):Prop where
 le:Le g w g' w'
 slot:rH g' w' e.slot v
 heap:sE g' w' (qT e.upd H)
 fr:Fr (sX g H (qE e.upd)) w w' g.S g'.S
 perm: ∀i blk b o,i∈qE e.upd->qD (qT e.upd H) i=some blk->sA g' i blk b o->w.heap.size<=b\/sX g H (qE e.upd) b o
 gho: ∀i,i∉qE e.upd->g'.J i=g.J i/\g'.cur i=g.cur i
 ty:HX e.rds=false->∀i u y us,qD (qT e.upd H) i=some (.cells u y us)->(∃x ts,qD H i=some (.cells u x ts))\/(g.J i=none/\∀n,g.cur i n=none)
theorem sB.w {g:Gh}{w:pQ}{H:s7}{e:qJ}{g':Gh}{w':pQ}{v:pR}(h:sB g w H e g' w' v):zO g w H e g' w' v:=⟨h.le,h.slot,h.heap,h.fr,h.perm,h.gho,fun _=>h.ty⟩
theorem PS {w:pQ}{B:Nat}{e:TypeId}{c n:Nat}{v:pR}{xs:pM}(h:w.ownsRow B e c v n xs) {b:Nat}(hb:v.ownBlock=some b):b<w.heap.size:=(h.lt b hb).2
theorem UW {w:pQ}{b o:Nat}{v:pR}(h:w.cell? ⟨b,o,none⟩=some v):b<w.heap.size:=by
 have:=World.block_lt_of_cell? w ⟨b,o,none⟩ h;exact this
theorem KC {g:Gh}{w:pQ}{i:Nat}{blk:q9}(h:A8 g w i blk) {b o:Nat}(ho:sA g i blk b o):b<w.heap.size:=by
 cases blk with
 |cells t x toks=>
  obtain⟨p,cs,hp,_,_,ht,_⟩:=h;obtain⟨q,hq,rfl,h1,h2⟩:=ho;rw[hp] at hq;obtain rfl:=aRi hq;have:=(ht.1 (o-p.2) pF).1;obtain⟨v,hv⟩:=aRh.1 this;exact UW hv
 |grow e c n=>
  obtain⟨v,xs,hv,hr,_⟩:=h;obtain⟨v',hv',hb⟩:=ho;rw[hv] at hv';obtain rfl:=aRi hv';exact PS hr hb
 |row e t l n=>
  obtain⟨_,v,xs,hv,hr,_⟩:=h;obtain⟨v',hv',hb⟩:=ho;rw[hv] at hv';obtain rfl:=aRi hv';exact PS hr hb
 |map k v l=>
  obtain⟨p,es,cl,hp,_,hh,_,_⟩:=h;obtain⟨q,hq,rfl⟩:=ho;rw[hp] at hq;obtain rfl:=aRi hq;exact(aRC.1 hh).1
 |iter s n=>
  obtain⟨p,hp,_,hh,_⟩:=h;obtain⟨q,hq,rfl⟩:=ho;rw[hp] at hq;obtain rfl:=aRi hq;exact(aRC.1 hh).1
 |dead=>exact ho.elim
theorem a95 {g g':Gh}(hc: ∀k n v,g.cur k n=some v->g'.cur k n=some v) {t:Ty}{x:t.den}{cs:pM}{toks:pK}(h:GF g t x cs toks):GF g' t x cs toks:=
 fun o k hm=>let ⟨u,l,v,h1,h2,h3⟩:=h o k hm;⟨u,l,v,h1,h2,hc _ _ _ h3⟩
theorem MP {g g':Gh}{w w':pQ}{i:Nat}{blk:q9}(h:A8 g w i blk) (le:Le g w g' w') (hJ:g'.J i=g.J i) (hcur:g'.cur i=g.cur i)
  (hc: ∀b o,sA g i blk b o->w'.cell? ⟨b,o,none⟩=w.cell? ⟨b,o,none⟩/\w'.frozen? ⟨b,o,none⟩=w.frozen? ⟨b,o,none⟩)
  (hb: ∀b,(∀o,sA g i blk b o)->w'.heap[b]? =w.heap[b]?) (hS: ∀b o,sA g i blk b o->g'.S b o->g.S b o) (hsh: ∀b o s,sA g i blk b o->w.shape? b=some s->w'.shape? b=some s):A8 g' w' i blk:=by
 cases blk with
 |cells t x toks=>
  obtain⟨p,cs,hp,hr,hra,ht,hs,htk⟩:=h;have ho: ∀j,j<t.cells->sA g i (.cells t x toks) p.1 (p.2+j):=fun j hj=>⟨p,hp,rfl,pF,pF⟩;refine⟨p,cs,hJ.trans hp,xR le hr,fun j v hv=> ?_,⟨fun j hj=> ?_,fun h0 s hs3=>hsh _ _ _ (ho 0 h0) (ht.2 h0 s hs3)⟩,fun j hj hs'=>hs j hj (hS _ _ (ho j hj) hs'),a95 le.cur htk⟩
  .have hj:j<t.cells:=sR hr▸(aRs.1 hv).1;rw[(hc _ _ (ho j hj)).1];exact hra j v hv
  .rw[(hc _ _ (ho j hj)).1,(hc _ _ (ho j hj)).2];exact ht.1 j hj
 |grow e c n=>
  obtain⟨v,xs,hv,hr,hn,hs⟩:=h;have hbl: ∀b,v.ownBlock=some b->∀o,sA g i (.grow e c n) b o:=fun b hb o=>⟨v,hv,hb⟩;refine⟨v,xs,by rw[hcur];exact hv,⟨hr.1,?_⟩,fun m hm=>by rw[hcur];exact hn m hm,fun b hvb o hs'=>hs b hvb o (hS _ _ (hbl b hvb o) hs')⟩;rcases hr.2 with h0|⟨q,cap,cur,e1,e2,e3,e4⟩
  .exact .inl h0
  .subst e1;exact .inr ⟨q,cap,cur,rfl,e2,by rw[hb q (hbl q rfl)];exact e3,e4⟩
 |row e t l n=>
  obtain⟨hl,v,xs,hv,hr,hF,hn,hs⟩:=h;have hbl: ∀b,v.ownBlock=some b->∀o,sA g i (.row e t l n) b o:=fun b hb o=>⟨v,hv,hb⟩;refine⟨hl,v,xs,by rw[hcur];exact hv,⟨hr.1,?_⟩,D4 (fun _ _ h=>xR le h) hF,fun m hm=>by rw[hcur];exact hn m hm,fun b hvb o hs'=>hs b hvb o (hS _ _ (hbl b hvb o) hs')⟩;rcases hr.2 with h0|⟨q,cap,cur,e1,e2,e3,e4⟩
  .exact .inl h0
  .subst e1;exact .inr ⟨q,cap,cur,rfl,e2,by rw[hb q (hbl q rfl)];exact e3,e4⟩
 |map k v l=>
  obtain⟨p,es,cl,hp,h0,hh,hM,hs⟩:=h;have hbl: ∀o,sA g i (.map k v l) p.1 o:=fun o=>⟨p,hp,rfl⟩;exact⟨p,es,cl,hJ.trans hp,h0,(hb _ hbl).trans hh,ZX le hM,fun o hs'=>hs o (hS _ _ (hbl o) hs')⟩
 |iter s n=>
  obtain⟨p,hp,h0,hh,hs⟩:=h;have hbl: ∀o,sA g i (.iter s n) p.1 o:=fun o=>⟨p,hp,rfl⟩;exact⟨p,hJ.trans hp,h0,(hb _ hbl).trans hh,fun o hs'=>hs o (hS _ _ (hbl o) hs')⟩
 |dead=>trivial
theorem zP {g g':Gh}{i:Nat}{blk:q9}(hJ:g'.J i=g.J i) (hcur:g'.cur i=g.cur i) {b o:Nat}:sA g' i blk b o↔sA g i blk b o:=by
 cases blk<;>simp [sA,hJ,hcur]
theorem CF {i:Nat}: ∀{u:List (Nat×q9)}{H:s7},i∉qE u->qD (qT u H) i=qD H i
 |[],_,_=>rfl
 |(k,b)::r,H,h=>by
  simp only[qE,aRu,not_or] at h;simp only[qT,qD];rw[aRk (Ne.symm h.1)];exact CF h.2
theorem sE.upd {g g':Gh}{w w':pQ}{H:s7}{u:List (Nat×q9)}(h:sE g w H) (le:Le g w g' w') (fr:Fr (sX g H (qE u)) w w' g.S g'.S)
  (perm: ∀i blk b o,i∈qE u->qD (qT u H) i=some blk->sA g' i blk b o->w.heap.size<=b\/sX g H (qE u) b o)
  (gho: ∀i,i∉qE u->g'.J i=g.J i/\g'.cur i=g.cur i)
  (hb: ∀i blk,i∈qE u->qD (qT u H) i=some blk->A8 g' w' i blk)
  (hd: ∀i j bi bj b o,i∈qE u->j∈qE u->i≠j->qD (qT u H) i=some bi->qD (qT u H) j=some bj->sA g' i bi b o->sA g' j bj b o->False)
  (sl: ∀b o,g'.S b o->b<w'.heap.size):sE g' w' (qT u H):=by
 have out: ∀i blk,i∉qE u->qD H i=some blk->∀b o,sA g i blk b o->b<w.heap.size/\¬sX g H (qE u) b o:=fun i blk hi hg b o ho=>
  ⟨KC (h.blk i blk hg) ho,fun⟨j,bj,hj,hgj,hoj⟩=>h.dis i j blk bj b o (fun e=>hi (e▸hj)) hg hgj ho hoj⟩
 refine⟨fun i blk hg=> ?_,fun i j bi bj b o hij hgi hgj hoi hoj=> ?_,sl,JS h.tab.1 fr.size (fun b hb=>fr.blk b (aRT hb h.tab.1.1) (fun o ⟨j,bj,_,k1,k2⟩=>Nat.not_lt.2 (h.tab.2 j bj b o k1 k2) hb)),fun i blk b o hg ho=> ?_⟩
 rotate_right
 .by_cases hi:i∈qE u
  .rcases perm i blk b o hi hg ho with h1|⟨j,bj,_,k1,k2⟩
   .exact aSe h.tab.1.1 h1
   .exact h.tab.2 j bj b o k1 k2
  .exact h.tab.2 i blk b o ((CF hi).symm.trans hg) ((zP (gho i hi).1 (gho i hi).2).1 ho)
 .by_cases hi:i∈qE u
  .exact hb i blk hi hg
  .have hg0:=(CF hi).symm.trans hg;have hk:=gho i hi;refine MP (h.blk i blk hg0) le hk.1 hk.2 (fun b o ho=> ?_) (fun b ho=> ?_) (fun b o ho hs=> ?_) (fun b o s ho hs=>(fr.shape b s hs).resolve_right fun h1=>(out i blk hi hg0 b o ho).2 (h1 o))
   .exact fr.cell b o (out i blk hi hg0 b o ho).1 (out i blk hi hg0 b o ho).2
   .exact fr.blk b (out i blk hi hg0 b 0 (ho 0)).1 (fun o=>(out i blk hi hg0 b o (ho o)).2)
   .rcases fr.new b o hs with h1|h1|h1
    .exact h1
    .have:=(out i blk hi hg0 b o ho).1;omega
    .exact absurd h1 (out i blk hi hg0 b o ho).2
 .by_cases hi:i∈qE u<;>by_cases hj:j∈qE u
  .exact hd i j bi bj b o hi hj hij hgi hgj hoi hoj
  .have hg0:=(CF hj).symm.trans hgj;have ho0:=(zP (gho j hj).1 (gho j hj).2).1 hoj;rcases perm i bi b o hi hgi hoi with h1|h1
   .have:=(out j bj hj hg0 b o ho0).1;omega
   .exact(out j bj hj hg0 b o ho0).2 h1
  .have hg0:=(CF hi).symm.trans hgi;have ho0:=(zP (gho i hi).1 (gho i hi).2).1 hoi;rcases perm j bj b o hj hgj hoj with h1|h1
   .have:=(out i bi hi hg0 b o ho0).1;omega
   .exact(out i bi hi hg0 b o ho0).2 h1
  .exact h.dis i j bi bj b o hij ((CF hi).symm.trans hgi) ((CF hj).symm.trans hgj) ((zP (gho i hi).1 (gho i hi).2).1 hoi) ((zP (gho j hj).1 (gho j hj).2).1 hoj)
theorem sB.pure {g:Gh}{w:pQ}{H:s7}{side:List Prop}{s:qB}{rds:pP}{v:pR}(h:sE g w H) (hs:rH g w s v):sB g w H ⟨side,s,[],rds⟩ g w v:=
 ⟨.refl _ _,hs,h,.refl _ _ _,fun _ _ _ _ hi=>(by cases hi),fun _ _=>⟨rfl,rfl⟩,fun _ _ y us h=> .inl ⟨y,us,h⟩⟩
theorem zO.pure {g:Gh}{w:pQ}{H:s7}{side:List Prop}{s:qB}{rds:pP}{v:pR}(h:sE g w H) (hs:rH g w s v):zO g w H ⟨side,s,[],rds⟩ g w v:=(sB.pure h hs).w
def uC:Ty->pM
 | .bool=>[.bool false]
 | .int k=>[.int k 0]
 | .str=>[.string ⟨#[]⟩]
 | .list _=>[.slice none 0 0]
 | .unit=>[]
 | .pair a b=>uC a++uC b
 | .ref=>[.pointer none]
 | .clo=>[.nilFunc]
 | .mp=>[.map none]
 | .rl _ _=>[.slice none 0 0]
 | .fn=>[.nilFunc]
 | .mref=>[.pointer none]
def wL (t:Ty):pR:=if t.isRow then .agg (uC t).toArray else(uC t).headD undef
def MQ (P:Program):Ty->Nat->List Field->Prop
 | .unit,_,[]=>True
 | .pair a b,o,f::r=>f.offset=o/\(P.info? f.type).map (·.size)=some a.cells/\(P.underlying f.type).map (·.isRow)=some a.isRow/\MQ P b (o+a.cells) r
 |_,_,_=>False
def PT (P:Program) (e:TypeId):Ty->Nat->Prop
 | .unit,0=>True
 | .pair a b,n+1=>(P.info? e).map (·.size)=some a.cells/\(P.underlying e).map (·.isRow)=some a.isRow/\PT P e b n
 |_,_=>False
inductive ZY where
 |ty (t:TypeId) |fs (o:Nat) (l:List Field) |el (e:TypeId) (i m:Nat)
inductive yW (P:Program):Nat->ZY->Ty->Prop
 |bool {h t}:P.underlying t=some .bool->yW P h (.ty t) .bool
 |int {h t k}:P.underlying t=some (.int k)->yW P h (.ty t) (.int k)
 |str {h t}:P.underlying t=some .string->yW P h (.ty t) .str
 |struct {h t fs ty}:ty.isRow=true->P.underlying t=some (.struct fs)->P.stoodInHeld t=false->yW P h (.fs 0 fs.toList) ty->yW P (h+1) (.ty t) ty
 |arr {h t e n ty}:ty.isRow=true->P.underlying t=some (.array n e)->(P.info? e).isSome=true->yW P h (.el e 0 n) ty->yW P (h+1) (.ty t) ty
 |nil {h o}:yW P h (.fs o []) .unit
 |cons {h o}{f:Field}{r a b}:f.name≠ "_" ->f.offset=o->(P.info? f.type).map (·.size)=some a.cells->(P.underlying f.type).map (·.isRow)=some a.isRow->yW P h (.ty f.type) a->yW P h (.fs (o+a.cells) r) b->yW P h (.fs o (f::r)) (.pair a b)
 |anil {h e i}:yW P h (.el e i 0) .unit
 |acons {h e i m a b}:(P.info? e).map (·.size)=some a.cells->(P.underlying e).map (·.isRow)=some a.isRow->yW P h (.ty e) a->yW P h (.el e (i+1) m) b->yW P h (.el e i (m+1)) (.pair a b)
def yJ (P:Program) (t:TypeId) (ti:TI):Prop:=
 match ti.ty with
 | .bool=>P.underlying t=some .bool
 | .int k=>P.underlying t=some (.int k)
 | .str=>P.underlying t=some .string
 | .ref=> ∃e,P.underlying t=some (.pointer e)
 | .clo=> ∃a b c,P.underlying t=some (.func a b c)
 | .mp=>P.underlying t=some (.map ti.elem ti.bytes)
 | .rl _ _=> ∃e,P.underlying t=some (.slice e)
 | .fn=> ∃a b c,P.underlying t=some (.func a b c)
 | .mref=> ∃e,P.underlying t=some (.pointer e)
 | .list u=>P.underlying t=some (.slice ti.elem)/\(P.info? ti.elem).map (fun i=>(i.size,i.bytes,i.zero))=some (u.cells,ti.bytes,some (wL u))/\(P.underlying ti.elem).map (·.isRow)=some u.isRow
 |ty=>((ti.arr=false/\∃fs,P.underlying t=some (.struct fs)/\MQ P ty 0 fs.toList)\/(ti.arr=true/\∃n e,P.underlying t=some (.array n e)/\PT P e ty n/\(P.info? e).isSome=true))/\(ti.bytes=1->P.eqGuardType P.depth t=false/\∃h,h<9000/\yW P h (.ty t) ty)
def tQ (P:Program) (t:TypeId) (ti:TI):Prop:=(P.info? t).map (fun i=>(i.size,i.zero))=some (ti.ty.cells,some (wL ti.ty))/\yJ P t ti
def xH (P:Program):sK->Prop
 |[]=>True
 |(t,ti)::r=>tQ P t ti/\xH P r
theorem tE {P:Program}: ∀{T:sK},xH P T->∀{t:TypeId}{ti:TI},rK T t=some ti->tQ P t ti
 |[],_,_,_,h=>by simp [rK] at h
 |(k,ti)::r,hT,t,ti',h=>by
  simp only[rK] at h;by_cases hk:k=t
  .rw[aRf hk] at h;subst hk;rw[<-aRi h];exact hT.1
  .rw[aRk hk] at h;exact tE hT.2 h
theorem DZ (g:Gh) (w:pQ): ∀t:Ty,Rd g w t t.zero (uC t)
 | .bool=>rfl
 | .int _=>rfl
 | .str=>rfl
 | .list _=>⟨none,0,rfl,aRE _,.inl rfl⟩
 | .unit=>rfl
 | .pair a b=>⟨_,_,rfl,DZ g w a,DZ g w b⟩
 | .ref=>rfl
 | .clo=>rfl
 | .mp=>rfl
 | .rl _ _=>rfl
 | .fn=>rfl
 | .mref=>rfl
theorem KD (g:Gh) (w:pQ) (t:Ty):tO g w t t.zero (wL t):=by
 unfold tO wL;by_cases h:t.isRow=true
 .left;rw[aRf h];exact⟨h,_,rfl,DZ g w t⟩
 .right;rw[aRk h];refine⟨by simpa using h,?_⟩;cases t<;>first|exact DZ g w _|(simp [Ty.isRow] at h)
theorem FB {g:Gh}{w:pQ}{t:Ty}{x:t.den}{v:pR}(h:tO g w t x v):Rd g w t x v.cells.toList:=by
 rcases h with⟨_,cs,rfl,r⟩ |⟨hr,r⟩
 .simpa[Value.cells] using r
 .have h1:=AR r v pH;have:v.cells= #[v]:=by cases v<;>first|rfl|(simp [Value.oneCell'] at h1)
  rw[this];exact r
theorem AS {g:Gh}{w:pQ}{t:Ty}{x:t.den}{v:pR}(hr:t.isRow=false) (h:tO g w t x v):Rd g w t x [v]:=by
 rcases h with⟨h1,_⟩ |⟨_,r⟩
 .rw[hr] at h1;cases h1
 .exact r
theorem wM {g:Gh}{w:pQ}{k:IntKind}{n:Int}{v:pR}(h:tO g w (.int k) n v):v= .int k n:=by
 have:=AS rfl h;simp only[Rd,aSc,and_true] at this;exact this
theorem vY {g:Gh}{w:pQ}{n:Bool}{v:pR}(h:tO g w .bool n v):v= .bool n:=by
 have:=AS rfl h;simp only[Rd,aSc,and_true] at this;exact this
theorem wU {g:Gh}{w:pQ}{l:pC}{v:pR}(h:tO g w .str l v):v= .string ⟨l.toArray⟩:=by
 have:=AS rfl h;simp only[Rd,aSc,and_true] at this;exact this
theorem D5 {g:Gh}{w:pQ}{t:Ty}{l:List t.den}{v:pR}(h:tO g w (.list t) l v): ∃a cap,v= .slice a l.length cap/\l.length<=cap/\(l=[]\/∃b o,a=some ⟨b,o,none⟩/\yV (Rd g w t) w g.S t.cells b o l):=by
 have:=AS rfl h;obtain⟨a,cap,e,h1,h2⟩:=this;simp only[aSc,and_true] at e;exact⟨a,cap,e,h1,h2⟩
theorem zQ {g:Gh}{w:pQ}{i o:Nat}{v:pR}(h:tO g w .ref (some (i,o)) v): ∃p,g.J i=some p/\v= .pointer (some ⟨p.1,p.2+o,none⟩):=by
 have:=AS rfl h;obtain⟨p,h1,e⟩:=this;simp only[aSc,and_true] at e;exact⟨p,h1,e⟩
theorem KE {g:Gh}{w:pQ}{t:Ty}{x:t.den}{v:pR}(hr:t.isRow=true) (h:tO g w t x v): ∃cs:pM,v= .agg cs.toArray/\Rd g w t x cs:=by
 rcases h with⟨_,r⟩ |⟨h1,_⟩
 .exact r
 .rw[hr] at h1;cases h1
theorem wN (g:Gh) (w:pQ) (k:IntKind) (n:Int):tO g w (.int k) n (.int k n):= .inr ⟨rfl,rfl⟩
theorem wV (g:Gh) (w:pQ) (b:Bool):tO g w .bool b (.bool b):= .inr ⟨rfl,rfl⟩
theorem BD (g:Gh) (w:pQ) (l:pC):tO g w .str l (.string ⟨l.toArray⟩):= .inr ⟨rfl,rfl⟩
def rC (P:Program) (o:Oper) (a:Act) (g:Gh) (w:pQ) (H:s7) (e:qJ):Prop:=
 ∀(K:Act->pQ->Prop) (Q:Exit->Act->pQ->Prop),(∀g' w' v,zO g w H e g' w' v->K (a.put o.dst v) w')->o.wp P a w K Q
theorem rC.valueW {P:Program}{o:Oper}{a:Act}{g g':Gh}{w w':pQ}{H:s7}{e:qJ}{v:pR}(hr:(execOp a.eval o).run P w= .ok (.value v) w') (h:zO g w H e g' w' v):rC P o a g w H e:=by
 intro K Q hK;unfold Oper.wp;rw[hr];exact hK g' w' v h
theorem rC.skipW {P:Program}{o:Oper}{a:Act}{g g':Gh}{w w':pQ}{H:s7}{e:qJ}(hr:(execOp a.eval o).run P w= .ok .skip w') (h:zO g w H e g' w' undef):rC P o a g w H e:=by
 intro K Q hK;unfold Oper.wp;rw[hr];exact hK g' w' undef h
theorem rC.value {P:Program}{o:Oper}{a:Act}{g g':Gh}{w w':pQ}{H:s7}{e:qJ}{v:pR}(hr:(execOp a.eval o).run P w= .ok (.value v) w') (h:sB g w H e g' w' v):rC P o a g w H e:= .valueW hr h.w
theorem rC.skip {P:Program}{o:Oper}{a:Act}{g g':Gh}{w w':pQ}{H:s7}{e:qJ}(hr:(execOp a.eval o).run P w= .ok .skip w') (h:sB g w H e g' w' undef):rC P o a g w H e:= .skipW hr h.w
theorem rC.pure {P:Program}{o:Oper}{a:Act}{g:Gh}{w:pQ}{H:s7}{side:List Prop}{d:DV}{rds:pP}{v:pR}(hH:sE g w H) (hr:(execOp a.eval o).run P w= .ok (.value v) w) (h:A7 g w d v):
  rC P o a g w H ⟨side,(d,none),[],rds⟩:= .value hr (.pure hH ⟨h,trivial⟩)
section
variable {P:Program}{o:Oper}{a:Act}{g:Gh}{w:pQ}{H:s7}
theorem UX {g:Gh}{w:pQ}{k:IntKind}(q:Int) (hq: ∀p∈(JT k q).1,p):A7 g w (JT k q).2 (.int k (k.wrap q)):=by
 cases k<;>simp only[JT] at hq|- <;>first|exact wN _ _ _ _|skip
 have h0:=hq _ (aRv.2 rfl);rw[show IntKind.i64.wrap q=q from IntWalk.i64_in q pF];exact wN _ _ _ _
theorem aIy (g:Gh) {op:BinOp}{xt:TypeId}{x y:Operand}{k:IntKind}{m n:Int}{r:List Prop×DV}(hr:YH k m n op=some r) (hs: ∀p∈r.1,p):
  ∃v,(do eqGuard op xt x y (.int k m) (.int k n);Go.binOp op xt (.int k m) (.int k n):Sem pR).run P w= .ok v w/\A7 g w r.2 v:=by
 cases op<;>simp only[YH,aRd,reduceCtorEq] at hr
 all_goals subst hr
 case add=>exact⟨.int k (k.wrap _),by simp [eqGuard,Go.binOp,Op.intArith],UX _ hs⟩
 case sub=>exact⟨.int k (k.wrap _),by simp [eqGuard,Go.binOp,Op.intArith],UX _ hs⟩
 case mul=>exact⟨.int k (k.wrap _),by simp [eqGuard,Go.binOp,Op.intArith],UX _ hs⟩
 case eql=>exact⟨.bool (decide (m=n)),by simp [eqGuard,Go.binOp,Op.intCmp];rfl,wV _ _ _⟩
 case neq=>exact⟨.bool (!decide (m=n)),by simp [eqGuard,Go.binOp,Op.intCmp,bne];rfl,wV _ _ _⟩
 case lss=>exact⟨.bool (decide _),by simp [eqGuard,Go.binOp,Op.intCmp],wV _ _ _⟩
 case leq=>exact⟨.bool (decide _),by simp [eqGuard,Go.binOp,Op.intCmp],wV _ _ _⟩
 case gtr=>exact⟨.bool (decide (n<m)),by simp [eqGuard,Go.binOp,Op.intCmp],wV _ _ _⟩
 case geq=>exact⟨.bool (decide (n<=m)),by simp [eqGuard,Go.binOp,Op.intCmp],wV _ _ _⟩
 case quo=>
  have h0:=hs _ (aRv.2 rfl);exact⟨.int k (k.wrap (Int.tdiv m n)),by simp [eqGuard,Go.binOp,Op.intDiv,h0],wN _ _ _ _⟩
 case rem=>
  have h0:=hs _ (aRv.2 rfl);exact⟨.int k (Int.tmod m n),by simp [eqGuard,Go.binOp,Op.intDiv,h0],wN _ _ _ _⟩
 case and=>exact⟨.int k (bits .and k m n),by simp [eqGuard,Go.binOp,intBits_and],wN _ _ _ _⟩
 case or=>exact⟨.int k (bits .or k m n),by simp [eqGuard,Go.binOp,intBits_or],wN _ _ _ _⟩
 case xor=>exact⟨.int k (bits .xor k m n),by simp [eqGuard,Go.binOp,intBits_xor],wN _ _ _ _⟩
 case andNot=>exact⟨.int k (bits .andNot k m n),by simp [eqGuard,Go.binOp,intBits_andNot],wN _ _ _ _⟩
theorem PU (m n:pC):(m==n)=decide (m=n):=by rw[aTe];simp
theorem aIz (g:Gh) {op:BinOp}{xt:TypeId}{x y:Operand}{m n:pC}{r:List Prop×DV}(hr:YJ m n op=some r) (hs: ∀p∈r.1,p):
  ∃v,(do eqGuard op xt x y (.string ⟨m.toArray⟩) (.string ⟨n.toArray⟩);Go.binOp op xt (.string ⟨m.toArray⟩) (.string ⟨n.toArray⟩):Sem pR).run P w= .ok v w/\A7 g w r.2 v:=by
 have hl: ∀l:pC,(⟨l.toArray⟩:ByteArray).size=l.length:=fun l=>by simp [ByteArray.size]
 cases op<;>simp only[YJ,aRd,reduceCtorEq] at hr
 all_goals subst hr
 case add=>
  have h0:=hs _ (aRv.2 rfl);refine⟨.string ⟨(m++n).toArray⟩,?_,BD _ _ _⟩;rw[aRg] at h0;have h1: ¬(((⟨m.toArray⟩:ByteArray).size+(⟨n.toArray⟩:ByteArray).size:Nat):Int) >IntKind.i64.max:=by rw[hl,hl,show IntKind.i64.max=9223372036854775807 from by decide];omega
  simp only[eqGuard,Go.binOp,Op.stringOp,aRy,aRk h1];simp;rfl
 case eql=>exact⟨.bool (decide (m=n)),by simp [eqGuard,Go.binOp,Op.stringOp,PU],wV _ _ _⟩
 case neq=>exact⟨.bool (!decide (m=n)),by simp [eqGuard,Go.binOp,Op.stringOp,PU],wV _ _ _⟩
 case lss=>exact⟨.bool (Op.bytesLess m n),by simp [eqGuard,Go.binOp,Op.stringOp],wV _ _ _⟩
 case leq=>exact⟨.bool (Op.bytesLess m n||decide (m=n)),by simp [eqGuard,Go.binOp,Op.stringOp,PU],wV _ _ _⟩
 case gtr=>exact⟨.bool (!(Op.bytesLess m n||decide (m=n))),by simp [eqGuard,Go.binOp,Op.stringOp,PU],wV _ _ _⟩
 case geq=>exact⟨.bool (!Op.bytesLess m n),by simp [eqGuard,Go.binOp,Op.stringOp],wV _ _ _⟩
theorem IC {r:Option (List Prop×DV)}{e:qJ}(h:AL r=some e): ∃q,r=some q/\e=⟨q.1,(q.2,none),[],[]⟩:=by
 cases r with
 |none=>cases h
 |some q=>obtain⟨p,d⟩:=q;exact⟨(p,d),rfl,(aRi h).symm⟩
theorem aIA (hH:sE g w H) {op:BinOp}{xt yt:TypeId}{x y:Operand}(ho:o.op= .binOp op xt x y yt) {sx sy:qB}(hx:rH g w sx (a.eval x)) (hy:rH g w sy (a.eval y)) {e:qJ}
  (hr:AL (T8 op sx sy)=some e) (hs: ∀p∈e.side,p):rC P o a g w H e:=by
 obtain⟨q,hq,rfl⟩:=IC hr;have go: ∀{u v:pR},a.eval x=u->a.eval y=v->(∃z,(do eqGuard op xt x y u v;Go.binOp op xt u v:Sem pR).run P w= .ok z w/\A7 g w q.2 z)->rC P o a g w H ⟨q.1,(q.2,none),[],[]⟩:=by
  rintro u v rfl rfl ⟨z,hz,hd⟩;refine rC.pure hH (v:=z) ?_ hd;unfold execOp;rw[ho];simp only[aRy,aRI] at hz|-;rw[hz];rfl
 obtain⟨dx,kx⟩:=sx;obtain⟨dy,ky⟩:=sy;replace hx:=hx.1;replace hy:=hy.1;unfold T8 at hq;split at hq
 .rename_i k m k1 k' n k2 e1 e2;simp only[aRR] at e1 e2;obtain⟨rfl,-⟩:=e1;obtain⟨rfl,-⟩:=e2;unfold a9g at hq;split at hq
  .cases hq;have h0:=hs _ (aRv.2 rfl);exact go (wM hx) (wM hy) ⟨.int k (YI k m n),by simp [eqGuard,Go.binOp,Op.shift,YI,Int.not_lt.2 h0],wN _ _ _ _⟩
  .cases hq;have h0:=hs _ (aRv.2 rfl);exact go (wM hx) (wM hy) ⟨.int k (yE k m n),by simp [eqGuard,Go.binOp,Op.shift,yE,Int.not_lt.2 h0],wN _ _ _ _⟩
  .by_cases hk:k=k'
   .subst hk;rw[aRf rfl] at hq;exact go (wM hx) (wM hy) (aIy g hq hs)
   .rw[aRk hk] at hq;cases hq
 .rename_i m k1 n k2 e1 e2;simp only[aRR] at e1 e2;obtain⟨rfl,-⟩:=e1;obtain⟨rfl,-⟩:=e2;exact go (wU hx) (wU hy) (aIz g hq hs)
 .cases hq
theorem aIB (hH:sE g w H) {op:BinOp}{xt yt:TypeId}{x y:Operand}(ho:o.op= .binOp op xt x y yt) {ti:Option TI}{sx sy:qB}(hx:rH g w sx (a.eval x)) (hy:rH g w sy (a.eval y)) {e:qJ}
  (hr:AL (T9 op ti sx sy)=some e):rC P o a g w H e:=by
 obtain⟨q,hq,rfl⟩:=IC hr;unfold T9 at hq;split at hq
 .rename_i k m _ k' n _;by_cases hk:k=k'
  .subst hk;rw[aRf rfl] at hq;have hx1:=wM hx.1;have hy1:=wM hy.1;cases op<;>simp only[a9i,aRd,reduceCtorEq] at hq
   all_goals subst hq
   all_goals refine rC.pure hH (v:= .int k (k.wrap _)) ?_ (wN _ _ _ _)
   all_goals
    unfold execOp;rw[ho];simp [hx1,hy1,eqGuard,Go.binOp,Op.intArith]
  .rw[aRk hk] at hq;cases hq
 .cases hq
theorem aIC (hH:sE g w H) {op:UnOp}{xt:TypeId}{x:Operand}(ho:o.op= .unOp op xt x) {sx:qB}(hx:rH g w sx (a.eval x)) {e:qJ}
  (hr:AL (YM op sx)=some e) (hs: ∀p∈e.side,p):rC P o a g w H e:=by
 obtain⟨q,hq,rfl⟩:=IC hr;replace hx:=hx.1;unfold YM at hq;split at hq
 .have:=vY hx;cases hq;refine rC.pure hH (v:= .bool _) ?_ (wV _ _ _);simp [execOp,ho,this,Op.unary]
 .rename_i k n _;have:=wM hx;cases hq;refine rC.pure hH (v:= .int k (k.wrap (-n))) ?_ (UX _ hs);simp [execOp,ho,this,Op.unary,Op.intArith]
 .cases hq
theorem UY {t:TypeId}{ti:TI}(h:tQ P t ti): ∃d,P.underlying t=some d/\d.isRow=ti.ty.isRow:=by
 have h2:=h.2;unfold yJ at h2;obtain⟨ty,el,by',ar,ls⟩:=ti;cases ty<;>simp only at h2
 case bool=>exact⟨_,h2,rfl⟩
 case int=>exact⟨_,h2,rfl⟩
 case str=>exact⟨_,h2,rfl⟩
 case list=>exact⟨_,h2.1,rfl⟩
 case ref=>obtain⟨e,h⟩:=h2;exact⟨_,h,rfl⟩
 case clo=>obtain⟨a,b,c,h⟩:=h2;exact⟨_,h,rfl⟩
 case mp=>exact⟨_,h2,rfl⟩
 case rl=>obtain⟨e,h⟩:=h2;exact⟨_,h,rfl⟩
 case fn=>obtain⟨a,b,c,h⟩:=h2;exact⟨_,h,rfl⟩
 case mref=>obtain⟨e,h⟩:=h2;exact⟨_,h,rfl⟩
 all_goals
  rcases h2.1 with⟨_,fs,h,_⟩ |⟨_,n,e,h,_⟩
  .exact⟨_,h,rfl⟩
  .exact⟨_,h,rfl⟩
theorem E2 {t:TypeId}{ti:TI}(h:tQ P t ti): ∃i,P.info? t=some i/\i.size=ti.ty.cells/\i.zero=some (wL ti.ty):=by
 obtain⟨i,hi,he⟩:=aRn.1 h.1;simp only[aRR] at he;exact⟨i,hi,he.1,he.2⟩
theorem aID {T:sK}(hT:xH P T) (hH:sE g w H) {st dt:TypeId}{x:Operand}(ho:o.op= .convert st dt x) {sx:qB}(hx:rH g w sx (a.eval x)) {e:qJ}
  (hr:AL (TB (rK T st) (rK T dt) sx)=some e):rC P o a g w H e:=by
 obtain⟨q,hq,rfl⟩:=IC hr;replace hx:=hx.1;generalize hs:rK T st=os at hq;generalize hd:rK T dt=od at hq;unfold TB at hq;split at hq
 .rename_i k' k _ _ _ _ k0 n _;obtain⟨d,hd1,_⟩:=UY (tE hT hs);have hd2:=(tE hT hd).2;simp only[yJ] at hd2;have:=wM hx;cases hq;refine rC.pure hH (v:= .int k (k.wrap n)) ?_ (wN _ _ _ _);simp [execOp,ho,this,Go.convert,aRB hd1,aRB hd2,Conv.intToInt]
 .rename_i k' _ _ _ _ s _;obtain⟨d,hd1,_⟩:=UY (tE hT hs);have hd2:=(tE hT hd).2;simp only[yJ] at hd2;have:=wU hx;cases hq;refine rC.pure hH (v:= .string ⟨List.toArray s⟩) ?_ (BD _ _ _);simp [execOp,ho,this,Go.convert,aRB hd1,aRB hd2]
 .cases hq
theorem MR {α:Type}{R:α->pM->Prop}{w:pQ}{S:Nat->Nat->Prop}{c b:Nat}: ∀{l:List α}{o i:Nat}{x:α},yV R w S c b o l->l[i]? =some x->
  ∃cs,cs.length=c/\w.rangeAt b (o+i*c) cs/\(∀j,j<c->S b (o+i*c+j))/\R x cs
 |y::l,o,0,x,⟨⟨cs,h1,h2,h3,h4⟩,_⟩,h=>by
  simp only[aRM,aRd] at h;subst h;exact⟨cs,h1,by simpa using h2,by simpa using h3,h4⟩
 |y::l,o,i+1,x,⟨_,h5⟩,h=>by
  simp only[aRY] at h;obtain⟨cs,h1,h2,h3,h4⟩:=MR h5 h;have e:o+c+i*c=o+(i+1)*c:=by rw[aSm];omega
  exact⟨cs,h1,by rw[<-e];exact h2,by rw[<-e];exact h3,h4⟩
theorem a96 {α:Type}{R:α->pM->Prop}{w:pQ}{S:Nat->Nat->Prop}{c b:Nat}: ∀{l:List α}{o:Nat}(i:Nat),yV R w S c b o l->i<=l.length->yV R w S c b (o+i*c) (l.drop i)
 |_,o,0,h,_=>by simpa using h
 |[],o,i+1,_,h=>by simp at h
 |y::l,o,i+1,⟨_,h5⟩,h=>by
  have:=a96 i h5 (by simpa using h);have e:o+c+i*c=o+(i+1)*c:=by rw[aSm];omega
  rw[<-e];simpa using this
theorem a97 {α:Type}{R:α->pM->Prop}{w:pQ}{S:Nat->Nat->Prop}{c b:Nat}: ∀{l:List α}{o:Nat}(i:Nat),yV R w S c b o l->yV R w S c b o (l.take i)
 |_,_,0,_=>by simp [yV]
 |[],_,_+1,_=>by simp [yV]
 |_::_,_,i+1,⟨h,h5⟩=>by simpa[yV] using⟨h,a97 i h5⟩
theorem ZZ {g:Gh}{w:pQ}: ∀{t:Ty}{x:t.den}{cs:pM}{f:Nat}{u:Ty}{y:u.den},Rd g w t x cs->t.proj x f=some ⟨u,y⟩->
  ∃o c1 c2 c3,t.offs f=some o/\t.fld f=some u/\cs=c1++c2++c3/\c1.length=o/\Rd g w u y c2:=by
 intro t
 induction t with
 |pair a b _ ihb=>
  intro x cs f u y r h;obtain⟨c1,c2,e,r1,r2⟩:=r;cases f with
  |zero=>
   simp only[Ty.proj,aRd,Sigma.mk.injEq] at h;obtain⟨rfl,h2⟩:=h;obtain rfl:=eq_of_heq h2;exact⟨0,[],c1,c2,rfl,rfl,by simpa using e,rfl,r1⟩
  |succ f=>
   simp only[Ty.proj] at h;obtain⟨o,d1,d2,d3,h1,h2,h3,h4,h5⟩:=ihb r2 h;refine⟨a.cells+o,c1++d1,d2,d3,by simp [Ty.offs,h1],by simpa[Ty.fld] using h2,by rw[e,h3];simp,?_,h5⟩;rw[aRg,h4,sR r1]
 |_=>intro x cs f u y r h;cases f<;>simp [Ty.proj] at h
theorem a0a {P:Program}: ∀{ty:Ty}{off:Nat}{fs:List Field}{f o:Nat}{u:Ty},MQ P ty off fs->ty.offs f=some o->ty.fld f=some u->
  ∃fd,fs[f]? =some fd/\fd.offset=off+o/\(P.info? fd.type).map (·.size)=some u.cells/\(P.underlying fd.type).map (·.isRow)=some u.isRow:=by
 intro ty
 induction ty with
 |pair a b _ ihb=>
  intro off fs f o u h ho hu;cases fs with
  |nil=>exact h.elim
  |cons fd fs=>
   obtain⟨h1,h2,h3,h4⟩:=h;cases f with
   |zero=>
    simp only[Ty.offs,aRd] at ho;simp only[Ty.fld,aRd] at hu;subst ho;subst hu;exact⟨fd,rfl,pF,h2,h3⟩
   |succ f=>
    simp only[Ty.offs,aRn] at ho;obtain⟨o',ho',rfl⟩:=ho;obtain⟨fd',k1,k2,k3,k4⟩:=ihb h4 ho' hu;exact⟨fd',by simpa using k1,pF,k3,k4⟩
 |_=>intro off fs f o u h ho hu;cases f<;>simp [Ty.offs] at ho
theorem a0b {P:Program}{e:TypeId}: ∀{ty:Ty}{n f o:Nat}{u:Ty},PT P e ty n->ty.offs f=some o->ty.fld f=some u->
  f<n/\(P.info? e).map (·.size)=some u.cells/\(P.underlying e).map (·.isRow)=some u.isRow/\o=f*u.cells:=by
 intro ty
 induction ty with
 |pair a b _ ihb=>
  intro n f o u h ho hu;cases n with
  |zero=>exact h.elim
  |succ n=>
   obtain⟨h2,h3,h4⟩:=h;cases f with
   |zero=>
    simp only[Ty.offs,aRd] at ho;simp only[Ty.fld,aRd] at hu;subst ho;subst hu;exact⟨pF,h2,h3,by simp⟩
   |succ f=>
    simp only[Ty.offs,aRn] at ho;obtain⟨o',ho',rfl⟩:=ho;obtain⟨k1,k2,k3,k4⟩:=ihb h4 ho' hu;rw[h2] at k2;have hc:a.cells=u.cells:=aRi k2;exact⟨pF,by rw[h2,hc],k3,by rw[k4,hc,aSm];omega⟩
 |_=>intro n f o u h ho hu;cases f<;>simp [Ty.offs] at ho
theorem PV {t:TypeId}{u:Ty}(hi:(P.info? t).map (·.size)=some u.cells) (hr:(P.underlying t).map (·.isRow)=some u.isRow) {y:u.den}{c1 c2 c3:pM}(h:Rd g w u y c2):
  ∃v,(part t (c1++c2++c3).toArray c1.length).run P w= .ok v w/\tO g w u y v:=by
 obtain⟨i,hi,hsz⟩:=aRn.1 hi;obtain⟨d,hd,hrow⟩:=aRn.1 hr;have hl:=sR h;by_cases hu:u.isRow=true
 .refine⟨.agg c2.toArray,?_,.inl ⟨hu,c2,rfl,h⟩⟩;have hagg:(isAgg t).run P w= .ok true w:=by
   unfold isAgg;rw[aRy,aRB hd w];rw[hu] at hrow;cases d<;>simp_all [TypeDesc.isRow]
  simp only[part,aRy,hagg,aRp,aSU,sizeOf,typeInfo,aSk,hi,hsz,aRI];congr 2;apply aSp.1;simp [<-hl]
 .have hu':u.isRow=false:=by simpa using hu
  have h1:u.cells=1:=by cases u<;>first|rfl|(simp [Ty.isRow] at hu')
  obtain⟨v,rfl⟩: ∃v,c2=[v]:=by
   rw[h1] at hl;exact aSF.1 hl
  refine⟨v,?_,.inr ⟨hu',h⟩⟩;have hagg:(isAgg t).run P w= .ok false w:=by
   unfold isAgg;rw[aRy,aRB hd w];rw[hu'] at hrow;cases d<;>simp_all [TypeDesc.isRow]
  simp only[part,aRy,hagg,aRp];simp
theorem a0c {t:TypeId}{ti:TI}(h:tQ P t ti) (hr:ti.ty.isRow=true):
  (ti.arr=false/\∃fs,P.underlying t=some (.struct fs)/\MQ P ti.ty 0 fs.toList)\/(ti.arr=true/\∃n e,P.underlying t=some (.array n e)/\PT P e ti.ty n/\(P.info? e).isSome=true):=by
 have h2:=h.2;unfold yJ at h2;obtain⟨ty,el,by',ar,ls⟩:=ti;cases ty<;>simp only[Ty.isRow,aS0] at hr<;>exact h2.1
theorem a98 {t:TypeId}{ti:TI}(h:tQ P t ti) (hr:ti.ty.isRow=true) (ha:ti.arr=false): ∃fs,P.underlying t=some (.struct fs)/\MQ P ti.ty 0 fs.toList:=by
 rcases a0c h hr with⟨_,h⟩ |⟨h,_⟩
 .exact h
 .rw[ha] at h;cases h
theorem a99 {t:TypeId}{ti:TI}(h:tQ P t ti) (hr:ti.ty.isRow=true) (ha:ti.arr=true): ∃n e,P.underlying t=some (.array n e)/\PT P e ti.ty n/\(P.info? e).isSome=true:=by
 rcases a0c h hr with⟨h,_⟩ |⟨_,h⟩
 .rw[ha] at h;cases h
 .exact h
theorem aIE {t:Ty}{x:t.den}{f:Nat}{q: Σ u:Ty,u.den}(h:t.proj x f=some q):t.isRow=true:=by
 cases t<;>first|rfl|(cases f<;>simp [Ty.proj] at h)
theorem aIF {t:Ty}{f o:Nat}(h:t.offs f=some o):t.isRow=true:=by
 cases t<;>first|rfl|(cases f<;>simp [Ty.offs] at h)
end
theorem aIG (l:pC) (n:Nat) (h:n<l.length):(⟨l.toArray⟩:ByteArray)[n]? =some l[n]:=by
 have:n<(⟨l.toArray⟩:ByteArray).size:=by simpa[ByteArray.size] using h
 rw[getElem?_pos (⟨l.toArray⟩:ByteArray) n this];rfl
theorem KF {i:Int}{n:Nat}(h0:0<=i) (h1:i<n):i.toNat<n:=by omega
theorem aAa {i:Int}{n:Nat}(h0:0<=i) (h1:i.toNat<n):i<n:=by omega
section
variable {P:Program}{o:Oper}{a:Act}{g:Gh}{w:pQ}{H:s7}{T:sK}(hT:xH P T) (hH:sE g w H)
include hT hH
theorem aIH {t:TypeId}{x:Operand}{f:Nat}(ho:o.op= .field t x f) {sx:qB}(hx:rH g w sx (a.eval x)) {e:qJ}(hr:ZF f (rK T t) sx=some e):rC P o a g w H e:=by
 generalize hs:rK T t=ot at hr;replace hx:=hx.1;unfold ZF at hr;split at hr
 .rename_i ty el by' ls_ u y _;split at hr
  .rename_i hu;subst hu;have hty:=tE hT hs;generalize hp:u.proj y f=q at hr;cases q with
   |none=>cases hr
   |some q=>
    obtain⟨u,z⟩:=q;cases hr;have hrow:=aIE hp;obtain⟨cs,hv,hR⟩:=KE hrow hx;obtain⟨oo,c1,c2,c3,h1,h2,rfl,rfl,h5⟩:=ZZ hR hp;obtain⟨fs,hfs,hfe⟩:=a98 hty hrow rfl;obtain⟨fd,k1,k2,k3,k4⟩:=a0a hfe h1 h2;obtain⟨v,hv1,hv2⟩:=PV k3 k4 (P:=P) (c1:=c1) (c3:=c3) h5;refine rC.pure hH (v:=v) ?_ hv2;have k1':fs[f]? =some fd:=by simpa using k1
    simp only[execOp,ho,hv,Instr.field,aRy,aRB hfs,aRp,k1',asAgg,aRI,k2,aRP,hv1]
  .cases hr
 .cases hr
theorem a0d {t:TypeId}{ti:TI}(hty:tQ P t ti) (har:ti.arr=false) {f oo:Nat}{u:Ty}(h1:ti.ty.offs f=some oo) (h2:ti.ty.fld f=some u) (hpos:0<u.cells) (b off:Nat):
  (Instr.fieldAt t (.pointer (some ⟨b,off,none⟩)) f).run P w= .ok (.pointer (some ⟨b,off+oo,none⟩)) w:=by
 obtain⟨fs,hfs,hfe⟩:=a98 hty (aIF h1) har;obtain⟨fd,k1,k2,k3,k4⟩:=a0a hfe h1 h2;obtain⟨i,hi,hsz⟩:=aRn.1 k3;have k1':fs[f]? =some fd:=by simpa using k1
 have hne: ¬(u.cells=0):=by omega
 simp only[Instr.fieldAt,aRy,aRB hfs,aRp,k1',Instr.sureAddr,aRI,fieldPlace,sizeOf,typeInfo,aSk,hi,hsz,aRk hne,k2,aRP,aSC]
theorem aII {t:TypeId}{x:Operand}{f:Nat}(ho:o.op= .fieldAddr t x f) {sx:qB}(hx:rH g w sx (a.eval x)) {e:qJ}(hr:ZE f (rK T t) sx=some e):rC P o a g w H e:=by
 generalize hs:rK T t=ot at hr;replace hx:=hx.1;unfold ZE at hr;split at hr
 .rename_i ty el by' ls_ k n c i o' _;have hty:=tE hT hs;generalize h1:ty.offs f=o1 at hr;generalize h2:ty.fld f=o2 at hr;unfold a9H at hr;split at hr
  .split at hr
   .rename_i oo u hpos;cases hr;obtain⟨b,cap,hc,hi0,hi1,hv⟩:=hx;refine rC.pure hH (v:= .pointer (some ⟨b,i.toNat*c+o'+oo,none⟩)) ?_ ⟨b,cap,hc,hi0,hi1,by rw[aRZ]⟩;simp only[execOp,ho,hv,aRy,a0d hT hH hty rfl h1 h2 hpos,aRp,aRI]
   .cases hr
  .cases hr
 .rename_i ty el by' ls_ u y _;split at hr
  .rename_i hu;subst hu;have hty:=tE hT hs;generalize hp:u.proj y f=q at hr;cases q with
   |none=>cases hr
   |some q=>
    obtain⟨u,z⟩:=q;simp only[U5] at hr;split at hr
    .rename_i hpos;cases hr;obtain⟨b,off,cs,hv,hra,hS,hR⟩:=hx;obtain⟨oo,c1,c2,c3,h1,h2,rfl,rfl,h5⟩:=ZZ hR hp;refine rC.pure hH (v:= .pointer (some ⟨b,off+c1.length,none⟩)) ?_ ⟨b,off+c1.length,c2,rfl,fun j v hj=> ?_,fun j hj=> ?_,h5⟩
     .simp only[execOp,ho,hv,aRy,a0d hT hH hty rfl h1 h2 hpos,aRp,aRI]
     .have:=hra (c1.length+j) v (by
       have hj':=(aRs.1 hj).1;rw[aRl,aRt pF,aR5,aRz hj'];exact hj)
      rw[aRZ];exact this
     .have:=hS (c1.length+j) (by
       have:=sR hR;have h6:=sR h5;simp only[aRg] at this;omega)
      rw[aRZ];exact this
    .cases hr
  .cases hr
 .rename_i ty el by' ls_ i off _;have hty:=tE hT hs;generalize h1:ty.offs f=o1 at hr;generalize h2:ty.fld f=o2 at hr;unfold U6 at hr;split at hr
  .split at hr
   .rename_i oo u hpos;cases hr;obtain⟨p,hp,hv⟩:=zQ hx;refine rC.pure hH (v:= .pointer (some ⟨p.1,p.2+off+oo,none⟩)) ?_ (.inr ⟨rfl,p,hp,by rw[aRZ]⟩);simp only[execOp,ho,hv,aRy,a0d hT hH hty rfl h1 h2 hpos,aRp,aRI]
   .cases hr
  .cases hr
 .cases hr
theorem aIJ {x:Operand}{i:Nat}(ho:o.op= .extract x i) {sx:qB}(hx:rH g w sx (a.eval x)) {e:qJ}(hr:ZI i sx=some e) (hs: ∀p∈e.side,p):rC P o a g w H e:=by
 replace hx:=hx.1;unfold ZI at hr;split at hr
 rotate_left
 .rename_i b p c _;have run: ∀(v:pR) (vs:Array pR),a.eval x= .tuple vs->vs[i]? =some v->(execOp a.eval o).run P w= .ok (.value v) w:=by
   intro v vs h1 h2;simp [execOp,ho,h1,Instr.extract,h2]
  obtain⟨h1,h2⟩:=hx;unfold a9I at hr;split at hr
  .cases hr;cases b with
   |true=>exact rC.pure hH (run (.bool true) _ (h1 rfl) rfl) (wV _ _ _)
   |false=>exact rC.pure hH (run (.bool false) _ (h2 rfl) rfl) (wV _ _ _)
  .cases hr;have hb:=hs (b=true) pH;exact rC.pure hH (run (.int .i64 p) _ (h1 hb) rfl) (wN _ _ _ _)
  .cases hr;have hb:=hs (b=true) pH;exact rC.pure hH (run (.int .i32 c) _ (h1 hb) rfl) (wN _ _ _ _)
  .cases hr
 rotate_left
 .rename_i l _;obtain⟨vs,hv,hl⟩:=hx;have key: ∀(l:List ((Σ t:Ty,t.den)×pO)) (vs:pM) (i:Nat),MO g w l vs->U7 l i=some e->∃v,vs[i]? =some v/\rH g w e.slot v/\e.upd=[]/\e.rds=[]:=by
   intro l
   induction l with
   |nil=>intro vs i _ h;cases i<;>cases h
   |cons q l ih=>
    obtain⟨⟨t,x⟩,k⟩:=q;rintro vs i ⟨v,vs',rfl,r1,r2,r3⟩ h;cases i with
    |zero=>
     simp only[U7,aRd] at h;subst h;refine⟨v,rfl,?_,rfl,rfl⟩;have gen:rH g w (.val t x,k) v:=⟨r1,by
      cases k with
      |none=>trivial
      |some k=>exact r2⟩
     cases t with
     |rl e u=>
      cases x with
      |none=>exact⟨r1,trivial⟩
      |some q=>
       obtain⟨k',n⟩:=q;obtain⟨v',h1,h2,h3⟩:=AS rfl r1;simp only[aSc,and_true] at h2;subst h2;exact⟨⟨h1,h3⟩,trivial⟩
     |_=>exact gen
    |succ i=>
     obtain⟨v',h1,h2,h3,h4⟩:=ih vs' i r3 h;exact⟨v',by simpa using h1,h2,h3,h4⟩
  obtain⟨v,h1,h2,h3,h4⟩:=key l vs i hl hr;obtain⟨side,slot,upd,rds⟩:=e;simp only at h2 h3 h4;subst h3;refine rC.value (v:=v) (g':=g) (w':=w) ?_ (.pure hH h2);have:vs.toArray[i]? =some v:=by simpa using h1
  simp [execOp,ho,hv,Instr.extract,this]
 .cases hr
theorem aIK {x:Operand}(ho:o.op= .nilCheck x) {sx:qB}(hx:rH g w sx (a.eval x)) {e:qJ}(hr:ZD sx=some e):rC P o a g w H e:=by
 replace hx:=hx.1;unfold ZD at hr;split at hr
 .rename_i p _;obtain⟨i,off⟩:=p;cases hr;obtain⟨p,hp,hv⟩:=zQ hx;refine rC.pure hH (v:=a.eval x) ?_ hx;simp [execOp,ho,hv]
 .cases hr;obtain⟨b,off,cs,hv,h⟩:=hx;refine rC.pure hH (v:=a.eval x) ?_ ⟨b,off,cs,hv,h⟩;simp [execOp,ho,hv]
 .cases hr;obtain⟨b,cap,h1,h2,h3,hv⟩:=hx;refine rC.pure hH (v:=a.eval x) ?_ ⟨b,cap,h1,h2,h3,hv⟩;simp [execOp,ho,hv]
 .cases hr
theorem aIL {t:TypeId}{x ix:Operand}(ho:o.op= .index t x ix) {sx si:qB}(hx:rH g w sx (a.eval x)) (hi:rH g w si (a.eval ix)) {e:qJ}(hr:ZH (rK T t) sx si=some e) (hs: ∀p∈e.side,p):rC P o a g w H e:=by
 generalize hst:rK T t=ot at hr;replace hx:=hx.1;replace hi:=hi.1;unfold ZH at hr;split at hr
 .rename_i _ _ _ _ l _ k i _;cases hr;have hb:=hs _ (aRv.2 rfl);have h2:=(tE hT hst).2;simp only[yJ] at h2;have hv:=wU hx;have hvi:=wM hi;have hlt:(Int.toNat i)<List.length l:=KF hb.1 hb.2;refine rC.pure hH (v:= .int .u8 (tM l i)) ?_ (wN _ _ _ _);have hget:(if (0:Int)<=i then(⟨List.toArray l⟩:ByteArray)[Int.toNat i]? else none)=some (l[Int.toNat i]):=by
   rw[aRf hb.1];exact aIG l _ hlt
  have hbyte:tM l i=((l[Int.toNat i]).toNat:Int):=by
   unfold tM;rw[aRO,aRr hlt];rfl
  simp only[execOp,ho,hv,hvi,Instr.index,asIntOf,aRy,aRI,aRp,aRB h2,hget,hbyte]
 .cases hr
theorem aIM {t:TypeId}{x ix:Operand}(ho:o.op= .indexAddr t x ix) {sx si:qB}(hx:rH g w sx (a.eval x)) (hi:rH g w si (a.eval ix)) {e:qJ}(hr:ZG (rK T t) sx si=some e) (hs: ∀p∈e.side,p):rC P o a g w H e:=by
 generalize hst:rK T t=ot at hr;replace hx:=hx.1;replace hi:=hi.1;unfold ZG at hr;split at hr
 .rename_i t' el by' ar ls_ k n _ k' i _;split at hr
  .rename_i hpos;cases hr;have hb:=hs _ (aRv.2 rfl);obtain⟨h2,h3,_⟩:=(tE hT hst).2;obtain⟨ei,hei,hz⟩:=aRn.1 h3;simp only[aRR] at hz;have hvi:=wM hi;obtain⟨hc,hv⟩:=hx;rcases hv with⟨_,rfl⟩ |⟨b,cap,hv,hcap⟩
   .exact absurd (Int.lt_of_le_of_lt hb.1 hb.2) (Int.lt_irrefl 0)
   refine rC.pure hH (v:= .pointer (some ⟨b,0+Int.toNat i*t'.cells,none⟩)) ?_ ⟨b,cap,by rw[<-hv];exact hc,hb.1,hb.2,by rw[aRP,aSg]⟩;simp only[execOp,ho,hv,hvi,Instr.indexAt,asIntOf,aRy,aRI,aRp,aRB h2,sizeOf,typeInfo,aSk,hei,hz.1,aRf hb,aSC]
  .cases hr
 .rename_i t' el by' ar ls_ t1 l _ k i _;split at hr
  .rename_i htt;subst htt;cases hr;have hb:=hs _ (aRv.2 rfl);obtain⟨h2,h3,_⟩:=(tE hT hst).2;obtain⟨ei,hei,hz⟩:=aRn.1 h3;simp only[aRR] at hz;have hvi:=wM hi;obtain⟨ad,cap,hv,hle,hl⟩:=D5 hx;have hlt:(Int.toNat i)<List.length l:=KF hb.1 hb.2;rcases hl with rfl|⟨b,off,rfl,hL⟩
   .simp at hlt
   have hnth:l[Int.toNat i]? =some (qU t1 l i):=by
    unfold qU;rw[aRO,aRr hlt];rfl
   obtain⟨cs,hc1,hc2,hc3,hc4⟩:=MR hL hnth;refine rC.pure hH (v:= .pointer (some ⟨b,off+Int.toNat i*t1.cells,none⟩)) ?_ ⟨b,_,cs,rfl,hc2,hc3,hc4⟩;simp only[execOp,ho,hv,hvi,Instr.indexAt,asIntOf,aRy,aRI,aRp,aRB h2,sizeOf,typeInfo,aSk,hei,hz.1,aRf hb,aSC]
  .cases hr
 .rename_i s u el by' ls_ i off _ k n _;have hty:=tE hT hst;generalize h1:(Ty.pair s u).offs (Int.toNat n)=o1 at hr;generalize h2:(Ty.pair s u).fld (Int.toNat n)=o2 at hr;unfold U6 at hr;split at hr
  .split at hr
   .rename_i oo v hpos;cases hr;have hn0:=hs _ (aRv.2 rfl);obtain⟨p,hp,hv⟩:=zQ hx;have hvi:=wM hi;obtain⟨len,el',hu,hel,_⟩:=a99 hty rfl rfl;obtain⟨k1,k2,k3,k4⟩:=a0b hel h1 h2;obtain⟨ei,hei,hz⟩:=aRn.1 k2;have hb:(0:Int)<=n/\(n:Int)<(len:Int):=⟨hn0,aAa hn0 k1⟩;refine rC.pure hH (v:= .pointer (some ⟨p.1,p.2+off+oo,none⟩)) ?_ (.inr ⟨rfl,p,hp,by rw[aRZ]⟩);simp only[execOp,ho,hv,hvi,Instr.indexAt,Instr.sureAddr,asIntOf,aRy,aRI,aRp,aRB hu,sizeOf,typeInfo,aSk,hei,hz,aRf hb,aSC,k4]
   .cases hr
  .cases hr
 .rename_i s u el by' ls_ u' y _ k n _;split at hr
  .rename_i hu';subst hu';have hty:=tE hT hst;generalize hp:(Ty.pair s u).proj y (Int.toNat n)=q at hr;cases q with
   |none=>cases hr
   |some q=>
    obtain⟨v,z⟩:=q;simp only[U5] at hr;split at hr
    .rename_i hpos;cases hr;have hn0:=hs _ (aRv.2 rfl);obtain⟨b,off,cs,hv,hra,hS,hR⟩:=hx;have hvi:=wM hi;obtain⟨oo,c1,c2,c3,h1,h2,rfl,rfl,h5⟩:=ZZ hR hp;obtain⟨len,el',hu,hel,_⟩:=a99 hty rfl rfl;obtain⟨k1,k2,k3,k4⟩:=a0b hel h1 h2;obtain⟨ei,hei,hz⟩:=aRn.1 k2;have hb:(0:Int)<=n/\(n:Int)<(len:Int):=⟨hn0,aAa hn0 k1⟩;refine rC.pure hH (v:= .pointer (some ⟨b,off+c1.length,none⟩)) ?_ ⟨b,off+c1.length,c2,rfl,fun j v hj=> ?_,fun j hj=> ?_,h5⟩
     .simp only[execOp,ho,hv,hvi,Instr.indexAt,Instr.sureAddr,asIntOf,aRy,aRI,aRp,aRB hu,sizeOf,typeInfo,aSk,hei,hz,aRf hb,aSC,<-k4]
     .have:=hra (c1.length+j) v (by
       have hj':=(aRs.1 hj).1;rw[aRl,aRt pF,aR5,aRz hj'];exact hj)
      rw[aRZ];exact this
     .have:=hS (c1.length+j) (by
       have:=sR hR;have h6:=sR h5;simp only[aRg] at this;omega)
      rw[aRZ];exact this
    .cases hr
  .cases hr
 .cases hr
end
theorem aAb (off:Nat): ∀(vl:pM) (k:Nat) (cs:Array pR) (c1 c2 c3:pM),cs.toList=c1++c2++c3->c1.length=off+k->c2.length=vl.length->
  ((vl.zipIdx k).foldl (fun(cs:Array pR) (p:pR×Nat)=>cs.setIfInBounds (off+p.2) p.1) cs).toList=c1++vl++c3
 |[],_,cs,c1,c2,c3,h,_,h2=>by
  have:c2=[]:=aRS (by simpa using h2);subst this;simpa using h
 |v::vl,k,cs,c1,c2,c3,h,h1,h2=>by
  cases c2 with
  |nil=>simp at h2
  |cons u c2=>
   simp only[List.zipIdx_cons,List.foldl_cons];have:=aAb off vl (k+1) (cs.setIfInBounds (off+k) v) (c1++[v]) c2 c3 (by
    rw[Array.toList_setIfInBounds,h,<-h1];simp) pI (by simpa using h2)
   rw[this];simp
theorem aIN (off:Nat) (vs cs:Array pR) (c1 c2 c3:pM) (h:cs.toList=c1++c2++c3) (h1:c1.length=off) (h2:c2.length=vs.size):
  (vs.zipIdx.foldl (fun(cs:Array pR) (x:pR×Nat)=>match x with|(c,j)=>cs.setIfInBounds (off+j) c) cs).toList=c1++vs.toList++c3:=by
 rw[<-aS2,Array.toList_zipIdx];exact aAb off vs.toList 0 cs c1 c2 c3 h pF (by simpa using h2)
theorem aAc {place:Nat->pN}{cells:Array pR}{i:Nat}{v:pR}{rest:List (Nat×pR)}{off size:Nat}{c1 c2 c3:pM}(hp:place i=some (off,size)) (hs:v.cells.size=size)
  (h:cells.toList=c1++c2++c3) (h1:c1.length=off) (h2:c2.length=size):
  Instr.fill place cells ((i,v)::rest)=Instr.fill place (c1++v.cells.toList++c3).toArray rest:=by
 have hsz:cells.size=c1.length+c2.length+c3.length:=by rw[<-aRQ,h];simp;omega
 simp only[Instr.fill,hp];rw[aRk (by simp [hs];omega)];congr 1;apply aSp.1;rw[aIN off v.cells cells c1 c2 c3 h h1 pF]
theorem a0e {k:Nat}: ∀{t:Ty}{o:Nat}{cs:pM},K3 t=false->cs.length=t.cells->y7 k t o cs
 | .bool,_,_,_,_=>trivial
 | .int _,_,_,_,_=>trivial
 | .str,_,_,_,_=>trivial
 | .unit,_,_,_,_=>trivial
 | .ref,_,_,_,_=>trivial
 | .clo,_,_,_,_=>trivial
 | .mp,_,_,_,_=>trivial
 | .rl _ _,_,_,_,_=>trivial
 | .fn,_,_,_,_=>trivial
 | .mref,_,_,_,_=>trivial
 | .list _,_,_,h,_=>by simp [K3] at h
 | .pair a b,_,cs,h,hl=>by
  simp only[K3,aR3] at h;simp only[Ty.cells] at hl;exact⟨cs.take a.cells,cs.drop a.cells,by simp,by rw[aRD];omega,a0e h.1 (by rw[aRD];omega),a0e h.2 (by rw[aRA];omega)⟩
theorem a0f: ∀t:Ty,(uC t).length=t.cells
 | .bool=>rfl
 | .int _=>rfl
 | .str=>rfl
 | .unit=>rfl
 | .ref=>rfl
 | .clo=>rfl
 | .mp=>rfl
 | .rl _ _=>rfl
 | .fn=>rfl
 | .mref=>rfl
 | .list _=>rfl
 | .pair a b=>by simp only[uC,aRg,a0f a,a0f b,Ty.cells]
theorem UZ {k:Nat}: ∀(t:Ty) (o:Nat),y7 k t o (uC t)
 | .bool,_=>trivial
 | .int _,_=>trivial
 | .str,_=>trivial
 | .unit,_=>trivial
 | .ref,_=>trivial
 | .clo,_=>trivial
 | .mp,_=>trivial
 | .rl _ _,_=>trivial
 | .fn,_=>trivial
 | .mref,_=>trivial
 | .list _,_=> .inr rfl
 | .pair a b,_=>⟨uC a,uC b,rfl,a0f a,UZ a _,UZ b _⟩
theorem aAd {g:Gh}{w:pQ}{k:Nat}: ∀{t:Ty}{x:t.den}{cs:pM}{off o:Nat},y7 k t off cs->Rd g w t x cs->F6 t o=true->off+o+1≠k->∃(u:Ty),r9 (.list u) t x o=some []/\cs[o]? =some (.slice none 0 0):=by
 intro t
 induction t with
 |pair a b iha ihb=>
  intro x cs off o hn hr hl hk;obtain⟨c1,c2,e,h1,h2,h3⟩:=hn;obtain⟨d1,d2,e',r1,r2⟩:=hr;have hd:c1=d1/\c2=d2:=aTd (e.symm.trans e') (by rw[h1,sR r1]);obtain⟨rfl,rfl⟩:=hd;have key: ∀(u:Ty) q,r9 (.list u) (.pair a b) x q=if q<a.cells then r9 (.list u) a x.1 q else r9 (.list u) b x.2 (q-a.cells):=by
   intro u q;cases q with
   |zero=>
    conv=>lhs;unfold r9
    rw[aSY (by intro e;cases e),Nat.zero_sub]
   |succ q=>simp [r9]
  have hl':(if o<a.cells then F6 a o else F6 b (o-a.cells))=true:=by
   cases o<;>simpa[F6] using hl
  by_cases ho:o<a.cells
  .rw[aRf ho] at hl';obtain⟨u,k1,k2⟩:=iha h2 r1 hl' hk;exact⟨u,by rw[key,aRf ho];exact k1,by rw[e,aRz pF];exact k2⟩
  .rw[aRk ho] at hl';obtain⟨u,k1,k2⟩:=ihb h3 r2 hl' pF;exact⟨u,by rw[key,aRk ho];exact k1,by rw[e,aRt pF,h1];exact k2⟩
 |list u=>
  intro x cs off o hn hr hl hk;cases o with
  |succ o=>simp [F6] at hl
  |zero=>
   obtain⟨a,cap,e,_,_⟩:=hr;have hn':cs=[.slice none 0 0]:=hn.resolve_left (by simpa using hk);rw[hn'] at e;simp only[aSc,aTf,and_true] at e;have:(x:List u.den)=[]:=aRS e.2.1.symm;subst this;exact⟨u,by unfold r9;simp [uY],by rw[hn'];rfl⟩
 |_=>intro x cs off o hn hr hl;cases o<;>simp [F6] at hl
theorem aIO {g:Gh}{w:pQ}{u:Ty}{y:u.den}{cy:pM}(hy:Rd g w u y cy): ∀{t:Ty}{x z:t.den}{cs:pM}{f:Nat},Rd g w t x cs->Ty.setPart u y t x f=some z->
  ∃o c1 c2 c3,t.offs f=some o/\t.fld f=some u/\cs=c1++c2++c3/\c1.length=o/\c2.length=u.cells/\Rd g w t z (c1++cy++c3)/\(∀k off,y7 k t off cs->y7 k u (off+o) cy->y7 k t off (c1++cy++c3)):=by
 intro t
 induction t with
 |pair a b _ ihb=>
  intro x z cs f r h;obtain⟨c1,c2,e,r1,r2⟩:=r;cases f with
  |zero=>
   simp only[Ty.setPart] at h;split at h
   .rename_i hu;subst hu;simp only[uY,aRd] at h;subst h;refine⟨0,[],c1,c2,rfl,rfl,by simpa using e,rfl,sR r1,⟨cy,c2,by simp,hy,r2⟩,fun k off ⟨d1,d2,e',k1,_,k3⟩ hcy=> ?_⟩;obtain⟨rfl,rfl⟩:=aTd (e'.symm.trans e) (by rw[k1,sR r1]);exact⟨cy,d2,by simp,sR hy,hcy,k3⟩
   .cases h
  |succ f=>
   simp only[Ty.setPart,aRn] at h;obtain⟨q,hq,rfl⟩:=h;obtain⟨o,d1,d2,d3,h1,h2,h3,h4,h5,h6,h7⟩:=ihb r2 hq;refine⟨a.cells+o,c1++d1,d2,d3,by simp [Ty.offs,h1],by simpa[Ty.fld] using h2,by rw[e,h3];simp,?_,h5,⟨c1,d1++cy++d3,by simp,r1,h6⟩,fun k off ⟨k1,k2,e',k3,k4,k5⟩ hcy=>by
    obtain⟨rfl,rfl⟩:=aTd (e'.symm.trans e) (by rw[k3,sR r1]);exact⟨k1,d1++cy++d3,by simp,k3,k4,h7 k _ k5 (by rw[aRZ];exact hcy)⟩⟩
   rw[aRg,h4,sR r1]
 |_=>intro x z cs f r h;cases f<;>simp [Ty.setPart] at h
theorem a0g {g:Gh}{w:pQ}{t:Ty}{ev:Operand->pR}{ρ:Operand->qB}{place:Nat->pN}(hp: ∀f o u,t.offs f=some o->t.fld f=some u->place f=some (o,u.cells)):
  ∀(ps:List (Nat×Operand)) (x z:t.den) (cs:pM),Rd g w t x cs->(∀q∈ps,rH g w (ρ q.2) (ev q.2))->AM t (some x) (uZ ρ ps)=some z->
  ∃cs',Instr.fill place cs.toArray (ps.map fun q=>(q.1,ev q.2))=some cs'.toArray/\Rd g w t z cs'/\(∀m k,AP t (uZ ρ ps)=some m->m=0\/m=k->y7 k t 0 cs->y7 k t 0 cs')
 |[],x,z,cs,r,_,h=>by
  simp only[uZ,AM,aRd] at h;subst h;exact⟨cs,rfl,r,fun _ _ _ _ h=>h⟩
 |(i,q)::ps,x,z,cs,r,hq,h=>by
  have h0:=hq (i,q) pH;have step: ∀{u:Ty}{y:u.den}{z1:t.den},tO g w u y (ev q)->Ty.setPart u y t x i=some z1->AM t (some z1) (uZ ρ ps)=some z->(∀m k,AP t (uZ ρ ((i,q)::ps))=some m->m=0\/m=k->(∀o,t.offs i=some o->y7 k u o (ev q).cells.toList)/\∃m',AP t (uZ ρ ps)=some m'/\(m'=0\/m'=k))->
    ∃cs',Instr.fill place cs.toArray (((i,q)::ps).map fun q=>(q.1,ev q.2))=some cs'.toArray/\Rd g w t z cs'/\(∀m k,AP t (uZ ρ ((i,q)::ps))=some m->m=0\/m=k->y7 k t 0 cs->y7 k t 0 cs'):=by
   intro u y z1 hv hset h hpl;obtain⟨o,c1,c2,c3,h1,h2,rfl,h4,h5,h6,h7⟩:=aIO (FB hv) r hset;obtain⟨cs',hf,hr,hn⟩:=a0g hp ps z1 z _ h6 (fun q hq'=>hq q (by simp [hq'])) h;refine⟨cs',?_,hr,fun m k hpp hm hcs=> ?_⟩
   rotate_left
   .obtain⟨q1,m',q2,q3⟩:=hpl m k hpp hm;exact hn m' k q2 q3 (h7 k 0 hcs (by rw[aRP];exact q1 o h1))
   simp only[aSi];rw[aAc (hp i o u h1 h2) (by have:=sR (FB hv);simpa using this) (c1:=c1) (c2:=c2) (c3:=c3) pH h4 h5];exact hf
  generalize hs:ρ q=s at h0;simp only[uZ,hs] at h;obtain⟨d,k⟩:=s;cases d with
  |val u y=>
   simp only[AM] at h;generalize hset:Ty.setPart u y t x i=o1 at h;cases o1 with
   |none=>cases ps with
    |nil=>simp [uZ,AM] at h
    |cons p ps=>simp [uZ,AM] at h
   |some z1=>
    have hpl: ∀m k,AP t (uZ ρ ((i,q)::ps))=some m->m=0\/m=k->(∀o,t.offs i=some o->y7 k u o (ev q).cells.toList)/\∃m',AP t (uZ ρ ps)=some m'/\(m'=0\/m'=k):=by
     intro m k hpp hm;simp only[uZ,hs,AP] at hpp;cases hu:K3 u with
     |false=>
      rw[hu] at hpp;simp only[TT] at hpp;exact⟨fun o _=>a0e hu (sR (FB h0.1)),m,hpp,hm⟩
     |true=>
      rw[hu] at hpp;cases hu2:Z0 u with
      |false=>rw[hu2] at hpp;simp [TT] at hpp
      |true=>
       rw[hu2] at hpp;simp only[TT] at hpp;cases ho:t.offs i with
       |none=>rw[ho] at hpp;simp [TS] at hpp
       |some o=>
        rw[ho] at hpp;cases hm2:AP t (uZ ρ ps) with
        |none=>rw[hm2] at hpp;simp [TS] at hpp
        |some m'=>
         rw[hm2] at hpp;simp only[TS] at hpp;split at hpp
         .rename_i hm0;subst hm0;simp only[aRd] at hpp;refine⟨fun o' ho'=> ?_,0,rfl,.inl rfl⟩;obtain rfl:=aRi ho';cases u with
          |list u=>exact .inl pF
          |_=>simp [Z0] at hu2
         .cases hpp
    obtain⟨cs',k1,k2,k3⟩:=step h0.1 hset h hpl;exact⟨cs',k1,k2,k3⟩
  |nilS=>
   simp only[AM] at h;generalize hfl:t.fld i=fl at h;cases fl with
   |none=>cases ps<;>simp [TD,uZ,AM] at h
   |some u=>
    cases u with
    |list u=>
     simp only[TD] at h;generalize hset:Ty.setPart (.list u) [] t x i=o1 at h;cases o1 with
     |none=>cases ps<;>simp [uZ,AM] at h
     |some z1=>
      have hev:ev q= .slice none 0 0:=h0.1;refine step (u:= .list u) (y:=[]) ?_ hset h (fun m k hpp hm=> ?_)
      .rw[hev];exact .inr ⟨rfl,none,0,rfl,aRE _,.inl rfl⟩
      .simp only[uZ,hs,AP] at hpp;exact⟨fun o _=>by rw[hev];exact .inr rfl,m,hpp,hm⟩
    |_=>cases ps<;>simp [TD,uZ,AM] at h
  |_=>simp [AM] at h
section
variable {P:Program}{o:Oper}{a:Act}{g:Gh}{w:pQ}{H:s7}{T:sK}(hT:xH P T) (hH:sE g w H)
include hT hH
theorem aAe {P:Program}(w:pQ): ∀(fs:List Field),(∀f∈fs,∃n,(P.info? f.type).map (·.size)=some n)->
  (fs.mapM (fun f=>do pure (f.offset,<-sizeOf f.type):Field->Sem (Nat×Nat))).run P w= .ok (fs.map fun f=>(f.offset,((P.info? f.type).map (·.size)).getD 0)) w
 |[],_=>rfl
 |f::fs,h=>by
  obtain⟨n,hn⟩:=h f pH;obtain⟨i,hi,hsz⟩:=aRn.1 hn;rw[List.mapM_cons];simp only[aRy,sizeOf,typeInfo,aSk,hi,aRp,aRI];have:=aAe w fs (fun f hf=>h f (by simp [hf]));simp only[sizeOf,typeInfo,aRy,aSk] at this;rw[this];simp [hi]
theorem aIP {P:Program}: ∀{ty:Ty}{off:Nat}{fs:List Field},MQ P ty off fs->∀f∈fs,∃n,(P.info? f.type).map (·.size)=some n:=by
 intro ty
 induction ty with
 |pair a b _ ihb=>
  intro off fs h f hf;cases fs with
  |nil=>cases hf
  |cons fd fs=>
   obtain⟨_,h2,_,h4⟩:=h;rcases aRu.1 hf with rfl|hf
   .exact⟨_,h2⟩
   .exact ihb h4 f hf
 |unit=>intro off fs h f hf;cases fs with|nil=>cases hf|cons=>exact h.elim
 |_=>intro off fs h f hf;cases fs<;>exact h.elim
omit hT hH in
theorem aAf {t:Ty}{x:t.den}{cs:pM}{ps:List (Nat×qB)}(h: ∀m k,AP t ps=some m->m=0\/m=k->y7 k t 0 (uC t)->y7 k t 0 cs):match ((DV.val t x,Z1 t (AP t ps)):qB) with
  |(_,none)=>True
  |(.val t x,some k)=>D3 g t x (.agg cs.toArray) (some k)
  |(_,some _)=>False:=by
 cases hp:AP t ps with
 |none=>cases t<;>trivial
 |some m=>
  cases t with
  |pair a b=>
   have:=h m m hp (.inr rfl) (UZ _ _);simpa[Z1,D3,Value.cells] using this
  |_=>trivial
omit hT in
theorem rC.pureS {s:qB}{v:pR}(hr:(execOp a.eval o).run P w= .ok (.value v) w) (hs:rH g w s v):rC P o a g w H ⟨[],s,[],[]⟩:=
 rC.value hr (.pure hH hs)
theorem aIQ {t:TypeId}{ps:Array (Nat×Operand)}(ho:o.op= .build t ps) {ρ:Operand->qB}(hρ: ∀q∈ps.toList,rH g w (ρ q.2) (a.eval q.2)) {e:qJ}(hr:Z2 (uZ ρ ps.toList) (rK T t)=some e):rC P o a g w H e:=by
 generalize hs:rK T t=ot at hr;cases ot with
 |none=>cases hr
 |some ti=>
  have hty:=tE hT hs;simp only[Z2] at hr;by_cases hrow:ti.ty.isRow=true
  case neg=>rw[aRk hrow] at hr;cases hr
  rw[aRf hrow] at hr;generalize hb:AM ti.ty (some ti.ty.zero) (uZ ρ ps.toList)=ox at hr;cases ox with
  |none=>cases hr
  |some x=>
   cases hr;obtain⟨i,hi,hsz,hz⟩:=E2 hty;have hzv:wL ti.ty= .agg (uC ti.ty).toArray:=by unfold wL;rw[aRf hrow]
   have hzr: ∀w,(zeroValue t).run P w= .ok (.agg (uC ti.ty).toArray) w:=by
    intro w;simp [zeroValue,typeInfo,hi,hz,hzv]
   have hmap:(ps.map fun(q:Nat×Operand)=>(q.1,a.eval q.2)).toList=ps.toList.map fun q=>(q.1,a.eval q.2):=by simp
   rcases a0c hty hrow with⟨har,fs,hfs,hfe⟩ |⟨har,n,el,hu,hel,hsome⟩
   .have hpl:=aAe (P:=P) hT hH w fs.toList (aIP hT hH hfe);obtain⟨cs',hf,hR,hN⟩:=a0g (g:=g) (w:=w) (ev:=a.eval) (ρ:=ρ) (t:=ti.ty) (place:=fun j=>((fs.map fun f=>(f.offset,((P.info? f.type).map (·.size)).getD 0))[j]?)) (fun f oo u h1 h2=>by
     obtain⟨fd,k1,k2,k3,_⟩:=a0a hfe h1 h2;have k1':fs[f]? =some fd:=by simpa using k1
     simp [k1',k2,k3]) ps.toList ti.ty.zero x (uC ti.ty) (DZ g w ti.ty) hρ hb
    refine rC.pureS hH (v:= .agg cs'.toArray) ?_ ⟨.inl ⟨hrow,cs',rfl,hR⟩,aAf hN⟩;have hmp:(fs.mapM (fun f=>do pure (f.offset,<-sizeOf f.type):Field->Sem (Nat×Nat))).run P w= .ok (fs.map fun f=>(f.offset,((P.info? f.type).map (·.size)).getD 0)) w:=by
     rw[Array.mapM_eq_mapM_toList,Sem.run_map,hpl];simp only[aRp];congr 1;apply aSp.1;simp
    simp only[execOp,ho,Instr.build,aRy,hzr,aRp,aRB hfs,hmp,Value.cells];rw[hmap,hf];rfl
   .obtain⟨cs',hf,hR,hN⟩:=a0g (g:=g) (w:=w) (ev:=a.eval) (ρ:=ρ) (t:=ti.ty) (place:=fun j=>some (j*((P.info? el).map (·.size)).getD 0,((P.info? el).map (·.size)).getD 0)) (fun f oo u h1 h2=>by
     obtain⟨k1,k2,k3,k4⟩:=a0b hel h1 h2;simp [k2,k4]) ps.toList ti.ty.zero x (uC ti.ty) (DZ g w ti.ty) hρ hb
    refine rC.pureS hH (v:= .agg cs'.toArray) ?_ ⟨.inl ⟨hrow,cs',rfl,hR⟩,aAf hN⟩;obtain⟨ei,hei⟩:=aRh.1 hsome;simp only[hei,Option.map_some,aTk] at hf;simp only[execOp,ho,Instr.build,aRy,hzr,aRp,aRB hu,sizeOf,typeInfo,aSk,hei,aRI,Value.cells];rw[hmap,hf];rfl
theorem a0h {ρ:Operand->qB}{ev:Operand->pR}: ∀{xs:List Operand}{ss:List qB},(∀x∈xs,rH g w (ρ x) (ev x))->vX ρ xs=ss->∃vs,xs.map ev=vs/\vs.length=ss.length/\∀(i:Nat) (s:qB) (v:pR),ss[i]? =some s->vs[i]? =some v->rH g w s v
 |[],_,_,h=>⟨[],rfl,by rw[<-h];rfl,fun i s v _ hv=>by simp at hv⟩
 |x::xs,ss,hx,h=>by
  subst h;obtain⟨vs,h1,h2,h3⟩:=a0h (fun y hy=>hx y (by simp [hy])) rfl (xs:=xs);refine⟨ev x::vs,by simp [h1],by simp [vX,h2],fun i s v hs hv=> ?_⟩;cases i with
  |zero=>
   simp only[vX,aRM,aRd] at hs hv;subst hs;subst hv;exact hx x pH
  |succ i=>
   simp only[vX,aRY] at hs hv;exact h3 i s v hs hv
theorem V0 {ρ:Operand->qB}{ev:Operand->pR}{args:Array Operand}{s:qB}(hρ: ∀x∈args.toList,rH g w (ρ x) (ev x)) (h:vX ρ args.toList=[s]): ∃v,args.map ev= #[v]/\rH g w s v:=by
 obtain⟨vs,h1,h2,h3⟩:=a0h hT hH hρ h;obtain⟨v,rfl⟩:=aSF.1 h2;exact⟨v,by apply aSp.1;simpa using h1,h3 0 s v rfl rfl⟩
theorem V1 {ρ:Operand->qB}{ev:Operand->pR}{args:Array Operand}{s t:qB}(hρ: ∀x∈args.toList,rH g w (ρ x) (ev x)) (h:vX ρ args.toList=[s,t]): ∃v u,args.map ev= #[v,u]/\rH g w s v/\rH g w t u:=by
 obtain⟨vs,h1,h2,h3⟩:=a0h hT hH hρ h
 match vs,h2 with
 |[v,u],_=>exact⟨v,u,by apply aSp.1;simpa using h1,h3 0 s v rfl rfl,h3 1 t u rfl rfl⟩
theorem GG {b:Builtin}{args:Array Operand}{tys:Array TypeId}(ho:o.op= .call ⟨.builtin b,args,tys⟩):
  ∃cs,execOp a.eval o=builtin b tys o.type cs (args.map a.eval):=by
 refine⟨args.map fun| .const _=>true|_=>false,?_⟩
 unfold execOp;rw[ho];rfl
theorem aIR (x y:Int):(if y<x then y else x)=min x y:=by rw[Int.min_def];split<;>split<;>omega
theorem aIS (x y:Int):(if y>x then y else x)=max x y:=by rw[Int.max_def];split<;>split<;>omega
theorem aIT {args:Array Operand}{tys:Array TypeId}(ho:o.op= .call ⟨.builtin .len,args,tys⟩) {ρ:Operand->qB}(hρ: ∀x∈args.toList,rH g w (ρ x) (a.eval x)) {e:qJ}
  (hr:UE T H (vX ρ args.toList) tys.toList=some e):rC P o a g w H e:=by
 obtain⟨t0,tr,htl⟩: ∃t0 tr,tys.toList=t0::tr:=by cases h:tys.toList with|nil=>(rw[h] at hr;cases hr) |cons t r=>exact⟨t,r,rfl⟩
 have ht0:tys[0]? =some t0:=by rw[<-aSn,htl];rfl
 rw[htl] at hr;simp only[UE] at hr;generalize hst:rK T t0=ot at hr;generalize hss:vX ρ args.toList=ss at hr;unfold ZJ at hr;split at hr
 .rename_i el fl ar ls_ i k;generalize hb:qD H i=ob at hr;unfold U8 at hr;split at hr
  .rename_i kt vt l;cases hr;obtain⟨v,hv,hs⟩:=V0 hT hH hρ hss;have h2:=(tE hT hst).2;simp only[yJ] at h2;obtain⟨p,es,cl,hp,hp0,hh,hM,hS⟩:=hH.blk i _ hb;obtain⟨p',hp',hxv⟩: ∃p,g.J i=some p/\v= .map (some p.1):=by
    rcases hs.1 with⟨h1,_⟩ |⟨_,p,h3,h4⟩
    .cases h1
    .simp only[aSc,and_true] at h4;exact⟨p,h3,h4⟩
   rw[hp] at hp';obtain rfl:=aRi hp';have hlen: ∀{l:List (kt.den×vt.den)}{es:List MapEntry},DX g w kt vt l es->es.length=l.length:=by
    intro l
    induction l with
    |nil=>intro es h;rw[show es=[] from h];rfl
    |cons q l ih=>intro es h;obtain⟨e,es',rfl,_,_,h5⟩:=h;simp [ih h5]
   refine rC.pure hH (v:= .int .i64 (List.length l:Int)) ?_ (wN _ _ _ _);obtain⟨cs,hx⟩:=GG (a:=a) hT hH ho;rw[hx,hv,hxv];have harg:(#[Value.map (some p.1)]:Array pR)[0]? =some (.map (some p.1)):=rfl;have hobj:(getObj p.1).run P w= .ok (.map es cl) w:=by simp [getObj,Sem.run,hh]
   simp only[builtin,Builtin.len_,ht0,harg,aRy,aRB h2,aRp,aRI,goInt,hobj];rw[<-hlen hM,aRQ]
  .cases hr
 .rename_i el by' ar ls_ l k;cases hr;obtain⟨v,hv,hs⟩:=V0 hT hH hρ hss;have h2:=(tE hT hst).2;simp only[yJ] at h2;have hv':=wU hs.1;refine rC.pure hH (v:= .int .i64 (List.length l:Int)) ?_ (wN _ _ _ _);subst hv';obtain⟨cs,hx⟩:=GG (a:=a) hT hH ho;rw[hx,hv];have harg:(#[Value.string ⟨List.toArray l⟩]:Array pR)[0]? =some (.string ⟨List.toArray l⟩):=rfl;simp only[builtin,Builtin.len_,ht0,harg,aRy,aRB h2,aRp,aRI,goInt];rfl
 .rename_i u el by' ar ls_ t l k;cases hr;obtain⟨v,hv,hs⟩:=V0 hT hH hρ hss;have h2:=(tE hT hst).2.1;obtain⟨ad,cap,rfl,_⟩:=D5 hs.1;refine rC.pure hH (v:= .int .i64 (List.length l:Int)) ?_ (wN _ _ _ _);obtain⟨cs,hx⟩:=GG (a:=a) hT hH ho;rw[hx,hv];have harg:(#[Value.slice ad (List.length l) cap]:Array pR)[0]? =some (.slice ad (List.length l) cap):=rfl;simp only[builtin,Builtin.len_,ht0,harg,aRy,aRB h2,aRp,aRI,goInt]
 .rename_i u el by' ar ls_ ko n k;cases hr;obtain⟨v,hv,hs⟩:=V0 hT hH hρ hss;have h2:=(tE hT hst).2.1;obtain⟨ad,cap,rfl⟩: ∃ad cap,v= .slice ad n cap:=by
   rcases hs.1.2 with⟨h,rfl⟩ |⟨b,cap,h,_⟩
   .exact⟨_,_,h⟩
   .exact⟨_,_,h⟩
  refine rC.pure hH (v:= .int .i64 (n:Int)) ?_ (wN _ _ _ _);obtain⟨cs,hx⟩:=GG (a:=a) hT hH ho;rw[hx,hv];have harg:(#[Value.slice ad n cap]:Array pR)[0]? =some (.slice ad n cap):=rfl;simp only[builtin,Builtin.len_,ht0,harg,aRy,aRB h2,aRp,aRI,goInt]
 .cases hr
theorem aAg {args:Array Operand}{tys:Array TypeId}{mx:Bool}(ho:o.op= .call ⟨.builtin (if mx then .max else .min),args,tys⟩) {ρ:Operand->qB}(hρ: ∀x∈args.toList,rH g w (ρ x) (a.eval x)) {e:qJ}
  (hr:AL (UC mx (vX ρ args.toList))=some e):rC P o a g w H e:=by
 obtain⟨q,hq,rfl⟩:=IC hr;generalize hss:vX ρ args.toList=ss at hq;unfold UC at hq;split at hq
 .rename_i k x k1 k' y k2;split at hq
  .rename_i hk;subst hk;cases hq;obtain⟨v,u,hv,hs1,hs2⟩:=V1 hT hH hρ hss;have e1:=wM hs1.1;have e2:=wM hs2.1;subst e1;subst e2;cases mx
   .refine rC.pure hH (v:= .int k (min (x:Int) y)) ?_ (wN _ _ _ _);obtain⟨cs,hx⟩:=GG (a:=a) hT hH ho;rw[hx,hv];have:=aIR hT hH x y;simp [builtin,Builtin.min_,Builtin.min2,this]
   .refine rC.pure hH (v:= .int k (max (x:Int) y)) ?_ (wN _ _ _ _);obtain⟨cs,hx⟩:=GG (a:=a) hT hH ho;rw[hx,hv];have:=aIS hT hH x y;simp [builtin,Builtin.max_,Builtin.max2,this]
  .cases hq
 .cases hq
theorem aIU {f:FuncId}{caps:Array Operand}(ho:o.op= .makeFunc (.func f) #[] caps) {ρ:Operand->qB}(hρ: ∀x∈caps.toList,rH g w (ρ x) (a.eval x)) {e:qJ}
  (hr:a9G f (JU (vX ρ caps.toList))=some e):rC P o a g w H e:=by
 generalize hc:JU (vX ρ caps.toList)=oc at hr;cases oc with
 |none=>cases hr
 |some l=>
  cases hr;have key: ∀(xs:List Operand) (l:pK),(∀x∈xs,rH g w (ρ x) (a.eval x))->JU (vX ρ xs)=some l->yI g l (xs.map a.eval):=by
   intro xs
   induction xs with
   |nil=>intro l _ h;simp only[vX,JU,aRd] at h;subst h;rfl
   |cons x xs ih=>
    intro l hx h;have h0:=hx x pH;generalize hs:ρ x=s at h0;simp only[vX,hs] at h;obtain⟨d,k⟩:=s;unfold JU at h;split at h
    .cases ‹_=[]›
    .rename_i p k r heq;simp only[aSc,aRR] at heq;obtain⟨⟨rfl,rfl⟩,rfl⟩:=heq;obtain⟨l',hl',rfl⟩:=aRn.1 h;obtain⟨i,off⟩:=p;obtain⟨p,hp,hv⟩:=zQ h0.1;exact⟨p,_,hp,by rw[aSi,hv],ih l' (fun y hy=>hx y (by simp [hy])) hl'⟩
    .cases h
  refine rC.pure hH (v:= .func (.func f) #[] (caps.map a.eval)) ?_ (.inr ⟨rfl,caps.toList.map a.eval,key _ _ hρ hc,by congr 2;apply aSp.1;simp⟩);simp [execOp,ho,Instr.makeFunc]
end
theorem a0i {α:Type}{l:List α}{m n:Int}(h0:0≤m) (h1:m≤n) (h2:n≤(l.length:Int)):(sC l m n).length=n.toNat-m.toNat:=by
  unfold sC;rw[aRD,aRA];omega
theorem aAh {α:Type}{R:α→pM→Prop}{c:Nat}: ∀{l:List α}{cs:pM}{i:Nat}{x:α},tX R c l cs→l[i]? =some x→∃c1 c2 c3,cs=c1++c2++c3∧c1.length=i*c∧c2.length=c∧R x c2
  | y::l,_,0,x,⟨c1,c2,e,h1,h2,h3⟩,h=>by
    simp only[aRM,aRd] at h;subst h;exact⟨[],c1,c2,by simpa using e,by simp,h1,h2⟩
  | y::l,_,i+1,x,⟨c1,c2,e,h1,h2,h3⟩,h=>by
    simp only[aRY] at h;obtain⟨d1,d2,d3,e1,e2,e3,e4⟩:=aAh h3 h;exact⟨c1++d1,d2,d3,by rw[e,e1];simp,by rw[aRg,h1,e2,aSm];omega,e3,e4⟩
theorem aIV {t:Ty}{l:List t.den}{i:Int}(h0:0≤i) (h:i.toNat<l.length):l[i.toNat]? =some (qU t l i):=by
  unfold qU;rw[aRO,aRr h];rfl
theorem MS {α:Type}{R:α→pM→Prop}{w:pQ}{S:Nat→Nat→Prop}{c b:Nat}: ∀{l:List α}{o:Nat}{cs:pM},tX R c l cs→w.rangeAt b o cs→(∀j,j<l.length*c→S b (o+j))→yV R w S c b o l
  |[],_,_,_,_,_=>trivial
  | x::l,o,cs,⟨c1,c2,e,h1,h2,h3⟩,hr,hS=>by
    subst e;refine⟨⟨c1,h1,fun j v hv=>hr j v (by rw[aRz (aRs.1 hv).1];exact hv),fun j hj=>hS j (by rw[aRj,aSm];omega),h2⟩,MS h3 (fun j v hv=> ?_) (fun j hj=> ?_)⟩
    · have:=hr (c+j) v (by rw[aRt pF,h1,aR5];exact hv)
      rwa [←aRZ] at this
    · have:=hS (c+j) (by rw[aRj,aSm];omega)
      rwa [←aRZ] at this
theorem a0j {u0:Ty}{l:List u0.den}: ∀{t:Ty}{x:t.den}{q: Σ t:Ty,t.den},zL u0 l t x=some q→q.1.cells=t.cells:=by
  intro t
  induction t with
  | rl e u=>
    intro x q h;cases x with
    |none=>cases h
    | some p=>
      simp only[zL,Z6] at h;split at h
      .cases h;rfl
      .cases h
  | pair a b iha ihb=>
    intro x q h;simp only[zL] at h;cases hf:BB a x.1 with
    | some p=>
      rw[hf] at h;cases hq:zL u0 l a x.1 with
      |none=>rw[hq] at h;cases h
      | some r=>
        obtain⟨a',x'⟩:=r;rw[hq] at h;simp only[K4,aRd] at h;subst h;have:=iha hq;simp only[Ty.cells] at this|-;omega
    | none=>
      rw[hf] at h;cases hq:zL u0 l b x.2 with
      |none=>rw[hq] at h;simp [K4] at h
      | some r=>
        obtain⟨b',y'⟩:=r;rw[hq] at h;simp only[K4,aRd] at h;subst h;have:=ihb hq;simp only[Ty.cells] at this|-;omega
  |_=>intro x q h;simp [zL] at h
theorem aIW {g:Gh}{w:pQ}{k n:Nat}{u0:Ty}{l:List u0.den}(hk: ∀cs,FA g (some (k,n)) cs→Rd g w (.list u0) l cs): ∀{t:Ty}{x:t.den}{cs:pM}{q: Σ t:Ty,t.den},BB t x=some (k,n)→zL u0 l t x=some q→Rd g w t x cs→Rd g w q.1 q.2 cs:=by
  intro t
  induction t with
  | rl e u=>
    intro x cs q hf h r;simp only[BB] at hf;subst hf;simp only[zL,Z6] at h;split at h
    · cases h
      exact hk _ r
    .cases h
  | pair a b iha ihb=>
    intro x cs q hf h r;obtain⟨c1,c2,e,r1,r2⟩:=r;simp only[BB] at hf;simp only[zL] at h;cases hfa:BB a x.1 with
    | some p=>
      rw[hfa] at h hf;simp only[Z5,aRd] at hf;subst hf;cases hq:zL u0 l a x.1 with
      |none=>rw[hq] at h;cases h
      | some z=>
        obtain⟨a',x'⟩:=z;rw[hq] at h;simp only[K4,aRd] at h;subst h;exact⟨c1,c2,e,iha hfa hq r1,r2⟩
    | none=>
      rw[hfa] at h hf;simp only[Z5] at hf;cases hq:zL u0 l b x.2 with
      |none=>rw[hq] at h;simp [K4] at h
      | some z=>
        obtain⟨b',y'⟩:=z;rw[hq] at h;simp only[K4,aRd] at h;subst h;exact⟨c1,c2,e,r1,ihb hf hq r2⟩
  |_=>intro x cs q hf;simp [BB] at hf
theorem aIX {g:Gh}{w:pQ}{H:s7}(hH:sE g w H) {k i:Nat}{e:TypeId}{t:Ty}{l:List t.den}{n:Nat}(hk:qD H k=some (.row e t l n)) {u:Ty}{x:u.den}{toks:pK}(hi:qD H i=some (.cells u x toks)) (hfr:BB u x=some (k,n)) {q: Σ t:Ty,t.den}(hq:zL t l u x=some q):
    ∃ g',sE g' w (qT [(i,q9.cells q.1 q.2 []),(k,q9.grow e t.cells (List.length l))] H)∧g'.J=g.J∧
      ∀side s rds v,HX rds=true→rH g' w s v→zO g w H ⟨side,s,[(i,q9.cells q.1 q.2 []),(k,q9.grow e t.cells (List.length l))],rds⟩ g' w v:=by
  obtain⟨hl,v,xs,hv,hown,hF,hnone,hseal⟩:=hH.blk k _ hk
  let g':Gh:={g with S:=fun b o=>g.S b o∨(v.ownBlock=some b∧o<n*t.cells)}
  have le:Le g w g' w:=⟨fun _ _ h=> .inl h,fun _ _ _=>rfl,fun _ _ h=>h,fun _ _ _ h=>h⟩;have hown2: ∀b,v.ownBlock=some b→∀o,sA g k (.row e t l n) b o:=fun b hb o=>⟨v,hv,hb⟩
  have hlist: ∀u,g.cur k n=some u→((u= .slice none 0 0∧n=0)∨∃b cap,u= .slice (some ⟨b,0,none⟩) n cap∧n≤cap)→tO g' w (.list t) l u:=by
    intro u hu hshape;rw[hv] at hu;obtain rfl:=aRi hu;rcases hshape with⟨rfl,h0⟩ |⟨b,cap,rfl,hcap⟩
    · have:l=[]:=aRS (by rw[hl,h0])
      subst this;exact .inr ⟨rfl,none,0,rfl,aRE _,.inl rfl⟩
    · refine .inr ⟨rfl,some ⟨b,0,none⟩,cap,by rw[hl],by rw[hl];exact hcap,.inr ⟨b,0,rfl,MS (D4 (fun _ _ h=>xR le h) hF) (fun j u hu=> ?_) (fun j hj=> ?_)⟩⟩
      · have:=hown.cells (g:=b) rfl j u hu
        rwa [aSC] at this
      · right
        exact⟨rfl,by rw[hl] at hj;omega⟩
  have hik:i≠k:=fun e1=>by rw[e1,hk] at hi;cases hi
  obtain⟨p0,cs0,hp0,hR0,hra0,hth0,hns0,_⟩:=hH.blk i _ hi
  let b':q9:= .cells q.1 q.2 []
  let H':s7:=(i,b')::(k,q9.grow e t.cells (List.length l))::H
  have hget: ∀i' b,qD H' i'=some b→(i'=i∧b=b')∨(i'=k∧b= .grow e t.cells (List.length l))∨(i'≠k∧i'≠i∧qD H i'=some b):=by
    intro i' b hb;simp only[H',qD] at hb;split at hb
    .rename_i e1;exact .inl ⟨e1.symm,(aRi hb).symm⟩
    · rename_i e1
      split at hb
      .rename_i e2;exact .inr (.inl ⟨e2.symm,(aRi hb).symm⟩)
      .rename_i e2;exact .inr (.inr ⟨Ne.symm e2,Ne.symm e1,hb⟩)
  have howns: ∀i' b bb o,qD H' i'=some b→sA g' i' b bb o→∃b0,qD H i'=some b0∧sA g i' b0 bb o:=by
    intro i' b bb o hb ho;rcases hget i' b hb with⟨rfl,rfl⟩ |⟨rfl,rfl⟩ |⟨_,_,h1⟩
    · obtain⟨p,hp,e1,e2,e3⟩:=ho
      rw[a0j hq] at e3;exact⟨_,hi,p,hp,e1,e2,e3⟩
    · obtain⟨u,hu,hub⟩:=ho
      have hu':g.cur i' (List.length l)=some u:=hu;rw[hl] at hu';exact⟨_,hk,u,hu',hub⟩
    .exact⟨b,h1,(zP (g':=g') (g:=g) rfl rfl).1 ho⟩
  have hheap:sE g' w H':=by
    refine⟨fun i' b hb=> ?_,fun i' j bi bj b o hij h1 h2 o1 o2=> ?_,fun b o hS=> ?_,hH.tab.1,fun i' b bb oo hb ho=>by
      obtain⟨c1,k1,k2⟩:=howns i' b bb oo hb ho;exact hH.tab.2 i' c1 bb oo k1 k2⟩
    · rcases hget i' b hb with⟨rfl,rfl⟩ |⟨rfl,rfl⟩ |⟨hne,_,h1⟩
      · have hk2: ∀cs,FA g' (some (k,n)) cs→Rd g' w (.list t) l cs:=by
          rintro cs ⟨v1,z1,z2,z3⟩;rw[z2];exact AS rfl (hlist v1 z1 z3)
        refine⟨p0,cs0,hp0,aIW (n:=n) hk2 hfr hq (xR le hR0),hra0,?_,?_,fun _ _ hm=>by cases hm⟩
        .rw[a0j hq];exact⟨hth0.1,hth0.2⟩
        · rw[a0j hq]
          intro j hj hS;rcases hS with hS|hS
          .exact hns0 j hj hS
          .exact hH.dis i' k _ _ p0.1 (p0.2+j) hik hi hk ⟨p0,hp0,rfl,pF,pF⟩ (hown2 _ hS.1 _)
      · refine⟨v,xs,by rw[hl];exact hv,by rw[hl];exact hown,fun m hm=>hnone m (by rw[hl] at hm;exact hm),fun b hb o hS=> ?_⟩
        rw[hl];rcases hS with hS|hS
        .exact absurd hS (hseal b hb o)
        .exact hS.2
      .exact MP (hH.blk i' b h1) le rfl rfl (fun _ _ _=>⟨rfl,rfl⟩) (fun _ _=>rfl) (fun bb o ho hS=>by
          rcases hS with hS|hS
          .exact hS
          .exact absurd (hown2 bb hS.1 o) (fun h5=>hH.dis i' k b _ bb o hne h1 hk ho h5)) (fun _ _ _ _ h=>h)
    · obtain⟨c1,k1,k2⟩:=howns i' bi b o h1 o1
      obtain⟨c2,k3,k4⟩:=howns j bj b o h2 o2;exact hH.dis i' j c1 c2 b o hij k1 k3 k2 k4
    · rcases hS with hS|hS
      .exact hH.sl b o hS
      .exact PS hown hS.1
  refine⟨g',hheap,rfl,fun side s rds vv hre hs=>⟨le,hs,hheap,⟨rfl,rfl,rfl,aRE _,fun _ _ _=>rfl,fun _ _ _ _=>⟨rfl,rfl⟩,fun b o hS=> ?_,fun _ _ h=> .inl h⟩,fun i' blk b o hm hg ho=> ?_,fun _ _=>⟨rfl,rfl⟩,fun h=>by rw[hre] at h;cases h⟩⟩
  · rcases hS with hS|hS
    .exact .inl hS
    .exact .inr (.inr ⟨k,_,by simp [qE],hk,hown2 b hS.1 o⟩)
  · obtain⟨b0,k1,k2⟩:=howns i' blk b o hg ho
    exact .inr ⟨i',b0,hm,k1,k2⟩
section
variable {P:Program}{o:Oper}{a:Act}{g:Gh}{w:pQ}{H:s7}{T:sK}(hT:xH P T) (hH:sE g w H)
include hT hH
theorem PW {t:TypeId}{ti:TI}(hty:tQ P t ti) {x:ti.ty.den}{b off:Nat}{cs:pM}(hra:w.rangeAt b off cs) (hR:Rd g w ti.ty x cs):
    ∃v,(Instr.loadAt t (.pointer (some ⟨b,off,none⟩))).run P w= .ok v w∧tO g w ti.ty x v∧v.cells.toList=cs:=by
  obtain⟨d,hd,hrow⟩:=UY hty;obtain⟨i,hi,hsz,_⟩:=E2 hty;have hl:=sR hR;by_cases hr:ti.ty.isRow=true
  .refine⟨.agg cs.toArray,run_loadAt_mid w b off t cs d hra hd (by rw[hrow,hr]) (by rw[hi,Option.map_some,hsz,hl]),.inl ⟨hr,cs,rfl,hR⟩,by simp [Value.cells]⟩
  · have hr':ti.ty.isRow=false:=by simpa using hr
    have h1:ti.ty.cells=1:=by
      obtain⟨ty,el,by',ar,ls⟩:=ti;cases ty<;>first|rfl|(simp [Ty.isRow] at hr')
    obtain⟨v,rfl⟩: ∃v,cs=[v]:=by rw[h1] at hl;exact aSF.1 hl
    have hv1:=AR hR v pH;refine⟨v,?_,.inr ⟨hr',hR⟩,by cases v<;>first|rfl|(simp [Value.oneCell'] at hv1)⟩
    have hc:w.cell? ⟨b,off,none⟩=some v:=by simpa using hra 0 v rfl
    have hagg:(isAgg t).run P w= .ok false w:=by
      unfold isAgg;rw[aRy,aRB hd w];rw[hr'] at hrow;cases d<;>simp_all [TypeDesc.isRow]
    simp [Instr.loadAt,Instr.sureAddr,loadVar,aRy,hagg,hc]
theorem MT {b off:Nat}{c1 c2 c3:pM}(h:w.rangeAt b off (c1++c2++c3)):w.rangeAt b (off+c1.length) c2:=fun j v hj=>by
  have:=h (c1.length+j) v (by
    have hj':=(aRs.1 hj).1;rw[aRl,aRt pF,aR5,aRz hj'];exact hj)
  rw[aRZ];exact this
theorem aAi {k n c:Nat}{i:Int}{o':Nat}{v:pR}(hx:A7 g w (.elt k n c i o') v) {e:TypeId}{t:Ty}{l:List t.den}{m:Nat}(hk:qD H k=some (.row e t l m)) (hnm:n=m) (hc:c=t.cells):
    ∃ b cap xs c1 c2 c3,v= .pointer (some ⟨b,i.toNat*c+o',none⟩)∧g.cur k m=some (.slice (some ⟨b,0,none⟩) m cap)∧w.ownsRow 0 e t.cells (.slice (some ⟨b,0,none⟩) m cap) m xs∧tX (Rd g w t) t.cells l xs∧l.length=m∧i.toNat<l.length∧0≤i∧
      xs=c1++c2++c3∧c1.length=i.toNat*c∧c2.length=c∧Rd g w t (qU t l i) c2:=by
  subst hnm;subst hc;obtain⟨b,cap,h1,h2,h3,hv⟩:=hx;obtain⟨hl,v0,xs,hv0,hown,hF,hnone,hseal⟩:=hH.blk k _ hk;rw[h1] at hv0;obtain rfl:=aRi hv0;have hi:i.toNat<l.length:=by rw[hl];omega
  obtain⟨c1,c2,c3,e1,e2,e3,e4⟩:=aAh hF (aIV h2 hi);exact⟨b,cap,xs,c1,c2,c3,hv,h1,hown,hF,hl,hi,h2,e1,e2,e3,e4⟩
theorem aIY {e:TypeId}{c n:Nat}{q cap:Nat}{xs:pM}(h:w.ownsRow 0 e c (.slice (some ⟨q,0,none⟩) n cap) n xs):w.rangeAt q 0 xs:=fun j u hu=>by
  have:=h.cells (g:=q) rfl j u hu;rwa [aSC] at this
theorem aIZ {t:TypeId}{ti:TI}(hst:rK T t=some ti) {k n c:Nat}{i:Int}{o':Nat}{vx:pR}(hx:A7 g w (.elt k n c i o') vx) {e:qJ}(hr:PB ti.ty k n c i o' (qD H k)=some e) (hs: ∀p∈e.side,p):
    ∃v,(Instr.loadAt t vx).run P w= .ok v w∧rH g w e.slot v∧e.upd=[]:=by
  generalize hk:qD H k=ob at hr;unfold PB at hr;split at hr
  · rename_i e' t' l m
    split at hr
    · rename_i hc
      generalize hga:r9 ti.ty t' (qU t' l i) o'=oy at hr;cases oy with
      |none=>cases hr
      | some y=>
        cases hr;have hnm:=hs _ (aRv.2 rfl);obtain⟨b,cap,xs,c1,c2,c3,hv,hcur,hown,hF,hl,hi,h0,e1,e2,e3,e4⟩:=aAi hT hH hx hk hnm hc;obtain⟨d1,d2,d3,f1,f2,f3⟩:=DY e4 hga;have hra:=aIY hT hH hown;rw[e1] at hra;have hra2:=MT hT hH hra;rw[f1] at hra2;have hra3:=MT hT hH hra2;rw[aRP,e2,f2] at hra3;obtain⟨v,h1,h2,_⟩:=PW hT hH (tE hT hst) hra3 f3;exact⟨v,by rw[hv];exact h1,⟨h2,trivial⟩,rfl⟩
    .cases hr
  .cases hr
theorem a0k: ∀{toks:pK}{q k:Nat},xO toks q=some k→(q,k)∈toks
  |[],_,_,h=>by simp [xO] at h
  | (q',k')::r,q,k,h=>by
    simp only[xO] at h;split at h
    · rename_i e
      subst e;simp only[aRd] at h;subst h;simp
    .exact aRo _ (a0k h)
theorem aAj {u v:Ty}: ∀{t:Ty}{x:t.den}{q:Nat}{l:List u.den}{y:v.den},r9 (.list u) t x q=some l→r9 v t x q=some y→v.isRow=false→∃h:v= .list u,uY h y=l:=by
  intro t
  induction t with
  | pair s t ihs iht=>
    intro x q l y h1 h2 hv
    have key: ∀q,(if q<s.cells then r9 (.list u) s x.1 q else r9 (.list u) t x.2 (q-s.cells))=some l→(if q<s.cells then r9 v s x.1 q else r9 v t x.2 (q-s.cells))=some y→∃h:v= .list u,uY h y=l:=by
      intro q h1 h2;by_cases hq:q<s.cells
      .rw[aRf hq] at h1 h2;exact ihs h1 h2 hv
      .rw[aRk hq] at h1 h2;exact iht h1 h2 hv
    cases q with
    | zero=>
      have e1:Ty.pair s t≠.list u:=by intro h;cases h
      have e2:Ty.pair s t≠v:=by intro h;subst h;simp [Ty.isRow] at hv
      unfold r9 at h1 h2;rw[aSY e1] at h1;rw[aSY e2] at h2;exact key 0 (by simpa using h1) (by simpa using h2)
    |succ q=>exact key (q+1) (by simpa[r9] using h1) (by simpa[r9] using h2)
  | _=>
    intro x q l y h1 h2 hv;cases q with
    | zero=>
      unfold r9 at h1 h2;split at h1
      · rename_i e1
        split at h2
        · rename_i e2
          first
          |(cases e1;done)
          | (subst e2
             injection e1 with e1'
             subst e1';simp only[uY,aRd] at h1 h2;subst h1;subst h2;exact⟨rfl,rfl⟩)
        .simp at h2
      .simp at h1
    |succ q=>simp [r9] at h1
theorem aI0 {t:TypeId}{ti:TI}(hty:tQ P t ti) (hr:ti.ty.isRow=false) {b off:Nat}{v:pR}(hc:w.cell? ⟨b,off,none⟩=some v):
    (Instr.loadAt t (.pointer (some ⟨b,off,none⟩))).run P w= .ok v w:=by
  obtain⟨d,hd,hrow⟩:=UY hty
  have hagg:(isAgg t).run P w= .ok false w:=by
    unfold isAgg;rw[aRy,aRB hd w];rw[hr] at hrow;cases d<;>simp_all [TypeDesc.isRow]
  simp [Instr.loadAt,Instr.sureAddr,loadVar,aRy,hagg,hc]
omit hT hH in
theorem aAk {a b:Option qJ}{e:qJ}(h:orE a b=some e):a=some e∨b=some e:=by
  cases a with
  |some r=>exact .inl h
  |none=>exact .inr h
omit hT hH in
theorem aAl {H:List (Nat×q9)}{t:Ty}{i off:Nat}{b:Option q9}{x:Option qJ}{e:qJ}(h:orS H t i off b x=some e):x=some e∨(x=none∧I2 H t i off b=some e):=by
  cases x with
  |some r=>exact .inl h
  |none=>exact .inr ⟨rfl,h⟩
theorem aI1 {t:TypeId}{ti:TI}{x:Operand}(ho:o.op= .load t x) (hs:rK T t=some ti) {i off:Nat}(hx:tO g w .ref (some (i,off)) (a.eval x)) {e:qJ}(hr:TV i off ti (qD H i)=some e):rC P o a g w H e:=by
  have hty:=tE hT hs;generalize hb:qD H i=ob at hr;unfold TV at hr;split at hr
  · rename_i u el _ _ _ v x' toks
    generalize hga:r9 (.rl el u) v x' off=oy at hr;unfold Z4 at hr;split at hr
    · rename_i k n
      cases hr;obtain⟨p,hp,hv⟩:=zQ hx;obtain⟨p',cs,hp',hR,hra,_⟩:=hH.blk i _ hb;rw[hp] at hp';obtain rfl:=aRi hp';obtain⟨c1,c2,c3,rfl,rfl,hR2⟩:=DY hR hga;obtain⟨v0,hcur,rfl,hsh⟩:=hR2;have hc:w.cell? ⟨p.1,p.2+c1.length,none⟩=some v0:=by simpa using MT hT hH hra 0 _ rfl
      have h1:=aI0 (P:=P) hT hH hty rfl hc;exact rC.value (v:=v0) (g':=g) (w':=w) (by simp only[execOp,ho,hv,aRy,h1,aRp,aRI]) (.pure hH ⟨⟨hcur,hsh⟩,trivial⟩)
    .cases hr
  .cases hr
theorem aI2 {t:TypeId}{ti:TI}{x:Operand}(ho:o.op= .load t x) (hs:rK T t=some ti) {i off:Nat}(hx:tO g w .ref (some (i,off)) (a.eval x)) {e:qJ}(hr:I2 H ti.ty i off (qD H i)=some e) (hside: ∀p∈e.side,p):rC P o a g w H e:=by
  have hty:=tE hT hs;generalize hb:qD H i=ob at hr;unfold I2 at hr;split at hr
  case h_2=>cases hr
  rename_i v z toks;generalize hf:BB v z=of at hr;cases of with
  |none=>cases hr
  | some kn=>
    obtain⟨k,n0⟩:=kn;simp only[TX] at hr;generalize hk:qD H k=ok at hr;unfold TW at hr;split at hr
    case h_2=>cases hr
    rename_i el u0 l m;generalize hz:zL u0 l v z=oq at hr;cases oq with
    |none=>cases hr
    |some q=>
    obtain⟨v',x'⟩:=q;simp only[Z8] at hr;generalize hga:r9 ti.ty v' x' off=oy at hr;cases oy with
    |none=>cases hr
    | some y=>
      simp only[Z7,aRd] at hr;subst hr;have hnm:n0=m:=hside _ (aRv.2 rfl);subst hnm;obtain⟨g',hH',hJ,heff⟩:=aIX hH hk hb hf hz;obtain⟨p,hp,hv⟩:=zQ hx;obtain⟨p',cs,hp',hR,hra,_,_,_⟩:=hH'.blk i (.cells v' x' []) (by simp [qT,qD]);rw[hJ,hp] at hp';obtain rfl:=aRi hp';obtain⟨c1,c2,c3,rfl,rfl,hR2⟩:=DY hR hga;obtain⟨v0,h1,h2,_⟩:=PW hT hH' hty (MT hT hH' hra) hR2;exact rC.valueW (v:=v0) (g':=g') (w':=w) (by simp only[execOp,ho,hv,aRy,h1,aRp,aRI]) (heff _ _ _ _ rfl ⟨h2,trivial⟩)
theorem aI3 {t:TypeId}{x:Operand}(ho:o.op= .load t x) {sx:qB}(hx:rH g w sx (a.eval x)) {e:qJ}(hr:TY H (rK T t) sx=some e) (hside: ∀p∈e.side,p):rC P o a g w H e:=by
  generalize hs:rK T t=ot at hr;replace hx:=hx.1;unfold TY at hr;split at hr
  · rename_i ti k n c i o' _
    obtain⟨v,h1,h2,h3⟩:=aIZ hT hH hs hx hr hside;obtain⟨side,slot,upd,rds⟩:=e;simp only at h2 h3;subst h3;exact rC.value (v:=v) (g':=g) (w':=w) (by simp only[execOp,ho,aRy,h1,aRp,aRI]) (.pure hH h2)
  · rename_i ti u y k
    split at hr
    · rename_i hu
      subst hu;cases hr;have hty:=tE hT hs;obtain⟨b,off,cs,hv,hra,hS,hR⟩:=hx;obtain⟨v,h1,h2,_⟩:=PW hT hH hty hra hR;exact rC.pure hH (v:=v) (by simp only[execOp,ho,hv,aRy,h1,aRp,aRI]) h2
    .cases hr
  · rename_i ti i off k
    rcases aAl hr with hr|⟨_,hr⟩
    case inr=>exact aI2 hT hH ho hs hx hr hside
    rcases aAk hr with hr|hr
    case inr=>exact aI1 hT hH ho hs hx hr
    have hty:=tE hT hs;generalize hb:qD H i=ob at hr;unfold PA at hr;split at hr
    · rename_i u z toks
      generalize hga:r9 ti.ty u z off=oy at hr;cases oy with
      |none=>cases hr
      | some y=>
        cases hr;obtain⟨p,hp,hv⟩:=zQ hx;obtain⟨p',cs,hp',hR,hra,_,_,htk⟩:=hH.blk i _ hb;rw[hp] at hp';obtain rfl:=aRi hp';obtain⟨c1,c2,c3,rfl,rfl,hR2⟩:=DY hR hga;obtain⟨v,h1,h2,h3⟩:=PW hT hH hty (MT hT hH hra) hR2;refine rC.value (v:=v) (g':=g) (w':=w) (by simp only[execOp,ho,hv,aRy,h1,aRp,aRI]) (.pure hH ⟨h2,?_⟩);obtain⟨ty,el,by',ar,ls⟩:=ti;cases ty with
        | list u'=>
          simp only[F4];generalize htt:xO toks c1.length=ok;cases ok with
          |none=>trivial
          | some k=>
            obtain⟨u2,l,v',g1,g2,g3⟩:=htk _ _ (a0k hT hH htt);obtain⟨heq,hl⟩:=aAj hT hH g1 hga rfl;injection heq with heq'
            subst heq';have hlen:=sR hR2;obtain⟨v2,rfl⟩:=aSF.1 hlen
            have e2:v'=v2:=by
              have e:(c1++[v2]++c3)[c1.length]? =some v2:=by simp
              rw[e] at g2;exact(aRi g2).symm
            have e3:v=v2:=by
              have h4:=AS rfl h2;have hone:=AR h4 v pH;have:v.cells= #[v]:=by cases v<;>first|rfl|(simp [Value.oneCell'] at hone)
              rw[this] at h3;simpa using h3
            subst e2;subst e3;have e4:(y:List u'.den)=l:=hl;subst e4;exact g3
        |_=>trivial
    .cases hr
  .cases hr
theorem V2 {ρ:Operand→qB}{x:Option Operand}{n m:Int}(hρ: ∀y∈x.toList,rH g w (ρ y) (a.eval y)) (h:DQ (zM ρ x) n=some m):(x=none∧m=n)∨∃y k,x=some y∧a.eval y= .int k m:=by
  cases x with
  |none=>simp only[zM,DQ,aRd] at h;exact .inl ⟨rfl,h.symm⟩
  | some y=>
    have h0:=hρ y pH;simp only[zM] at h;unfold DQ at h;split at h
    .cases ‹some _=none›
    · rename_i k q kk heq
      simp only[aRd] at heq h;rw[heq] at h0;subst h;exact .inr ⟨y,k,rfl,wM h0.1⟩
    .cases h
theorem aAm {isSlice:Bool}{len cap:Nat}{lo hi:Option Operand}{m n:Int}(hlo:(lo=none∧m=0)∨∃y k,lo=some y∧a.eval y= .int k m) (hhi:(hi=none∧n=(len:Int))∨∃y k,hi=some y∧a.eval y= .int k n)
    (h0:0≤m) (h1:m≤n) (h2:n≤(len:Int)) (h3:len≤cap):(Instr.sliceBounds isSlice len cap (lo.map a.eval) (hi.map a.eval) none).run P w= .ok (m.toNat,n.toNat,cap) w:=by
  have e1:(n.toNat:Int)=n:=Int.toNat_of_nonneg pF;rcases hlo with⟨rfl,rfl⟩ |⟨y,k,rfl,hy⟩<;>rcases hhi with⟨rfl,rfl⟩ |⟨z,k',rfl,hz⟩
  .simp [Instr.sliceBounds]
  .simp [Instr.sliceBounds,hz,run_sliceBound,(by omega:0≤n),(by omega:n≤(cap:Int))]
  .simp [Instr.sliceBounds,hy,run_sliceBound,h0,h1]
  .simp [Instr.sliceBounds,hy,hz,run_sliceBound,(by omega:0≤n),(by omega:n≤(cap:Int)),e1,h0,h1]
theorem aI4 {t:TypeId}{x:Operand}{lo hi:Option Operand}(ho:o.op= .slice t x lo hi none) {ρ:Operand→qB}(hx:rH g w (ρ x) (a.eval x)) (hlo: ∀y∈lo.toList,rH g w (ρ y) (a.eval y)) (hhi: ∀y∈hi.toList,rH g w (ρ y) (a.eval y)) {e:qJ}
    (hr:AL (YO (rK T t) (ρ x) (zM ρ lo) (zM ρ hi))=some e) (hs: ∀p∈e.side,p):rC P o a g w H e:=by
  obtain⟨q,hq,rfl⟩:=IC hr;replace hx:=hx.1;generalize hst:rK T t=ot at hq;generalize hsx:ρ x=sx at hq hx;unfold YO at hq;split at hq
  · rename_i el by' ar ls_ l k
    generalize hb1:DQ (zM ρ lo) 0=o1 at hq;generalize hb2:DQ (zM ρ hi) (List.length l)=o2 at hq;unfold TC at hq;split at hq
    · rename_i m n
      cases hq;obtain⟨k1,k2,k3⟩:=hs _ (aRv.2 rfl);have h2:=(tE hT hst).2;simp only[yJ] at h2;have hv:=wU hx;have hbd:=aAm (P:=P) (isSlice:=false) (cap:=List.length l) hT hH (V2 hT hH hlo hb1) (V2 hT hH hhi hb2) k1 k2 k3 (aRE _);refine rC.pure hH (v:= .string ⟨(sC l m n).toArray⟩) ?_ (BD _ _ _);have hsz:(⟨List.toArray l⟩:ByteArray).size=List.length l:=by simp [ByteArray.size]
      have hext:(⟨List.toArray l⟩:ByteArray).extract m.toNat n.toNat=⟨(sC l m n).toArray⟩:=by
        apply ByteArray.ext;apply aSp.1;simp [sC]
      simp only[execOp,ho,hv,Option.map_none,Instr.sliceAt,Instr.slice,aRy,aRB h2,aRp,Option.isSome_none,aS0,aTn,hsz,hbd,hext,aRI]
    .cases hq
  · rename_i u el by' ar ls_ t1 l k
    split at hq
    · rename_i htu
      subst htu;generalize hb1:DQ (zM ρ lo) 0=o1 at hq;generalize hb2:DQ (zM ρ hi) (List.length l)=o2 at hq;unfold TC at hq;split at hq
      · rename_i m n
        cases hq;obtain⟨k1,k2,k3⟩:=hs _ (aRv.2 rfl);obtain⟨h2,h3,_⟩:=(tE hT hst).2;obtain⟨ei,hei,hz⟩:=aRn.1 h3;simp only[aRR] at hz;obtain⟨ad,cap,hv,hle,hl⟩:=D5 hx;have hbd:=aAm (P:=P) (isSlice:=true) (cap:=cap) hT hH (V2 hT hH hlo hb1) (V2 hT hH hhi hb2) k1 k2 k3 hle;refine rC.pure hH (v:= .slice (if cap=m.toNat then ad else ad.map (·.add (m.toNat*t1.cells))) (n.toNat-m.toNat) (cap-m.toNat)) ?_ (.inr ⟨rfl,(if cap=m.toNat then ad else ad.map (·.add (m.toNat*t1.cells))),cap-m.toNat,?_,?_,?_⟩)
        .simp only[execOp,ho,hv,Option.map_none,Instr.sliceAt,Instr.slice,aRy,aRB h2,aRp,hbd,sizeOf,typeInfo,aSk,hei,hz.1,aRI]
        .rw[a0i k1 k2 k3]
        .rw[a0i k1 k2 k3];omega
        · rcases hl with rfl|⟨b,off,rfl,hL⟩
          .exact .inl (by simp [sC])
          · by_cases hc:cap=m.toNat
            · left
              apply aRS;rw[a0i k1 k2 k3];omega
            · right
              rw[aRk hc];refine⟨b,off+m.toNat*t1.cells,by simp [aSC],?_⟩;exact a97 _ (a96 _ hL pF)
      .cases hq
    .cases hq
  .cases hq
end
theorem PX {α:Type}{R:α->pM->Prop}{c:Nat}(hR: ∀x cs,R x cs->∀v∈cs,v.oneCell'=true): ∀{l:List α}{cs:pM},tX R c l cs->∀v∈cs,v.oneCell'=true
 |[],_,h=>by rw[h];simp
 |_::_,_,⟨c1,c2,e,_,h2,h3⟩=>by
  subst e;intro v hv;rcases aR2.1 hv with h|h
  .exact hR _ _ h2 v h
  .exact PX hR h3 v h
theorem a0l {α:Type}{R:α->pM->Prop}{c:Nat}: ∀{l:List α}{cs cy:pM}{i:Nat}{y:α},tX R c l cs->R y cy->cy.length=c->i<l.length->
  ∃c1 c2 c3,cs=c1++c2++c3/\c1.length=i*c/\c2.length=c/\tX R c (l.set i y) (c1++cy++c3)
 |[],_,_,_,_,_,_,_,h=>by simp at h
 |_::l,_,cy,0,y,⟨c1,c2,e,h1,_,h3⟩,hy,hc,_=>⟨[],c1,c2,by simpa using e,by simp,h1,⟨cy,c2,by simp,hc,hy,h3⟩⟩
 |x::l,_,cy,i+1,y,⟨c1,c2,e,h1,h2,h3⟩,hy,hc,hi=>by
  obtain⟨d1,d2,d3,e1,e2,e3,e4⟩:=a0l h3 hy hc (by simpa using hi);refine⟨c1++d1,d2,d3,by rw[e,e1];simp,by rw[aRg,h1,e2,aSm];omega,e3,⟨c1,d1++cy++d3,by simp,h1,h2,e4⟩⟩
theorem MU {α:Type}{R:α->pM->Prop}{w:pQ}{S:Nat->Nat->Prop}{c b:Nat}: ∀{l:List α}{o:Nat},yV R w S c b o l->∃cs,tX R c l cs/\w.rangeAt b o cs/\∀j,j<l.length*c->S b (o+j)
 |[],o,_=>⟨[],rfl,fun j v h=>by simp at h,fun j h=>by simp at h⟩
 |x::l,o,⟨⟨c1,h1,h2,h3,h4⟩,h5⟩=>by
  obtain⟨c2,k1,k2,k3⟩:=MU h5;refine⟨c1++c2,⟨c1,c2,rfl,h1,h4,k1⟩,fun j v hv=> ?_,fun j hj=> ?_⟩
  .by_cases hj:j<c
   .exact h2 j v (by rwa [aRz pF] at hv)
   .have:=k2 (j-c) v (by rw[aRt pF,h1] at hv;exact hv);rwa [show o+c+(j-c)=o+j from by omega] at this
  .by_cases hj':j<c
   .exact h3 j hj'
   .have:=k3 (j-c) (by rw[aRj,aSm] at hj;omega);rwa [show o+c+(j-c)=o+j from by omega] at this
theorem aAn {g:Gh}{w:pQ}{t:Ty}: ∀n,tX (Rd g w t) t.cells (D1 t n) (List.flatten (List.replicate n (uC t)))
 |0=>rfl
 |n+1=>⟨uC t,_,rfl,sR (DZ g w t),DZ g w t,aAn n⟩
theorem aAo (t:Ty): ∀n,(D1 t n).length=n
 |0=>rfl
 |n+1=>by simp [D1,aAo t n]
def Gh.tok (g:Gh) (k n:Nat) (v:pR):Gh:={g with cur:=fun k' n'=>if k'=k/\n'=n then some v else g.cur k' n'}
def Gh.var (g:Gh) (i b:Nat) (k:Option (TypeId×Nat)):Gh:={g with J:=fun i'=>if i'=i then some ⟨b,0,k⟩ else g.J i'}
def Gh.shut (g:Gh) (b m:Nat):Gh:={g with S:=fun b' o=>g.S b' o\/(b'=b/\o<m)}
section
variable {g:Gh}{w:pQ}{H:s7}(hH:sE g w H)
include hH
theorem sB.nilTok {side:List Prop}{d:DV}{rds:pP}{base e c:Nat}{u:Ty}(hd:d= .val (.list u) []) (hf: ∀n,g.cur base n=none):
  sB g w H ⟨side,(d,some base),[(base,.grow e c 0)],rds⟩ (g.tok base 0 (.slice none 0 0)) w (.slice none 0 0):=by
 have le:Le g w (g.tok base 0 (.slice none 0 0)) w:=⟨fun _ _ h=>h,fun _ _ _=>rfl,fun _ _ h=>h,fun k n v h=>by
  show (if k=base/\n=0 then _ else _)=_;rw[aRk (fun⟨e1,_⟩=>by rw[e1,hf] at h;cases h)];exact h⟩
 have fr:Fr (sX g H (qE [(base,q9.grow e c 0)])) w w g.S (g.tok base 0 (.slice none 0 0)).S:= .refl _ _ _;have gho: ∀i,i∉qE [(base,q9.grow e c 0)]->(g.tok base 0 (.slice none 0 0)).J i=g.J i/\(g.tok base 0 (.slice none 0 0)).cur i=g.cur i:=fun i hi=>⟨rfl,by
  funext n;show (if i=base/\n=0 then _ else _)=_;rw[aRk (fun⟨e1,_⟩=>hi (by simp [qE,e1]))]⟩
 have cur0:(g.tok base 0 (.slice none 0 0)).cur base 0=some (.slice none 0 0):=by simp [Gh.tok]
 have own: ∀i blk b o,i∈qE [(base,q9.grow e c 0)]->qD (qT [(base,q9.grow e c 0)] H) i=some blk->¬sA (g.tok base 0 (.slice none 0 0)) i blk b o:=by
  intro i blk b o hi hg ho;simp only[qE,aRv] at hi;subst hi;simp only[qT,qD,aSU,aRd] at hg;subst hg;obtain⟨v,hv,hb⟩:=ho;rw[cur0] at hv;obtain rfl:=aRi hv;cases hb
 subst hd;refine⟨le,⟨.inr ⟨rfl,none,0,rfl,aRE _,.inl rfl⟩,cur0⟩,hH.upd le fr (fun i blk b o h1 h2 h3=>absurd h3 (own i blk b o h1 h2)) gho (fun i blk hi hg=> ?_) (fun i j bi bj b o hi hj hij hgi hgj hoi hoj=>own i bi b o hi hgi hoi) hH.sl,fr,fun i blk b o h1 h2 h3=>absurd h3 (own i blk b o h1 h2),gho,fun i u' y us h=>by
  simp only[qT,qD] at h;split at h
  .cases h
  .exact .inl ⟨y,us,h⟩⟩
 simp only[qE,aRv] at hi;subst hi;simp only[qT,qD,aSU,aRd] at hg;subst hg;refine⟨.slice none 0 0,[],cur0,World.ownsRow_nil w 0 e c,fun m hm=> ?_,fun b hb=>by cases hb⟩;show (if i=i/\m=0 then _ else _)=_;rw[aRk pF];exact hf m
theorem sB.row {side:List Prop}{rds:pP}{s:qB}{val:pR}{k:Nat}{e:TypeId}{t:Ty}{l:List t.den}{n:Nat}{v:pR}{xs:pM}{w':pQ}
  (hl:l.length=n) (hown:w'.ownsRow 0 e t.cells v n xs) (hF:tX (Rd g w t) t.cells l xs) (hnone: ∀m,n<m->g.cur k m=none) (hcur: ∀u,g.cur k n=some u->u=v)
  (hg:w.grownBy w' (v.ownBlock)\/∃q,w.grownBy w' q/\∀b,q=some b->∀o,sX g H [k] b o)
  (hcell: ∀b o,g.S b o->w'.cell? ⟨b,o,none⟩=w.cell? ⟨b,o,none⟩)
  (hseal: ∀b,v.ownBlock=some b->∀o,¬g.S b o)
  (hperm: ∀b,v.ownBlock=some b->w.heap.size<=b\/∀o,sX g H [k] b o)
  (hslot:rH (g.tok k n v) w' s val):sB g w H ⟨side,s,[(k,.row e t l n)],rds⟩ (g.tok k n v) w' val:=by
 have le:Le g w (g.tok k n v) w':=⟨fun _ _ h=>h,fun b o h=>hcell b o h,fun _ _ h=>h,fun k' n' v' h=>by
  show (if k'=k/\n'=n then _ else _)=_;by_cases hk:k'=k/\n'=n
  .obtain⟨rfl,rfl⟩:=hk;rw[aRf ⟨rfl,rfl⟩,hcur _ h]
  .rw[aRk hk];exact h⟩
 have cur1:(g.tok k n v).cur k n=some v:=by simp [Gh.tok]
 have hblk: ∀b,b<w.heap.size->(∀o,¬sX g H (qE [(k,q9.row e t l n)]) b o)->w'.heap[b]? =w.heap[b]? :=by
  intro b hb hno;rcases hg with hg|⟨q,hg,hq⟩
  .refine hg.block b hb (fun e1=> ?_);rcases hperm b e1.symm with h|h
   .omega
   .exact hno 0 (h 0)
  .exact hg.block b hb (fun e1=>hno 0 (hq b e1.symm 0))
 have hgo:w'.os=w.os/\w'.tape=w.tape/\w'.output=w.output/\w.heap.size<=w'.heap.size:=by
  rcases hg with hg|⟨q,hg,_⟩
  .exact⟨hg.os,hg.tape,hg.output,hg.size⟩
  .exact⟨hg.os,hg.tape,hg.output,hg.size⟩
 have hall: ∀b o,sX g H (qE [(k,q9.row e t l n)]) b o->True:=fun _ _ _=>trivial;have hcell2: ∀b o,b<w.heap.size->¬sX g H (qE [(k,q9.row e t l n)]) b o->(w'.cell? ⟨b,o,none⟩=w.cell? ⟨b,o,none⟩/\w'.frozen? ⟨b,o,none⟩=w.frozen? ⟨b,o,none⟩):=by
  intro b o hb hno;have:w'.heap[b]? =w.heap[b]? :=by
   rcases hg with hg|⟨q,hg,hq⟩
   .refine hg.block b hb (fun e1=> ?_);rcases hperm b e1.symm with h|h
    .omega
    .exact hno (h o)
   .exact hg.block b hb (fun e1=>hno (hq b e1.symm o))
  exact⟨aRH (a:=⟨b,o,none⟩) this,aSb (a:=⟨b,o,none⟩) this⟩
 have hshape: ∀b s,w.shape? b=some s->w'.shape? b=some s\/∀o,sX g H (qE [(k,q9.row e t l n)]) b o:=by
  intro b s hs;rcases hg with hg|⟨q,hg,hq⟩
  .by_cases e1:v.ownBlock=some b
   .rcases hperm b e1 with h|h
    .have:=CD hs;omega
    .exact .inr h
   .exact .inl ((CE (hg.block b (CD hs) (fun h=>e1 h.symm))).trans hs)
  .by_cases e1:q=some b
   .exact .inr (hq b e1)
   .exact .inl ((CE (hg.block b (CD hs) (fun h=>e1 h.symm))).trans hs)
 have fr:Fr (sX g H (qE [(k,q9.row e t l n)])) w w' g.S (g.tok k n v).S:=⟨hgo.1,hgo.2.1,hgo.2.2.1,hgo.2.2.2,hblk,hcell2,fun b o h=> .inl h,hshape⟩;have gho: ∀i,i∉qE [(k,q9.row e t l n)]->(g.tok k n v).J i=g.J i/\(g.tok k n v).cur i=g.cur i:=fun i hi=>⟨rfl,by
  funext n';show (if i=k/\n'=n then _ else _)=_;rw[aRk (fun⟨e1,_⟩=>hi (by simp [qE,e1]))]⟩
 have get: ∀i blk,i∈qE [(k,q9.row e t l n)]->qD (qT [(k,q9.row e t l n)] H) i=some blk->i=k/\blk= .row e t l n:=by
  intro i blk hi hg;simp only[qE,aRv] at hi;subst hi;simp only[qT,qD,aSU,aRd] at hg;exact⟨rfl,hg.symm⟩
 have perm: ∀i blk b o,i∈qE [(k,q9.row e t l n)]->qD (qT [(k,q9.row e t l n)] H) i=some blk->sA (g.tok k n v) i blk b o->w.heap.size<=b\/sX g H (qE [(k,q9.row e t l n)]) b o:=by
  intro i blk b o hi hgt ho;obtain⟨rfl,rfl⟩:=get i blk hi hgt;obtain⟨v',hv',hb⟩:=ho;rw[cur1] at hv';obtain rfl:=aRi hv';exact(hperm b hb).imp id (fun h=>h o)
 refine⟨le,hslot,hH.upd le fr perm gho (fun i blk hi hgt=> ?_) (fun i j bi bj b o hi hj hij hgi hgj _ _=>hij ((get i bi hi hgi).1.trans (get j bj hj hgj).1.symm)) (fun b o h=>aRT (hH.sl b o h) hgo.2.2.2),fr,perm,gho,fun i u' y us h=>by
  simp only[qT,qD] at h;split at h
  .cases h
  .exact .inl ⟨y,us,h⟩⟩
 obtain⟨rfl,rfl⟩:=get i blk hi hgt;refine⟨hl,v,xs,cur1,hown,D4 (fun _ _ h=>xR le h) hF,fun m hm=> ?_,hseal⟩;show (if i=i/\m=n then _ else _)=_;rw[aRk pF];exact hnone m hm
theorem sB.newVarJ {side:List Prop}{rds:pP}{base:Nat}{t:Ty}{x:t.den}{toks:pK}{cs:pM}{e:TypeId}(hR:Rd (g.var base w.heap.size (some (e,cs.length))) w t x cs) (htk:GF g t x cs toks) (hf:g.J base=none) (hc:g.cur base=fun _=>none):
  sB g w H ⟨side,(.val .ref (some (base,0)),none),[(base,.cells t x toks)],rds⟩ (g.var base w.heap.size (some (e,cs.length))) (w.alloc (.cells cs.toArray e)) (.pointer (some ⟨w.heap.size,0,none⟩)):=by
 have hJ:(g.var base w.heap.size (some (e,cs.length))).J base=some ⟨w.heap.size,0,some (e,cs.length)⟩:=by simp [Gh.var]
 have le:Le g w (g.var base w.heap.size (some (e,cs.length))) (w.alloc (.cells cs.toArray e)):=⟨fun _ _ h=>h,fun b o h=>aRH (a:=⟨b,o,none⟩) (aRN _ _ _ (hH.sl b o h)),fun i p h=>by
  show (if i=base then _ else _)=_;rw[aRk (fun e1=>by rw[e1,hf] at h;cases h)];exact h,fun _ _ _ h=>h⟩
 have le2:Le (g.var base w.heap.size (some (e,cs.length))) w (g.var base w.heap.size (some (e,cs.length))) (w.alloc (.cells cs.toArray e)):=⟨fun _ _ h=>h,fun b o h=>aRH (a:=⟨b,o,none⟩) (aRN _ _ _ (hH.sl b o h)),fun _ _ h=>h,fun _ _ _ h=>h⟩;have fr:Fr (sX g H (qE [(base,q9.cells t x toks)])) w (w.alloc (.cells cs.toArray e)) g.S (g.var base w.heap.size (some (e,cs.length))).S:=
  ⟨rfl,rfl,rfl,by simp,fun b hb _=>aRN _ _ _ hb,fun b o hb _=>⟨aRH (a:=⟨b,o,none⟩) (aRN _ _ _ hb),aSb (a:=⟨b,o,none⟩) (aRN _ _ _ hb)⟩,fun b o h=> .inl h,fun b s h=> .inl ((CE (aRN _ _ _ (CD h))).trans h)⟩
 have gho: ∀i,i∉qE [(base,q9.cells t x toks)]->(g.var base w.heap.size (some (e,cs.length))).J i=g.J i/\(g.var base w.heap.size (some (e,cs.length))).cur i=g.cur i:=fun i hi=>⟨by
  show (if i=base then _ else _)=_;rw[aRk (fun e1=>hi (by simp [qE,e1]))],rfl⟩
 have get: ∀i blk,i∈qE [(base,q9.cells t x toks)]->qD (qT [(base,q9.cells t x toks)] H) i=some blk->i=base/\blk= .cells t x toks:=by
  intro i blk hi hg;simp only[qE,aRv] at hi;subst hi;simp only[qT,qD,aSU,aRd] at hg;exact⟨rfl,hg.symm⟩
 have perm: ∀i blk b o,i∈qE [(base,q9.cells t x toks)]->qD (qT [(base,q9.cells t x toks)] H) i=some blk->sA (g.var base w.heap.size (some (e,cs.length))) i blk b o->w.heap.size<=b\/sX g H (qE [(base,q9.cells t x toks)]) b o:=by
  intro i blk b o hi hg ho;obtain⟨rfl,rfl⟩:=get i blk hi hg;obtain⟨p,hp,h1,_⟩:=ho;rw[hJ] at hp;obtain rfl:=aRi hp;exact .inl (aSP h1.symm)
 have hl:=sR hR;refine⟨le,⟨.inr ⟨rfl,_,hJ,rfl⟩,trivial⟩,hH.upd le fr perm gho (fun i blk hi hg=> ?_) (fun i j bi bj b o hi hj hij hgi hgj _ _=>hij ((get i bi hi hgi).1.trans (get j bj hj hgj).1.symm)) (fun b o h=>aRT (hH.sl b o h) pH),fr,perm,gho,fun i u' y us h=>by
  simp only[qT,qD] at h;split at h
  .rename_i e1;subst e1;exact .inr ⟨hf,fun n=>by rw[hc]⟩
  .exact .inl ⟨y,us,h⟩⟩
 obtain⟨rfl,rfl⟩:=get i blk hi hg;refine⟨_,cs,hJ,xR le2 hR,fun j v hv=> ?_,⟨fun j hj=> ?_,fun _ s hs=> ?_⟩,fun j _ hs=>aSV _ (hH.sl _ _ hs),a95 le.cur htk⟩
 .simp only[aRP];rw[aTh];simpa using hv
 .simp only[aRP];rw[aTh,World.frozen?_alloc_new];exact⟨by simp;omega,rfl⟩
 .cases hs;show (match (w.heap.push (.cells cs.toArray e))[w.heap.size]? with|some (.cells c elem _)=>some (elem,c.size) |_=>none)=_
  rw[aTb];simp only[aR7]
theorem sB.newVar {side:List Prop}{rds:pP}{base:Nat}{t:Ty}{x:t.den}{toks:pK}{cs:pM}{e:TypeId}(hR:Rd g w t x cs) (htk:GF g t x cs toks) (hf:g.J base=none) (hc:g.cur base=fun _=>none):
  sB g w H ⟨side,(.val .ref (some (base,0)),none),[(base,.cells t x toks)],rds⟩ (g.var base w.heap.size (some (e,cs.length))) (w.alloc (.cells cs.toArray e)) (.pointer (some ⟨w.heap.size,0,none⟩)):=
 sB.newVarJ hH (xR (g:=g) (g':=g.var base w.heap.size (some (e,cs.length))) (w:=w) (w':=w) ⟨fun _ _ h=>h,fun _ _ _=>rfl,fun i p h=>by
  show (if i=base then _ else _)=_;rw[aRk (fun e1=>by rw[e1,hf] at h;cases h)];exact h,fun _ _ _ h=>h⟩ hR) htk hf hc
end
theorem a0m {P:Program}(w:pQ) (t ty e:TypeId) (i:TypeInfo) (z:pR) (size bytes:Nat) (ht:P.underlying t=some (.slice e)) (hi:P.info? e=some i) (hz:i.zero=some z)
  (hsize:i.size=size) (hby:i.bytes=bytes) (hzs:z.cells.size=size)
  (v:pR) (n:Nat) (xs:pM) (hown:w.ownsRow 0 e size v n xs)
  (a:Addr) (m c:Nat) (news:pM) (hl:news.length=m*size) (hnews: ∀j u,news[j]? =some u->w.cell? (a.add j)=some u) (h1: ∀u∈news,u.oneCell'=true) (hm:0<m)
  (h63:n+m<=maxLen) (hbytes:(n+m)*bytes<=140737488355328):
  ∃q cap w',(Builtin.append_ #[t,t] ty #[v,.slice (some a) m c]).run P w= .ok (.slice (some ⟨q,0,none⟩) (n+m) cap) w'/\w'.ownsRow 0 e size (.slice (some ⟨q,0,none⟩) (n+m) cap) (n+m) (xs++news)/\
   (q=w.heap.size\/v.ownBlock=some q)/\w.grownBy w' v.ownBlock/\n+m<=cap/\
   ∀b o,b<w.heap.size->(v.ownBlock=some b->o<n*size)->w'.cell? ⟨b,o,none⟩=w.cell? ⟨b,o,none⟩:=by
 subst hsize;subst hby;have hsmall:n+m<=9223372036854775807:=by simp only[maxLen] at h63;omega
 have hlen:(xs++news).length=(n+m)*i.size:=by rw[aRg,hown.1,hl,Nat.add_mul]
 have grown: ∀(old:Nat),old<n+m->∀(row:pO),
   (w.drew.alloc (.cells (xs.toArray++news.toArray++Builtin.zeroCells z.cells (grownCap w (n+m) old e- (n+m))) e)).ownsRow 0 e i.size
    (.slice (some ⟨w.heap.size,0,none⟩) (n+m) (grownCap w (n+m) old e)) (n+m) (xs++news)/\
   w.grownBy (w.drew.alloc (.cells (xs.toArray++news.toArray++Builtin.zeroCells z.cells (grownCap w (n+m) old e- (n+m))) e)) row/\n+m<=grownCap w (n+m) old e/\
   ∀b o,b<w.heap.size->(w.drew.alloc (.cells (xs.toArray++news.toArray++Builtin.zeroCells z.cells (grownCap w (n+m) old e- (n+m))) e)).cell? ⟨b,o,none⟩=w.cell? ⟨b,o,none⟩:=by
  intro old ho row;have hge:=grownCap_ge w (n+m) old e;have hcm:grownCap w (n+m) old e<=maxLen:=grownCap_le_maxLen w (n+m) old e h63;refine⟨⟨hlen,.inr ⟨w.heap.size,_,_,rfl,aSo _,aTg w.drew _,hge,hcm,?_,?_⟩⟩,⟨rfl,rfl,rfl,by simp,fun k hk _=>aRN w.drew _ k hk⟩,hge,fun b o hb=>aRH (w:=w) (a:=⟨b,o,none⟩) (aRN w.drew _ b hb)⟩
  .simp only[aS6,aR7,size_zeroCells,hzs,hown.1,hl,<-Nat.add_mul];congr 1;omega
  .simp only[Array.toList_append,aRl];rw[<-aRl,<-hlen];exact aSd
 rcases hown.2 with⟨rfl,rfl⟩ |⟨g,cap,cur,rfl,hbg,hg,hnc,hcm,hcs,htake⟩
 .have hx:xs=[]:=aRS (by simpa using hown.1);subst hx;have hr:=run_append_nil (P:=P) w t ty e i z ht hi hz a m c news hl hnews pF pF (by have hb:=hbytes;simp only[aRP] at hb;omega);have hgr:=grown 0 pF (Value.ownBlock (.slice none 0 0));simp only[aRP,List.nil_append,Array.empty_append] at hgr|-;exact⟨_,_,_,hr,hgr.1,.inl rfl,hgr.2.1,hgr.2.2.1,fun b o hb _=>hgr.2.2.2 b o hb⟩
 .by_cases hroom:n+m<=cap
  .have hfit:n*i.size+news.length<=cur.size:=by rw[hl,hcs,<-Nat.add_mul];exact aSu _ hroom
   have hr:=run_append_room (P:=P) w t ty e i ht hi g n cap cur hg a m c news hl hnews h1 hroom hfit;refine⟨_,_,_,hr,⟨hlen,.inr ⟨g,cap,_,rfl,hbg,aTa w g cur _ e _ hg,hroom,hcm,?_,?_⟩⟩,.inr rfl,⟨rfl,rfl,rfl,by simp,fun k _ hk=>aSN w g k _ (fun e=>hk (by simp [Value.ownBlock,e]))⟩,hroom,fun b o hb hso=> ?_⟩
   .simp only[aR7,aRg,aRD,aRA,aRQ];omega
   .rw[htake,<-hlen];exact aSd
   .by_cases hbg':b=g
    .subst hbg';have ho:=hso rfl;rw[cell_setRow_same w b o cur _ e _ hg,cell_of_row w b o cur e (0,0) hg];have hlt:o<(cur.toList.take (n*i.size)).length:=by rw[aRD,aRQ];omega
     rw[aRl,List.getElem?_toArray,aRz hlt,aSv,aRf ho,aSn]
    .exact aRH (w:=w) (a:=⟨b,o,none⟩) (aSN w g b _ hbg')
  .have holds: ∀j u,xs[j]? =some u->w.cell? ((⟨g,0,none⟩:Addr).add j)=some u:=hown.cells (g:=g) rfl;have hr:=run_append_grow (P:=P) w t ty e i z ht hi hz ⟨g,0,none⟩ n cap xs hown.1 holds a m c news hl hnews pF pF (growslice_fits pF hbytes);have hgr:=grown cap pF (Value.ownBlock (.slice (some ⟨g,0,none⟩) n cap));exact⟨_,_,_,hr,hgr.1,.inl rfl,hgr.2.1,hgr.2.2.1,fun b o hb _=>hgr.2.2.2 b o hb⟩
theorem a0n {w:pQ}{e:TypeId}{c n:Nat}{q cap:Nat}{xs:pM}(h:w.ownsRow 0 e c (.slice (some ⟨q,0,none⟩) n cap) n xs):w.rangeAt q 0 xs:=fun j u hu=>by
 have:=h.cells (g:=q) rfl j u hu;rwa [aSC] at this
theorem aI5 (w:pQ) (a:Addr) (v:pR) (b:Nat):(w.setCell a v).shape? b=w.shape? b:=by
 unfold World.shape? World.setCell;simp only[aSs];by_cases h:a.block=b
 .rw[aRf h];cases hb:w.heap[b]? with
  |none=>rfl
  |some x=>
   cases x with
   |cells c e f=>
    simp only[Option.map_some];split<;>simp
   |_=>rfl
 .rw[aRk h]
theorem PY (b:Nat): ∀(l:pM) (o:Nat) (w:pQ) (b':Nat),(w.setCells b o l).shape? b'=w.shape? b'
 |[],_,_,_=>rfl
 |v::l,o,w,b'=>by rw[World.setCells,PY b l,aI5]
section
variable {g:Gh}{w:pQ}{H:s7}(hH:sE g w H)
include hH
theorem sB.append {side:List Prop}{rds:pP}{k e c n:Nat}{u:Ty}{l r:List u.den}{w':pQ}{q cap:Nat}{v:pR}{xs news:pM}(hk:qD H k=some (.grow e c n)) (hc:c=u.cells)
  (hln:l.length=n) (hv:g.cur k n=some v) (hown:w.ownsRow 0 e c v n xs) (hnone: ∀m,n<m->g.cur k m=none) (hseal: ∀b,v.ownBlock=some b->∀o,g.S b o->o<n*c) (hl:tX (Rd g w u) c l xs) (hr:tX (Rd g w u) c r news) (hm:0<r.length)
  (ho:w'.ownsRow 0 e c (.slice (some ⟨q,0,none⟩) (n+r.length) cap) (n+r.length) (xs++news)) (hq:q=w.heap.size\/v.ownBlock=some q) (hg:w.grownBy w' v.ownBlock) (hcap:n+r.length<=cap)
  (hcell: ∀b o,b<w.heap.size->(v.ownBlock=some b->o<n*c)->w'.cell? ⟨b,o,none⟩=w.cell? ⟨b,o,none⟩):
  sB g w H ⟨side,(.val (.list u) (l++r),some k),[(k,.grow e c (n+r.length))],rds⟩ ((g.tok k (n+r.length) (.slice (some ⟨q,0,none⟩) (n+r.length) cap)).shut q ((n+r.length)*c)) w' (.slice (some ⟨q,0,none⟩) (n+r.length) cap):=by
 have hnb:=hnone (n+r.length) pF;have hownk: ∀o b,v.ownBlock=some b->sX g H (qE [(k,q9.grow e c (n+r.length))]) b o:=fun o b hb=>⟨k,_,by simp [qE],hk,v,hv,hb⟩;have hqlt:q<w'.heap.size:=(ho.lt q rfl).2;have le:Le g w ((g.tok k (n+r.length) (.slice (some ⟨q,0,none⟩) (n+r.length) cap)).shut q ((n+r.length)*c)) w':=⟨fun _ _ h=> .inl h,fun b o h=>hcell b o (hH.sl b o h) (fun hb=>hseal b hb o h),fun _ _ h=>h,fun k' n' v' h=>by
  show (if k'=k/\n'=n+r.length then _ else _)=_;rw[aRk (fun⟨e1,e2⟩=>by rw[e1,e2,hnb] at h;cases h)];exact h⟩
 have fr:Fr (sX g H (qE [(k,q9.grow e c (n+r.length))])) w w' g.S ((g.tok k (n+r.length) (.slice (some ⟨q,0,none⟩) (n+r.length) cap)).shut q ((n+r.length)*c)).S:=by
  have hbk: ∀b,b<w.heap.size->∀o,¬sX g H (qE [(k,q9.grow e c (n+r.length))]) b o->w'.heap[b]? =w.heap[b]? :=fun b hb o hno=>hg.block b hb (fun e1=>hno (hownk o b e1.symm));refine⟨hg.os,hg.tape,hg.output,hg.size,fun b hb hno=>hbk b hb 0 (hno 0),fun b o hb hno=>⟨aRH (a:=⟨b,o,none⟩) (hbk b hb o hno),aSb (a:=⟨b,o,none⟩) (hbk b hb o hno)⟩,fun b o h=> ?_,fun b s hs=> ?_⟩
  rotate_left
  .by_cases e1:v.ownBlock=some b
   .exact .inr fun o=>hownk o b e1
   .exact .inl ((CE (hg.block b (CD hs) (fun h=>e1 h.symm))).trans hs)
  rcases h with h|⟨rfl,_⟩
  .exact .inl h
  .rcases hq with h|h
   .exact .inr (.inl (aSP h.symm))
   .exact .inr (.inr (hownk o b h))
 have gho: ∀i,i∉qE [(k,q9.grow e c (n+r.length))]->((g.tok k (n+r.length) (.slice (some ⟨q,0,none⟩) (n+r.length) cap)).shut q ((n+r.length)*c)).J i=g.J i/\((g.tok k (n+r.length) (.slice (some ⟨q,0,none⟩) (n+r.length) cap)).shut q ((n+r.length)*c)).cur i=g.cur i:=fun i hi=>⟨rfl,by
  funext n';show (if i=k/\n'=n+r.length then _ else _)=_;rw[aRk (fun⟨e1,_⟩=>hi (by simp [qE,e1]))]⟩
 have cur1:((g.tok k (n+r.length) (.slice (some ⟨q,0,none⟩) (n+r.length) cap)).shut q ((n+r.length)*c)).cur k (n+r.length)=some (.slice (some ⟨q,0,none⟩) (n+r.length) cap):=by
  show (if k=k/\n+r.length=n+r.length then _ else _)=_;simp
 have get: ∀i blk,i∈qE [(k,q9.grow e c (n+r.length))]->qD (qT [(k,q9.grow e c (n+r.length))] H) i=some blk->i=k/\blk= .grow e c (n+r.length):=by
  intro i blk hi hg;simp only[qE,aRv] at hi;subst hi;simp only[qT,qD,aSU,aRd] at hg;exact⟨rfl,hg.symm⟩
 have perm: ∀i blk b o,i∈qE [(k,q9.grow e c (n+r.length))]->qD (qT [(k,q9.grow e c (n+r.length))] H) i=some blk->sA ((g.tok k (n+r.length) (.slice (some ⟨q,0,none⟩) (n+r.length) cap)).shut q ((n+r.length)*c)) i blk b o->w.heap.size<=b\/sX g H (qE [(k,q9.grow e c (n+r.length))]) b o:=by
  intro i blk b o hi hgt ho';obtain⟨rfl,rfl⟩:=get i blk hi hgt;obtain⟨v',hv',hb⟩:=ho';rw[cur1] at hv';obtain rfl:=aRi hv';cases hb;rcases hq with h|h
  .exact .inl (aSP h.symm)
  .exact .inr (hownk o _ h)
 have hF:tX (Rd ((g.tok k (n+r.length) (.slice (some ⟨q,0,none⟩) (n+r.length) cap)).shut q ((n+r.length)*c)) w' u) u.cells (l++r) (xs++news):=hc▸D4 (fun _ _ h=>xR le h) (PR hl hr);have hlr:(l++r).length=n+r.length:=by rw[aRg,hln]
 refine⟨le,⟨.inr ⟨rfl,some ⟨q,0,none⟩,cap,by rw[hlr],by rw[hlr];exact hcap,.inr ⟨q,0,rfl,MS hF (a0n ho) (fun j hj=> ?_)⟩⟩,?_⟩,hH.upd le fr perm gho (fun i blk hi hgt=> ?_) (fun i j bi bj b o hi hj hij hgi hgj _ _=>hij ((get i bi hi hgi).1.trans (get j bj hj hgj).1.symm)) (fun b o h=> ?_),fr,perm,gho,fun i u' y us h=>by
  simp only[qT,qD] at h;split at h
  .cases h
  .exact .inl ⟨y,us,h⟩⟩
 .right;rw[hlr] at hj;exact⟨rfl,by rw[hc];omega⟩
 .show _=_;rw[hlr];exact cur1
 .obtain⟨rfl,rfl⟩:=get i blk hi hgt;refine⟨_,_,cur1,ho,fun m hm'=> ?_,fun b hb o h=> ?_⟩
  .show (if i=i/\m=n+r.length then _ else _)=_;rw[aRk pF];exact hnone m pF
  .cases hb;rcases h with h|⟨_,h⟩
   .rcases hq with h2|h2
    .have:q<w.heap.size:=hH.sl _ _ h;omega
    .have:=hseal _ h2 o h;rw[Nat.add_mul];omega
   .exact h
 .rcases h with h|⟨rfl,_⟩
  .exact aRT (hH.sl b o h) hg.size
  .exact hqlt
theorem sB.lit {side:List Prop}{rds:pP}{base e c n:Nat}{u:Ty}{l:List u.den}{cs:pM}(hc:c=u.cells) (hln:l.length=n) (hl:tX (Rd g w u) c l cs) (hn:n<=maxLen) (hf: ∀m,g.cur base m=none):
  sB g w H ⟨side,(.val (.list u) l,some base),[(base,.grow e c n)],rds⟩ ((g.tok base n (.slice (some ⟨w.heap.size,0,none⟩) n n)).shut w.heap.size (n*c)) (w.alloc (.cells cs.toArray e)) (.slice (some ⟨w.heap.size,0,none⟩) n n):=by
 have hlen:=IB hl;have le:Le g w ((g.tok base n (.slice (some ⟨w.heap.size,0,none⟩) n n)).shut w.heap.size (n*c)) (w.alloc (.cells cs.toArray e)):=⟨fun _ _ h=> .inl h,fun b o h=>aRH (a:=⟨b,o,none⟩) (aRN _ _ _ (hH.sl b o h)),fun _ _ h=>h,fun k' n' v' h=>by
  show (if k'=base/\n'=n then _ else _)=_;rw[aRk (fun⟨e1,e2⟩=>by rw[e1,hf] at h;cases h)];exact h⟩
 have fr:Fr (sX g H (qE [(base,q9.grow e c n)])) w (w.alloc (.cells cs.toArray e)) g.S ((g.tok base n (.slice (some ⟨w.heap.size,0,none⟩) n n)).shut w.heap.size (n*c)).S:=
  ⟨rfl,rfl,rfl,by simp,fun b hb _=>aRN _ _ _ hb,fun b o hb _=>⟨aRH (a:=⟨b,o,none⟩) (aRN _ _ _ hb),aSb (a:=⟨b,o,none⟩) (aRN _ _ _ hb)⟩,fun b o h=>h.imp id fun h=> .inl (aSP h.1.symm),fun b s h=> .inl ((CE (aRN _ _ _ (CD h))).trans h)⟩
 have gho: ∀i,i∉qE [(base,q9.grow e c n)]->((g.tok base n (.slice (some ⟨w.heap.size,0,none⟩) n n)).shut w.heap.size (n*c)).J i=g.J i/\((g.tok base n (.slice (some ⟨w.heap.size,0,none⟩) n n)).shut w.heap.size (n*c)).cur i=g.cur i:=fun i hi=>⟨rfl,by
  funext n';show (if i=base/\n'=n then _ else _)=_;rw[aRk (fun⟨e1,_⟩=>hi (by simp [qE,e1]))]⟩
 have cur1:((g.tok base n (.slice (some ⟨w.heap.size,0,none⟩) n n)).shut w.heap.size (n*c)).cur base n=some (.slice (some ⟨w.heap.size,0,none⟩) n n):=by
  show (if base=base/\n=n then _ else _)=_;simp
 have get: ∀i blk,i∈qE [(base,q9.grow e c n)]->qD (qT [(base,q9.grow e c n)] H) i=some blk->i=base/\blk= .grow e c n:=by
  intro i blk hi hg;simp only[qE,aRv] at hi;subst hi;simp only[qT,qD,aSU,aRd] at hg;exact⟨rfl,hg.symm⟩
 have perm: ∀i blk b o,i∈qE [(base,q9.grow e c n)]->qD (qT [(base,q9.grow e c n)] H) i=some blk->sA ((g.tok base n (.slice (some ⟨w.heap.size,0,none⟩) n n)).shut w.heap.size (n*c)) i blk b o->w.heap.size<=b\/sX g H (qE [(base,q9.grow e c n)]) b o:=by
  intro i blk b o hi hgt ho';obtain⟨rfl,rfl⟩:=get i blk hi hgt;obtain⟨v',hv',hb⟩:=ho';rw[cur1] at hv';obtain rfl:=aRi hv';cases hb;exact .inl (aRE _)
 have hF:tX (Rd ((g.tok base n (.slice (some ⟨w.heap.size,0,none⟩) n n)).shut w.heap.size (n*c)) (w.alloc (.cells cs.toArray e)) u) u.cells l cs:=hc▸D4 (fun _ _ h=>xR le h) hl;have hra:(w.alloc (.cells cs.toArray e)).rangeAt w.heap.size 0 cs:=fun j v hv=>by
  rw[aRP,aTh];simpa using hv
 refine⟨le,⟨.inr ⟨rfl,some ⟨w.heap.size,0,none⟩,n,by rw[hln],by rw[hln];exact aRE _,.inr ⟨w.heap.size,0,rfl,MS hF hra (fun j hj=> ?_)⟩⟩,?_⟩,hH.upd le fr perm gho (fun i blk hi hgt=> ?_) (fun i j bi bj b o hi hj hij hgi hgj _ _=>hij ((get i bi hi hgi).1.trans (get j bj hj hgj).1.symm)) (fun b o h=> ?_),fr,perm,gho,fun i u' y us h=>by
  simp only[qT,qD] at h;split at h
  .cases h
  .exact .inl ⟨y,us,h⟩⟩
 .right;rw[hln] at hj;exact⟨rfl,by rw[hc];omega⟩
 .show _=_;rw[hln];exact cur1
 .obtain⟨rfl,rfl⟩:=get i blk hi hgt;refine⟨_,cs,cur1,⟨by rw[hlen,hln],.inr ⟨w.heap.size,n,cs.toArray,rfl,aSo _,aTg w _,aRE _,hn,by simp [hlen,hln],by simp [<-hln,<-hlen]⟩⟩,fun m hm'=> ?_,fun b hb o h=> ?_⟩
  .show (if i=i/\m=n then _ else _)=_;rw[aRk pF];exact hf m
  .cases hb;rcases h with h|⟨_,h⟩
   .exact absurd (hH.sl _ _ h) (aSV _)
   .exact h
 .rcases h with h|⟨rfl,_⟩
  .exact aRT (hH.sl b o h) pH
  .simp
theorem a0o: ∀{toks:pK}{off n q k:Nat},(q,k)∈vW toks off n->(q,k)∈toks/\¬(off<=q/\q<off+n)
 |[],_,_,_,_,h=>by simp [vW] at h
 |(q',k')::r,off,n,q,k,h=>by
  simp only[vW] at h;split at h
  .obtain⟨h1,h2⟩:=a0o h;exact⟨aRo _ h1,h2⟩
  .rename_i hn;rcases aRu.1 h with h|h
   .cases h;exact⟨by simp,hn⟩
   .obtain⟨h1,h2⟩:=a0o h;exact⟨aRo _ h1,h2⟩
theorem aI6 {u:Ty}{y:u.den}: ∀{t:Ty}{x z:t.den}{o:Nat},u.isRow=false->sQ u y t x o=some z->r9 u t z o=some y:=by
 intro t
 induction t with
 |pair a b iha ihb=>
  intro x z o hu h;have hne:u≠.pair a b:=by intro e;rw[e] at hu;cases hu
  have key: ∀o,(if o<a.cells then(sQ u y a x.1 o).map (fun q=>(q,x.2)) else(sQ u y b x.2 (o-a.cells)).map (fun q=>(x.1,q)))=some z->
    (if o<a.cells then r9 u a z.1 o else r9 u b z.2 (o-a.cells))=some y:=by
   intro o h;by_cases ho:o<a.cells
   .rw[aRf ho] at h|-;obtain⟨q,hq,rfl⟩:=aRn.1 h;exact iha hu hq
   .rw[aRk ho] at h|-;obtain⟨q,hq,rfl⟩:=aRn.1 h;exact ihb hu hq
  cases o with
  |zero=>
   unfold sQ at h;unfold r9;rw[aSY hne] at h;rw[aSY (Ne.symm hne)];have:=key 0 (by simpa using h);simpa using this
  |succ o=>
   have:=key (o+1) (by simpa[sQ] using h);simpa[r9] using this
 |_=>
  intro x z o hu h;cases o with
  |zero=>
   unfold sQ at h;split at h
   .rename_i e;subst e;simp only[uY,aRd] at h
    try subst h
    unfold r9;simp [uY]
   .simp at h
  |succ o=>simp [sQ] at h
theorem aAp {u v:Ty}{y:u.den}: ∀{t:Ty}{x z:t.den}{o q:Nat}{l:(Ty.list v).den},sQ u y t x o=some z->r9 (.list v) t x q=some l->¬(o<=q/\q<o+u.cells)->r9 (.list v) t z q=some l:=by
 intro t
 induction t with
 |pair a b iha ihb=>
  intro x z o q l h g hq;by_cases hu:o=0/\u= .pair a b
  .obtain⟨rfl,rfl⟩:=hu;exfalso;apply hq;have: ∀(t:Ty) (x:t.den) (q:Nat) (l:(Ty.list v).den),r9 (.list v) t x q=some l->q<t.cells:=by
    intro t
    induction t with
    |pair s t ihs iht=>
     intro x q l g;have key: ∀q,(if q<s.cells then r9 (.list v) s x.1 q else r9 (.list v) t x.2 (q-s.cells))=some l->q<s.cells+t.cells:=by
      intro q g;by_cases h:q<s.cells
      .omega
      .rw[aRk h] at g;have:=iht _ _ _ g;omega
     cases q with
     |zero=>
      unfold r9 at g;rw[aSY (by intro e;cases e)] at g;exact key 0 (by simpa using g)
     |succ q=>exact key (q+1) (by simpa[r9] using g)
    |_=>
     intro x q l g;cases q with
     |zero=>first|(simp [Ty.cells];done) |(unfold r9 at g;simp at g)
     |succ q=>simp [r9] at g
   exact⟨aSo _,by simpa using this _ _ _ _ g⟩
  .have keyh:(if o<a.cells then(sQ u y a x.1 o).map (fun q=>(q,x.2)) else(sQ u y b x.2 (o-a.cells)).map (fun q=>(x.1,q)))=some z:=by
    cases o with
    |zero=>
     unfold sQ at h;rw[aSY (fun e=>hu ⟨rfl,e⟩)] at h;simpa using h
    |succ o=>simpa[sQ] using h
   have keyg: ∀x:(Ty.pair a b).den,r9 (.list v) (.pair a b) x q=(if q<a.cells then r9 (.list v) a x.1 q else r9 (.list v) b x.2 (q-a.cells)):=by
    intro x;cases q with
    |zero=>
     conv=>lhs;unfold r9
     rw[aSY (by intro e;cases e),Nat.zero_sub]
    |succ q=>simp [r9]
   rw[keyg] at g|-;by_cases ho:o<a.cells
   .rw[aRf ho] at keyh;obtain⟨z',hz',rfl⟩:=aRn.1 keyh;by_cases hqa:q<a.cells
    .rw[aRf hqa] at g|-;exact iha hz' g hq
    .rw[aRk hqa] at g|-;exact g
   .rw[aRk ho] at keyh;obtain⟨z',hz',rfl⟩:=aRn.1 keyh;by_cases hqa:q<a.cells
    .rw[aRf hqa] at g|-;exact g
    .rw[aRk hqa] at g|-;exact ihb hz' g pF
 |unit=>
  intro x z o q l h g hq;cases q with
  |zero=>
   unfold r9 at g;rw[aSY (by intro e;cases e)] at g;cases g
  |succ q=>simp [r9] at g
 |_=>
  intro x z o q l h g hq;cases o with
  |zero=>
   unfold sQ at h;split at h
   .rename_i e;subst e;cases q with
    |zero=>exact absurd ⟨aRE _,Nat.zero_lt_one⟩ hq
    |succ q=>simp [r9] at g
   .simp at h
  |succ o=>simp [sQ] at h
theorem sB.store {side:List Prop}{rds:pP}{i:Nat}{u t:Ty}{x z:u.den}{y:t.den}{off:Nat}{toks:pK}{k:pO}{p:Pl}{cy:pM}{v:pR}(hb:qD H i=some (.cells u x toks)) (hp:g.J i=some p)
  (hset:sQ t y u x off=some z) (hy:Rd g w t y cy) (hk:D3 g t y v k) (hk2: ∀a b,t= .pair a b->k=none) (hv:t.isRow=false->cy=[v]):
  sB g w H ⟨side,(.any,none),[(i,.cells u z (qT (xZ k off) (vW toks off t.cells)))],rds⟩ g (w.setCells p.1 (p.2+off) cy) undef/\w.there p.1 (p.2+off) cy.length:=by
 obtain⟨p',cs,hp',hR,hra,hth,hns,htk⟩:=hH.blk i _ hb;rw[hp] at hp';obtain rfl:=aRi hp';obtain⟨c1,c2,c3,hcs,hl1,hl2,hz⟩:=UV hy hR hset;subst hcs;subst hl1;have hcl:=sR hR;have hyl:=sR hy;simp only[aRg] at hcl;have hthere:w.there p.1 (p.2+c1.length) cy.length:=fun j hj=>by
  have:=hth.1 (c1.length+j) pF;rwa [<-aRZ] at this
 have hout: ∀b o,(b=p.1->o<p.2+c1.length\/p.2+c1.length+cy.length<=o)->(w.setCells p.1 (p.2+c1.length) cy).cell? ⟨b,o,none⟩=w.cell? ⟨b,o,none⟩:=fun b o h=>World.cell?_setCells_out p.1 cy _ w ⟨b,o,none⟩ (fun e _=>h e);have hin: ∀b o,b=p.1->p.2+c1.length<=o->o<p.2+c1.length+cy.length->sA g i (.cells u x toks) b o:=fun b o e h1 h2=>⟨p,hp,e,pF,pF⟩;have hsz:(w.setCells p.1 (p.2+c1.length) cy).heap.size=w.heap.size:=by
  have: ∀(l:pM) (o:Nat) (w:pQ),(w.setCells p.1 o l).heap.size=w.heap.size:=by
   intro l
   induction l with
   |nil=>intro o w;rfl
   |cons v l ih=>intro o w;rw[World.setCells,ih];simp [World.setCell]
  exact this _ _ _
 have hbk: ∀b,b≠p.1->(w.setCells p.1 (p.2+c1.length) cy).heap[b]? =w.heap[b]? :=by
  intro b hb;have: ∀(l:pM) (o:Nat) (w:pQ),(w.setCells p.1 o l).heap[b]? =w.heap[b]? :=by
   intro l
   induction l with
   |nil=>intro o w;rfl
   |cons v l ih=>intro o w;rw[World.setCells,ih];exact Below.heap_setCell _ _ _ _ hb
  exact this _ _ _
 have hos:(w.setCells p.1 (p.2+c1.length) cy).os=w.os/\(w.setCells p.1 (p.2+c1.length) cy).tape=w.tape/\(w.setCells p.1 (p.2+c1.length) cy).output=w.output:=by
  have: ∀(l:pM) (o:Nat) (w:pQ),(w.setCells p.1 o l).os=w.os/\(w.setCells p.1 o l).tape=w.tape/\(w.setCells p.1 o l).output=w.output:=by
   intro l
   induction l with
   |nil=>intro o w;exact⟨rfl,rfl,rfl⟩
   |cons v l ih=>intro o w;rw[World.setCells];exact ih _ _
  exact this _ _ _
 have hiS: ∀b o,g.S b o->¬(b=p.1/\p.2<=o/\o<p.2+u.cells):=fun b o hs ⟨e,h1,h2⟩=>hns (o-p.2) pF (by rw[show p.2+(o-p.2)=o from by omega,<-e];exact hs);have le:Le g w g (w.setCells p.1 (p.2+c1.length) cy):=⟨fun _ _ h=>h,fun b o h=>hout b o (fun e=>by
  have:=hiS b o h;rcases aSr o (p.2+c1.length) with h1|h1
  .exact .inl h1
  .rcases aSr o (p.2+c1.length+cy.length) with h2|h2
   .exact absurd ⟨e,pF,pF⟩ this
   .exact .inr h2),fun _ _ h=>h,fun _ _ _ h=>h⟩
 have hofI: ∀b o,sA g i (.cells u x toks) b o->sX g H (qE [(i,q9.cells u z (qT (xZ k c1.length) (vW toks c1.length t.cells)))]) b o:=fun b o h=>⟨i,_,by simp [qE],hb,h⟩;have fr:Fr (sX g H (qE [(i,q9.cells u z (qT (xZ k c1.length) (vW toks c1.length t.cells)))])) w (w.setCells p.1 (p.2+c1.length) cy) g.S g.S:=by
  refine⟨hos.1,hos.2.1,hos.2.2,aSP hsz.symm,fun b hb' hno=> ?_,fun b o hb' hno=>⟨hout b o (fun e=> ?_),World.frozen?_setCells _ _ _ _ _⟩,fun b o h=> .inl h,fun b s hs=> .inl ((PY _ _ _ _ _).trans hs)⟩
  .by_cases e:b=p.1
   .cases hcy:cy with
    |nil=>rfl
    |cons q l=>exact absurd (hofI b (p.2+c1.length) (hin b _ e (aRE _) (by rw[hcy];simp))) (hno _)
   .exact hbk b e
  .rcases aSr o (p.2+c1.length) with h1|h1
   .exact .inl h1
   .rcases aSr o (p.2+c1.length+cy.length) with h2|h2
    .exact absurd (hofI b o (hin b o e h1 h2)) hno
    .exact .inr h2
 have gho: ∀j,j∉qE [(i,q9.cells u z (qT (xZ k c1.length) (vW toks c1.length t.cells)))]->g.J j=g.J j/\g.cur j=g.cur j:=fun _ _=>⟨rfl,rfl⟩;have get: ∀j blk,j∈qE [(i,q9.cells u z (qT (xZ k c1.length) (vW toks c1.length t.cells)))]->qD (qT [(i,q9.cells u z (qT (xZ k c1.length) (vW toks c1.length t.cells)))] H) j=some blk->j=i/\blk= .cells u z (qT (xZ k c1.length) (vW toks c1.length t.cells)):=by
  intro j blk hi hg;simp only[qE,aRv] at hi;subst hi;simp only[qT,qD,aSU,aRd] at hg;exact⟨rfl,hg.symm⟩
 have perm: ∀j blk b o,j∈qE [(i,q9.cells u z (qT (xZ k c1.length) (vW toks c1.length t.cells)))]->qD (qT [(i,q9.cells u z (qT (xZ k c1.length) (vW toks c1.length t.cells)))] H) j=some blk->sA g j blk b o->w.heap.size<=b\/sX g H (qE [(i,q9.cells u z (qT (xZ k c1.length) (vW toks c1.length t.cells)))]) b o:=by
  intro j blk b o hi hg ho;obtain⟨rfl,rfl⟩:=get j blk hi hg;exact .inr (hofI b o ho)
 refine⟨⟨le,⟨trivial,trivial⟩,hH.upd le fr perm gho (fun j blk hi hg=> ?_) (fun i j bi bj b o hi hj hij hgi hgj _ _=>hij ((get i bi hi hgi).1.trans (get j bj hj hgj).1.symm)) (fun b o h=>by rw[hsz];exact hH.sl b o h),fr,perm,gho,fun j u' y' us h=>by
  simp only[qT,qD] at h;split at h
  .rename_i e1;subst e1;simp only[aRd,q9.cells.injEq] at h;obtain⟨rfl,_⟩:=h;exact .inl ⟨x,toks,hb⟩
  .exact .inl ⟨y',us,h⟩⟩,hthere⟩
 obtain⟨rfl,rfl⟩:=get j blk hi hg;refine⟨p,_,hp,xR le hz,fun q v hq=> ?_,⟨fun q hq=> ?_,fun h0 s hs=>(PY _ _ _ _ _).trans (hth.2 h0 s hs)⟩,hns,?_⟩
 .by_cases h1:q<c1.length
  .rw[hout _ _ (fun _=> .inl pF)];refine hra q v ?_;rw[aRl,aRz h1] at hq|-;exact hq
  .by_cases h2:q<c1.length+cy.length
   .have:=aSL p.1 cy (p.2+c1.length) w (fun j hj=>(hthere j hj).1) (q-c1.length) pF;rw[show p.2+c1.length+(q-c1.length)=p.2+q from by omega] at this;rw[this];rw[aRl,aRt pF,aRz pF] at hq;rw[<-hq,aRr pF]
   .rw[hout _ _ (fun _=> .inr pF)];refine hra q v ?_;rw[aRl,aRt pF,aRt pF] at hq|-;rw[hl2];rw[hyl] at hq;exact hq
 .have hh:=hth.1 q hq;refine⟨?_,by rw[World.frozen?_setCells];exact hh.2⟩;by_cases h1:q<c1.length\/c1.length+cy.length<=q
  .rw[hout _ _ (fun _=>by omega)];exact hh.1
  .have:=aSL p.1 cy (p.2+c1.length) w (fun j hj=>(hthere j hj).1) (q-c1.length) pF;rw[show p.2+c1.length+(q-c1.length)=p.2+q from by omega] at this;rw[this];rfl
 .intro q kk hm;have hsplit:(q,kk)∈xZ k c1.length\/(q,kk)∈vW toks c1.length t.cells:=by
   cases k with
   |none=>exact .inr (by simpa[xZ,qT] using hm)
   |some k=>
    simp only[xZ,qT,aRu] at hm;rcases hm with hm|hm
    .exact .inl (by simp [xZ,hm])
    .exact .inr hm
  rcases hsplit with hm|hm
  .cases k with
   |none=>simp [xZ] at hm
   |some k=>
    simp only[xZ,aRv,aRR] at hm;obtain⟨rfl,rfl⟩:=hm;cases t with
    |list t=>
     obtain rfl:=hv rfl;exact⟨t,y,v,aI6 hH rfl hset,by simp,hk⟩
    |pair a b=>cases hk2 a b rfl
    |_=>exact hk.elim
  .obtain⟨h1,h2⟩:=a0o hH hm;obtain⟨v',l,v1,g1,g2,g3⟩:=htk q kk h1;refine⟨v',l,v1,aAp hH hset g1 h2,?_,g3⟩;rcases aSr q c1.length with h3|h3
   .rw[aRl,aRz h3] at g2|-;exact g2
   .have h4:c1.length+t.cells<=q:=by omega
    rw[aRl,aRt pF,aRt pF] at g2|-;rw[hyl];rw[hl2] at g2;exact g2
theorem zO.openS {side:List Prop}{rds:pP}{i:Nat}{u u0:Ty}{el:Nat}{kn:pN}{x:u.den}{z: Σ t:Ty,t.den}{off:Nat}{toks:pK}{p:Pl}{cy:pM}(hb:qD H i=some (.cells u x toks)) (hp:g.J i=some p)
  (hset:yG el u0 kn u x off=some z) (hy:FA g kn cy) (hyl:cy.length=1) (hre:HX rds=true):
  zO g w H ⟨side,(.any,none),[(i,.cells z.1 z.2 [])],rds⟩ g (w.setCells p.1 (p.2+off) cy) undef/\w.there p.1 (p.2+off) cy.length:=by
 obtain⟨p',cs,hp',hR,hra,hth,hns,htk⟩:=hH.blk i _ hb;rw[hp] at hp';obtain rfl:=aRi hp';obtain⟨c1,c2,c3,hcs,hl1,hl2,hz⟩:=aIw hy hR hset;subst hcs;subst hl1;have hcl:=sR hR;have hcz:=aIv hset;simp only[aRg] at hcl;have hthere:w.there p.1 (p.2+c1.length) cy.length:=fun j hj=>by
  have:=hth.1 (c1.length+j) pF;rwa [<-aRZ] at this
 have hout: ∀b o,(b=p.1->o<p.2+c1.length\/p.2+c1.length+cy.length<=o)->(w.setCells p.1 (p.2+c1.length) cy).cell? ⟨b,o,none⟩=w.cell? ⟨b,o,none⟩:=fun b o h=>World.cell?_setCells_out p.1 cy _ w ⟨b,o,none⟩ (fun e _=>h e);have hin: ∀b o,b=p.1->p.2+c1.length<=o->o<p.2+c1.length+cy.length->sA g i (.cells u x toks) b o:=fun b o e h1 h2=>⟨p,hp,e,pF,pF⟩;have hsz:(w.setCells p.1 (p.2+c1.length) cy).heap.size=w.heap.size:=by
  have: ∀(l:pM) (o:Nat) (w:pQ),(w.setCells p.1 o l).heap.size=w.heap.size:=by
   intro l
   induction l with
   |nil=>intro o w;rfl
   |cons v l ih=>intro o w;rw[World.setCells,ih];simp [World.setCell]
  exact this _ _ _
 have hbk: ∀b,b≠p.1->(w.setCells p.1 (p.2+c1.length) cy).heap[b]? =w.heap[b]? :=by
  intro b hb;have: ∀(l:pM) (o:Nat) (w:pQ),(w.setCells p.1 o l).heap[b]? =w.heap[b]? :=by
   intro l
   induction l with
   |nil=>intro o w;rfl
   |cons v l ih=>intro o w;rw[World.setCells,ih];exact Below.heap_setCell _ _ _ _ hb
  exact this _ _ _
 have hos:(w.setCells p.1 (p.2+c1.length) cy).os=w.os/\(w.setCells p.1 (p.2+c1.length) cy).tape=w.tape/\(w.setCells p.1 (p.2+c1.length) cy).output=w.output:=by
  have: ∀(l:pM) (o:Nat) (w:pQ),(w.setCells p.1 o l).os=w.os/\(w.setCells p.1 o l).tape=w.tape/\(w.setCells p.1 o l).output=w.output:=by
   intro l
   induction l with
   |nil=>intro o w;exact⟨rfl,rfl,rfl⟩
   |cons v l ih=>intro o w;rw[World.setCells];exact ih _ _
  exact this _ _ _
 have hiS: ∀b o,g.S b o->¬(b=p.1/\p.2<=o/\o<p.2+u.cells):=fun b o hs ⟨e,h1,h2⟩=>hns (o-p.2) pF (by rw[show p.2+(o-p.2)=o from by omega,<-e];exact hs);have le:Le g w g (w.setCells p.1 (p.2+c1.length) cy):=⟨fun _ _ h=>h,fun b o h=>hout b o (fun e=>by
  have:=hiS b o h;rcases aSr o (p.2+c1.length) with h1|h1
  .exact .inl h1
  .rcases aSr o (p.2+c1.length+cy.length) with h2|h2
   .exact absurd ⟨e,pF,pF⟩ this
   .exact .inr h2),fun _ _ h=>h,fun _ _ _ h=>h⟩
 have hofI: ∀b o,sA g i (.cells u x toks) b o->sX g H (qE [(i,q9.cells z.1 z.2 [])]) b o:=fun b o h=>⟨i,_,by simp [qE],hb,h⟩;have fr:Fr (sX g H (qE [(i,q9.cells z.1 z.2 [])])) w (w.setCells p.1 (p.2+c1.length) cy) g.S g.S:=by
  refine⟨hos.1,hos.2.1,hos.2.2,aSP hsz.symm,fun b hb' hno=> ?_,fun b o hb' hno=>⟨hout b o (fun e=> ?_),World.frozen?_setCells _ _ _ _ _⟩,fun b o h=> .inl h,fun b s hs=> .inl ((PY _ _ _ _ _).trans hs)⟩
  .by_cases e:b=p.1
   .cases hcy:cy with
    |nil=>rfl
    |cons q l=>exact absurd (hofI b (p.2+c1.length) (hin b _ e (aRE _) (by rw[hcy];simp))) (hno _)
   .exact hbk b e
  .rcases aSr o (p.2+c1.length) with h1|h1
   .exact .inl h1
   .rcases aSr o (p.2+c1.length+cy.length) with h2|h2
    .exact absurd (hofI b o (hin b o e h1 h2)) hno
    .exact .inr h2
 have gho: ∀j,j∉qE [(i,q9.cells z.1 z.2 [])]->g.J j=g.J j/\g.cur j=g.cur j:=fun _ _=>⟨rfl,rfl⟩;have get: ∀j blk,j∈qE [(i,q9.cells z.1 z.2 [])]->qD (qT [(i,q9.cells z.1 z.2 [])] H) j=some blk->j=i/\blk= .cells z.1 z.2 []:=by
  intro j blk hi hg;simp only[qE,aRv] at hi;subst hi;simp only[qT,qD,aSU,aRd] at hg;exact⟨rfl,hg.symm⟩
 have perm: ∀j blk b o,j∈qE [(i,q9.cells z.1 z.2 [])]->qD (qT [(i,q9.cells z.1 z.2 [])] H) j=some blk->sA g j blk b o->w.heap.size<=b\/sX g H (qE [(i,q9.cells z.1 z.2 [])]) b o:=by
  intro j blk b o hi hg ho;obtain⟨rfl,rfl⟩:=get j blk hi hg;obtain⟨q,hq,e1,e2,e3⟩:=ho;rw[hcz] at e3;exact .inr (hofI b o ⟨q,hq,e1,e2,e3⟩)
 refine⟨⟨le,⟨trivial,trivial⟩,hH.upd le fr perm gho (fun j blk hi hg=> ?_) (fun i j bi bj b o hi hj hij hgi hgj _ _=>hij ((get i bi hi hgi).1.trans (get j bj hj hgj).1.symm)) (fun b o h=>by rw[hsz];exact hH.sl b o h),fr,perm,gho,fun h=>by rw[hre] at h;cases h⟩,hthere⟩;obtain⟨rfl,rfl⟩:=get j blk hi hg;refine⟨p,_,hp,xR le hz,fun q v hq=> ?_,⟨fun q hq=> ?_,fun h0 s hs=>(PY _ _ _ _ _).trans (hth.2 (by rw[<-hcz];exact h0) s hs)⟩,fun q hq=>hns q (by rw[<-hcz];exact hq),fun _ _ hm=>by cases hm⟩
 .by_cases h1:q<c1.length
  .rw[hout _ _ (fun _=> .inl pF)];refine hra q v ?_;rw[aRl,aRz h1] at hq|-;exact hq
  .by_cases h2:q<c1.length+cy.length
   .have:=aSL p.1 cy (p.2+c1.length) w (fun j hj=>(hthere j hj).1) (q-c1.length) pF;rw[show p.2+c1.length+(q-c1.length)=p.2+q from by omega] at this;rw[this];rw[aRl,aRt pF,aRz pF] at hq;rw[<-hq,aRr pF]
   .rw[hout _ _ (fun _=> .inr pF)];refine hra q v ?_;rw[aRl,aRt pF,aRt pF] at hq|-;rw[hl2];rw[hyl] at hq;exact hq
 .have hh:=hth.1 q (by rw[<-hcz];exact hq);refine⟨?_,by rw[World.frozen?_setCells];exact hh.2⟩;by_cases h1:q<c1.length\/c1.length+cy.length<=q
  .rw[hout _ _ (fun _=>by omega)];exact hh.1
  .have:=aSL p.1 cy (p.2+c1.length) w (fun j hj=>(hthere j hj).1) (q-c1.length) pF;rw[show p.2+c1.length+(q-c1.length)=p.2+q from by omega] at this;rw[this];rfl
end
def yX (g:Gh) (base:Nat) (e:qJ):Prop:= ∀i,i∈qE e.upd->base<=i->g.J i=none/\∀n,g.cur i n=none
section
variable {P:Program}{o:Oper}{a:Act}{g:Gh}{w:pQ}{H:s7}{T:sK}(hT:xH P T) (hH:sE g w H)
include hT hH
theorem aAq {x:Operand}(ho:o.op= .move x\/o.op= .assign x) {sx:qB}(hx:rH g w sx (a.eval x)) {base:Nat}{e:qJ}(hr:YU base (rK T o.type) sx=some e) (hf:yX g base e):rC P o a g w H e:=by
 have hrun:(execOp a.eval o).run P w= .ok (.value (a.eval x)) w:=by rcases ho with ho|ho<;>simp [execOp,ho]
 generalize hst:rK T o.type=ot at hr;unfold YU at hr;split at hr
 .cases hr;have hv:a.eval x= .slice none 0 0:=hx.1;have hfr:=(hf base (by simp [qE]) (aRE _)).2;refine rC.value (v:= .slice none 0 0) (by rw[hrun,hv]) (sB.row (v:= .slice none 0 0) (xs:=[]) hH rfl (World.ownsRow_nil w 0 _ _) rfl (fun m _=>hfr m) (fun u hu=>by rw[hfr] at hu;cases hu) (.inl ⟨rfl,rfl,rfl,aRE _,fun _ _ _=>rfl⟩) (fun _ _ _=>rfl) (fun b hb=>by cases hb) (fun b hb=>by cases hb) ⟨⟨by simp [Gh.tok],.inl ⟨rfl,rfl⟩⟩,trivial⟩)
 .cases hr;have hv:a.eval x= .slice none 0 0:=hx.1;refine rC.value (v:= .slice none 0 0) (by rw[hrun,hv]) (sB.nilTok hH rfl (hf base (by simp [qE]) (aRE _)).2)
 .cases hr
 .cases hr;exact rC.value hrun (.pure hH hx)
theorem aI7 {u:Ty}{y:List u.den}{k:pO}{v:pR}{cs:pM}(h:D3 g (.list u) y v k) (hc:cs=[v]):GF g (.list u) y cs (xZ k 0):=by
 intro q kk hm;cases k with
 |none=>simp [xZ] at hm
 |some k=>
  simp only[xZ,aRv,aRR] at hm;obtain⟨rfl,rfl⟩:=hm;exact⟨u,y,v,by unfold r9;simp [uY],by rw[hc];rfl,h⟩
omit hT hH in
theorem MV {α:Type}: ∀(l m n:List α),qT (qT l m) n=qT l (qT m n)
 |[],_,_=>rfl
 |x::l,m,n=>by simp only[qT,MV l m n]
omit hT hH in
theorem E3 {i:Nat}: ∀{l m:List (Nat×q9)},i∈qE (qT l m)↔i∈qE l\/i∈qE m
 |[],m=>by simp [qT,qE]
 |(k,b)::l,m=>by simp only[qT,qE,aRu,E3 (l:=l),or_assoc]
omit hT hH in
theorem sB.trans {H:s7}{e1 e2:qJ}{g1 g2:Gh}{w1 w2:pQ}{v1 v2:pR}{side:List Prop}{rds:pP}(h:sB g w H e1 g1 w1 v1) (k:sB g1 w1 (qT e1.upd H) e2 g2 w2 v2):sB g w H ⟨side,e2.slot,qT e2.upd e1.upd,rds⟩ g2 w2 v2:=by
 have hB: ∀b o,sX g1 (qT e1.upd H) (qE e2.upd) b o->w.heap.size<=b\/sX g H (qE (qT e2.upd e1.upd)) b o:=by
  rintro b o ⟨i,blk,hi,hg,ho⟩;by_cases h1:i∈qE e1.upd
  .refine(h.perm i blk b o h1 hg ho).imp id fun⟨j,bj,hj,q⟩=>⟨j,bj,E3.2 (.inr hj),q⟩
  .exact .inr ⟨i,blk,E3.2 (.inl hi),(CF h1).symm.trans hg,(zP (h.gho i h1).1 (h.gho i h1).2).1 ho⟩
 have mono: ∀b o,sX g H (qE e1.upd) b o->sX g H (qE (qT e2.upd e1.upd)) b o:=fun b o ⟨j,bj,hj,q⟩=>⟨j,bj,E3.2 (.inr hj),q⟩;refine⟨h.le.trans k.le,k.slot,by simp only[MV];exact k.heap,?_,fun i blk b o hi hg ho=> ?_,fun i hi=> ?_,fun i u y us hg=> ?_⟩
 .have h1:Fr (sX g H (qE (qT e2.upd e1.upd))) w w1 g.S g1.S:=⟨h.fr.os,h.fr.tape,h.fr.output,h.fr.size,fun b hb hn=>h.fr.blk b hb (fun o ho=>hn o (mono b o ho)),fun b o hb hn=>h.fr.cell b o hb (fun ho=>hn (mono b o ho)),fun b o hs=>(h.fr.new b o hs).imp id (Or.imp id (mono b o)),fun b s hs=>(h.fr.shape b s hs).imp id fun h o=>mono b o (h o)⟩;exact h1.trans k.fr hB
 .simp only[MV] at hg;by_cases h2:i∈qE e2.upd
  .rcases k.perm i blk b o h2 hg ho with h3|h3
   .exact .inl (aSe h.fr.size h3)
   .exact hB b o h3
  .have hi1:i∈qE e1.upd:=(E3.1 hi).resolve_left h2;rw[CF h2] at hg;exact(h.perm i blk b o hi1 hg ((zP (k.gho i h2).1 (k.gho i h2).2).1 ho)).imp id (mono b o)
 .have h2:i∉qE e2.upd:=fun q=>hi (E3.2 (.inl q));have h1:i∉qE e1.upd:=fun q=>hi (E3.2 (.inr q));exact⟨(k.gho i h2).1.trans (h.gho i h1).1,(k.gho i h2).2.trans (h.gho i h1).2⟩
 .simp only[MV] at hg;rcases k.ty i u y us hg with⟨x,ts,h3⟩ |⟨h3,h4⟩
  .exact h.ty i u x ts h3
  .right;refine⟨?_,fun n=> ?_⟩
   .cases hj:g.J i with
    |none=>rfl
    |some p=>rw[h.le.J i p hj] at h3;cases h3
   .cases hj:g.cur i n with
    |none=>rfl
    |some p=>rw[<-h4 n,h.le.cur i n p hj]
omit hT hH in
theorem sB.congrH {H H':s7}{e:qJ}{g':Gh}{w':pQ}{v:pR}(h:sB g w H e g' w' v) (hH:H=H'):sB g w H' e g' w' v:=hH▸h
omit hT hH in
theorem a0p {w:pQ}: ∀(ls:List (Nat×TypeId×Nat)) (i:Nat) (g:Gh) (H:s7),sE g w H->(∀j,i<=j->j<i+ls.length->∀n,g.cur j n=none)->
  ∃g1,sB g w H ⟨[],(.any,none),DT ls i,[]⟩ g1 w undef/\g1.J=g.J/\(∀o k,(o,k)∈C8 ls i->g1.cur k 0=some (.slice none 0 0))/\(∀k,k<i->g1.cur k=g.cur k)
 |[],i,g,H,hH,_=>⟨g,.pure hH ⟨trivial,trivial⟩,rfl,fun _ _ h=>by simp [C8] at h,fun _ _=>rfl⟩
 |(o,e,c)::r,i,g,H,hH,hf=>by
  have e1:=sB.nilTok (side:=[]) (d:= .val (.list .bool) []) (rds:=[]) (base:=i) (e:=e) (c:=c) (u:= .bool) hH rfl (hf i (aRE _) pH);have hc1: ∀k n,k≠i->(g.tok i 0 (.slice none 0 0)).cur k n=g.cur k n:=fun k n hk=>by
   show (if k=i/\n=0 then _ else _)=_;rw[aRk (fun h=>hk h.1)]
  obtain⟨g1,k1,k2,k3,k4⟩:=a0p r (i+1) (g.tok i 0 (.slice none 0 0)) (qT [(i,q9.grow e c 0)] H) e1.heap (fun j h1 h2 n=>by rw[hc1 j n pF];exact hf j pF (by simp only[aRj];omega) n);refine⟨g1,e1.trans k1,k2.trans rfl,fun o' k hm=> ?_,fun k hk=> ?_⟩
  .simp only[C8,aRu,aRR] at hm;rcases hm with⟨rfl,rfl⟩ |hm
   .rw[k4 _ pF];show (if k=k/\0=0 then _ else _)=_;simp
   .exact k3 o' k hm
  .rw[k4 k pF];funext n;exact hc1 k n pF
omit hT hH in
theorem a0q: ∀{ls:List (Nat×TypeId×Nat)}{i o k:Nat},(o,k)∈C8 ls i->∃q∈ls,q.1=o
 |[],_,_,_,h=>by simp [C8] at h
 |(o',e,c)::r,i,o,k,h=>by
  simp only[C8,aRu,aRR] at h;rcases h with⟨h1,_⟩ |h
  .exact⟨(o',e,c),by simp,h1.symm⟩
  .obtain⟨q,h1,h2⟩:=a0q h;exact⟨q,by simp [h1],h2⟩
omit hT hH in
theorem a0r {t:Ty}: ∀{ls:List (Nat×TypeId×Nat)},F7 t ls=true->∀q∈ls,F6 t q.1=true
 |[],_,_,h=>by cases h
 |(o,e,c)::r,h,q,hq=>by
  simp only[F7,aRw] at h;rcases aRu.1 hq with rfl|hq
  .exact h.1
  .exact a0r h.2 q hq
omit hT hH in
theorem PZ: ∀(ls:List (Nat×TypeId×Nat)) (i j:Nat),j∈qE (DT ls i)↔i<=j/\j<i+ls.length
 |[],i,j=>by simp only[DT,qE,aSO,aRq,false_iff];omega
 |(o,e,c)::r,i,j=>by
  simp only[DT,E3,PZ r (i+1) j,qE,aRv,aRj];omega
omit hT hH in
theorem aAr {w:pQ}: ∀(R:List (Nat×Nat×Ty)) (i:Nat) (g:Gh) (H:s7),sE g w H->(∀j,i<=j->j<i+R.length->∀n,g.cur j n=none)->
  ∃g1,sB g w H ⟨[],(.any,none),K2 R i,[]⟩ g1 w undef/\g1.J=g.J/\(∀j,j<R.length->g1.cur (i+j) 0=some (.slice none 0 0))/\(∀k,k<i->g1.cur k=g.cur k)
 |[],i,g,H,hH,_=>⟨g,.pure hH ⟨trivial,trivial⟩,rfl,fun _ h=>by simp at h,fun _ _=>rfl⟩
 |(o,e,u)::r,i,g,H,hH,hf=>by
  have hfr:=hf i (aRE _) pH;have e1:=sB.row (side:=[]) (rds:=[]) (k:=i) (e:=e) (t:=u) (l:=[]) (n:=0) (s:=(.any,none)) (val:=undef) (v:= .slice none 0 0) (xs:=[]) hH rfl (World.ownsRow_nil w 0 _ _) rfl (fun m _=>hfr m) (fun u hu=>by rw[hfr] at hu;cases hu) (.inl ⟨rfl,rfl,rfl,aRE _,fun _ _ _=>rfl⟩) (fun _ _ _=>rfl) (fun b hb=>by cases hb) (fun b hb=>by cases hb) ⟨trivial,trivial⟩;have hc1: ∀k n,k≠i->(g.tok i 0 (.slice none 0 0)).cur k n=g.cur k n:=fun k n hk=>by
   show (if k=i/\n=0 then _ else _)=_;rw[aRk (fun h=>hk h.1)]
  obtain⟨g1,k1,k2,k3,k4⟩:=aAr r (i+1) (g.tok i 0 (.slice none 0 0)) (qT [(i,q9.row e u [] 0)] H) e1.heap (fun j h1 h2 n=>by rw[hc1 j n pF];exact hf j pF (by simp only[aRj];omega) n);refine⟨g1,e1.trans k1,k2.trans rfl,fun j hj=> ?_,fun k hk=> ?_⟩
  .cases j with
   |zero=>
    rw[aSg,k4 _ pF];show (if i=i/\0=0 then _ else _)=_;simp
   |succ j=>
    have:=k3 j (by simpa using hj);rwa [show i+1+j=i+(j+1) by omega] at this
  .rw[k4 k pF];funext n;exact hc1 k n pF
omit hT hH in
theorem aAs: ∀(R:List (Nat×Nat×Ty)) (i j:Nat),j∈qE (K2 R i)↔i<=j/\j<i+R.length
 |[],i,j=>by simp only[K2,qE,aSO,aRq,false_iff];omega
 |(o,e,c)::r,i,j=>by
  simp only[K2,E3,aAs r (i+1) j,qE,aRv,aRj];omega
omit hT hH in
theorem a0s {α:Type}: ∀l:List α,P8 l=l.length
 |[]=>rfl
 |_::l=>by simp only[P8,a0s l,aRj]
omit hT hH in
theorem Q0 {α:Type}{x:α}: ∀{l m:List α},x∈qT l m↔x∈l\/x∈m
 |[],m=>by simp [qT]
 |y::l,m=>by simp only[qT,aRu,Q0 (l:=l),or_assoc]
omit hT hH in
theorem aI8 {g:Gh}{w:pQ}: ∀{t:Ty}{x:t.den}{cs:pM}{o:Nat},Rd g w t x cs->∀q∈F8 t x o,o<=q.1/\cs[q.1-o]? =some (.slice none 0 0):=by
 intro t
 induction t with
 |pair a b iha ihb=>
  intro x cs o r q hq;obtain⟨c1,c2,rfl,r1,r2⟩:=r;simp only[F8,Q0] at hq;have hl:=sR r1;rcases hq with hq|hq
  .obtain⟨h1,h2⟩:=iha r1 q hq;exact⟨h1,by rw[aRz (aRs.1 h2).1];exact h2⟩
  .obtain⟨h1,h2⟩:=ihb r2 q hq;refine⟨pF,?_⟩;rw[aRt pF,hl,show q.1-o-a.cells=q.1- (o+a.cells) by omega];exact h2
 |rl e u=>
  intro x cs o r q hq;cases x with
  |none=>
   simp only[F8,YW,aRv] at hq;subst hq;refine⟨aRE _,?_⟩;rw[show cs=[.slice none 0 0] from r];simp
  |some z=>simp [F8,YW] at hq
 |_=>intro x cs o r q hq;simp [F8] at hq
omit hT hH in
theorem aI9 {g:Gh}{w:pQ}: ∀{t:Ty}{x:t.den}{cs:pM}{o:Nat},Rd g w t x cs->∀q∈GB t x o,o<=q/\cs[q-o]? =some (.pointer none):=by
 intro t
 induction t with
 |pair a b iha ihb=>
  intro x cs o r q hq;obtain⟨c1,c2,rfl,r1,r2⟩:=r;simp only[GB,Q0] at hq;have hl:=sR r1;rcases hq with hq|hq
  .obtain⟨h1,h2⟩:=iha r1 q hq;exact⟨h1,by rw[aRz (aRs.1 h2).1];exact h2⟩
  .obtain⟨h1,h2⟩:=ihb r2 q hq;refine⟨pF,?_⟩;rw[aRt pF,hl,show q-o-a.cells=q- (o+a.cells) by omega];exact h2
 |mref=>
  intro x cs o r q hq;cases x with
  |none=>
   simp only[GB,YX,aRv] at hq;subst hq;refine⟨aRE _,?_⟩;rw[show cs=[.pointer none] from r];simp
  |some z=>simp [GB,YX] at hq
 |_=>intro x cs o r q hq;simp [GB] at hq
omit hT hH in
theorem aAt {g:Gh}{w:pQ}{t u:Ty}{x z:t.den}{y:u.den}{cs:pM}{o:Nat}{v:pR}(h:sQ u y t x o=some z) (hy:Rd g w u y [v]) (hR:Rd g w t x cs) (hv:cs[o]? =some v):Rd g w t z cs:=by
 obtain⟨c1,c2,c3,rfl,rfl,h2,h3⟩:=UV hy hR h;have hu:=sR hy;simp only[aSB] at hu;rw[<-hu] at h2;obtain⟨v',rfl⟩:=aSF.1 h2;have:(c1++[v']++c3)[c1.length]? =some v':=by simp
 rw[this] at hv;obtain rfl:=aRi hv;exact h3
omit hT hH in
theorem aAu {g:Gh}{w:pQ}{t:Ty}{cs:pM}: ∀{R:List (Nat×Nat×Ty)}{i:Nat}{x z:t.den},K1 t i R (some x)=some z->Rd g w t x cs->(∀q∈R,cs[q.1]? =some (.slice none 0 0))->(∀j,j<R.length->g.cur (i+j) 0=some (.slice none 0 0))->Rd g w t z cs
 |[],i,x,z,h,hR,_,_=>by simp only[K1,aRd] at h;exact h▸hR
 |(o,e,u)::r,i,x,z,h,hR,hc,hg=>by
  simp only[K1] at h;cases hs:sQ (.rl e u) (some (i,0)) t x o with
  |none=>rw[hs] at h;cases r<;>simp [K1] at h
  |some x'=>
   rw[hs] at h;refine aAu h (aAt (v:= .slice none 0 0) hs ⟨_,by simpa using hg 0 pH,rfl,.inl ⟨rfl,rfl⟩⟩ hR (hc _ aRm)) (fun q hq=>hc q (aRo _ hq)) (fun j hj=> ?_);have:=hg (j+1) (by simpa using hj);rwa [show i+(j+1)=i+1+j by omega] at this
omit hT hH in
theorem aAv {g:Gh}{w:pQ}{t:Ty}{cs:pM}{i:Nat}{p:Pl}(hp:g.J i=some p) (hp2:p.2=0): ∀{M:pP}{x z:t.den},I1 t i M (some x)=some z->Rd g w t x cs->(∀q∈M,cs[q]? =some (.pointer none)/\ZU p.3 q)->Rd g w t z cs
 |[],x,z,h,hR,_=>by simp only[I1,aRd] at h;exact h▸hR
 |q::r,x,z,h,hR,hc=>by
  simp only[I1] at h;cases hs:sQ .mref (some (i,q)) t x q with
  |none=>rw[hs] at h;cases r<;>simp [I1] at h
  |some x'=>
   rw[hs] at h;exact aAv hp hp2 h (aAt (v:= .pointer none) hs ⟨p,hp,by rw[hp2,aRP];exact(hc _ aRm).2,.inl rfl⟩ hR (hc _ aRm).1) (fun q hq=>hc q (aRo _ hq))
omit hT hH in
theorem V3 {k:Nat}: ∀{ls:List (Nat×TypeId×Nat)}{q:Nat×TypeId×Nat},q∈C9 k ls->q.1+1≠k
 |[],_,h=>by cases h
 |(o,e,c)::r,q,h=>by
  simp only[C9] at h;split at h
  .exact V3 h
  .rename_i hne;rcases aRu.1 h with rfl|h
   .exact hne
   .exact V3 h
omit hT in
theorem aAw {t:Ty}{y:t.den}{ls:List (Nat×TypeId×Nat)}{base:Nat}{e:qJ}{cs:pM}{el:TypeId}(hr:TR base el t y ls (F7 t ls)=some e) (hf:yX g base e) (hR:Rd g w t y cs) (hn: ∀q∈ls,∃k,y7 k t 0 cs/\q.1+1≠k):
  ∃g',sB g w H e g' (w.alloc (.cells cs.toArray el)) (.pointer (some ⟨w.heap.size,0,none⟩)):=by
 cases hl:F7 t ls with
 |false=>rw[hl] at hr;cases hr
 |true=>
  rw[hl] at hr;simp only[TR,a0s] at hr;have cR:=fun q hq=>aI8 (o:=0) hR q hq;have cM: ∀q∈TQ el t y,cs[q]? =some (.pointer none)/\ZU (some (el,cs.length)) q:=by
   intro q hq;unfold TQ at hq;split at hq
   .rename_i hb;have h0:=fun q hq=>aI9 (o:=0) hR q hq;have hl:=sR hR;generalize GB t y 0=M at hq h0;rw[<-hl] at hq;unfold a9w at hq;split at hq
    .rename_i h2;simp only[aRv] at hq;subst hq;exact⟨by simpa using(h0 0 pH).2,rfl,el,hb,by rw[h2]⟩
    .cases hq
   .cases hq
  generalize F8 t y 0=R at hr cR;generalize TQ el t y=M at hr cM;cases hz1:K1 t (base+1+ls.length) R (some y) with
  |none=>
   rw[hz1] at hr;have:I1 t base M none=none:=by cases M<;>rfl
   rw[this] at hr;cases hr
  |some z1=>
   rw[hz1] at hr;cases hz2:I1 t base M (some z1) with
   |none=>rw[hz2] at hr;cases hr
   |some z=>
    rw[hz2] at hr;simp only[a9x,a0s] at hr;obtain rfl:=(aRi hr);have hfr: ∀j,base+1<=j->j<base+1+ls.length+R.length->g.J j=none/\∀n,g.cur j n=none:=fun j h1 h2=>hf j (by
     simp only[qE,aRu];right;rw[E3];by_cases h3:j<base+1+ls.length
     .exact .inr ((PZ ls (base+1) j).2 ⟨h1,h3⟩)
     .exact .inl ((aAs R (base+1+ls.length) j).2 ⟨pF,h2⟩)) pF
    have hf0:=hf base (by simp [qE]) (aRE _);obtain⟨g1,k1,k2,k3,k4⟩:=a0p ls (base+1) g H hH (fun j h1 h2=>(hfr j h1 pF).2);have hfr1: ∀j,base+1+ls.length<=j->j<base+1+ls.length+R.length->∀n,g1.cur j n=none:=by
     intro j h1 h2 n;have:=(k1.gho j (by simp only;rw[PZ];omega)).2;rw[this];exact(hfr j pF h2).2 n
    obtain⟨g2,m1,m2,m3,m4⟩:=aAr R (base+1+ls.length) g1 _ k1.heap hfr1;have hJ:(g2.var base w.heap.size (some (el,cs.length))).J base=some ⟨w.heap.size,0,some (el,cs.length)⟩:=by simp [Gh.var]
    have hle:Le g w (g2.var base w.heap.size (some (el,cs.length))) w:=by
     refine((k1.le.trans m1.le).trans ⟨fun _ _ h=>h,fun _ _ _=>rfl,fun i p h=> ?_,fun _ _ _ h=>h⟩);show (if i=base then _ else _)=_;rw[aRk (fun e1=>by rw[e1,m2,k2,hf0.1] at h;cases h)];exact h
    have hRz:Rd (g2.var base w.heap.size (some (el,cs.length))) w t z cs:=aAv hJ rfl hz2 (aAu hz1 (xR hle hR) (fun q hq=>by simpa using(cR q hq).2) (fun j hj=>m3 j hj)) cM;have htk:GF g2 t z cs (C8 ls (base+1)):=by
     intro o k hm;obtain⟨q,hq,rfl⟩:=a0q hm;obtain⟨kx,hx1,hx2⟩:=hn q hq;obtain⟨u,h1,h2⟩:=aAd hx1 hRz (a0r hl q hq) pF;exact⟨u,[],_,h1,h2,m1.le.cur _ _ _ (k3 _ _ hm)⟩
    have e3:=sB.newVarJ (side:=[]) (rds:=[]) (base:=base) (toks:=C8 ls (base+1)) (e:=el) m1.heap hRz htk (by rw[m2,k2];exact hf0.1) (by rw[m4 base pF,k4 base pF];exact funext hf0.2);have e4:=sB.trans (side:=[]) (rds:=[]) k1 m1;exact⟨_,sB.trans (side:=[]) (rds:=[]) e4 (e3.congrH (H':=qT (qT (K2 R (base+1+ls.length)) (DT ls (base+1))) H) (by simp only[MV]))⟩
theorem a0t {t:Ty}{y:t.den}{k:pO}{v:pR}(h:rH g w (.val t y,k) v):tO g w t y v/\D3 g t y v k:=by
 refine⟨h.1,?_⟩;cases k with
 |none=>trivial
 |some k=>exact h.2
theorem aJa {t:TypeId}{x:Operand}(ho:o.op= .box t x) {sx:qB}(hx:rH g w sx (a.eval x)) {base:Nat}{e:qJ}(hr:YY base t (rK T t) sx=some e) (hf:yX g base e):rC P o a g w H e:=by
 generalize hst:rK T t=ot at hr;have hrun:(execOp a.eval o).run P w= .ok (.value (.pointer (some ⟨w.heap.size,0,none⟩))) (w.alloc (.cells (a.eval x).cells.toList.toArray t)):=by
  unfold execOp;rw[ho];simp only[Instr.box,Go.newVar,newRow,aRy,run_newObj,aRp,aRI,aSE];rfl
 have one: ∀{u:Ty}{y:u.den},tO g w u y (a.eval x)->u.isRow=false->(a.eval x).cells.toList=[a.eval x]:=fun hv hrow=>by
  have h1:=AR (AS hrow hv) _ (aRv.2 rfl);cases h:a.eval x<;>first|rfl|(rw[h] at h1;simp [Value.oneCell'] at h1)
 unfold YY at hr;split at hr
 .rename_i ti u y k;split at hr
  .obtain⟨hv,hk⟩:=a0t hT hH hx;have hR:=FB hv;unfold a9y at hr;split at hr
   .rename_i a' b' y' k' _;have hn:y7 k' (.pair a' b') 0 (a.eval x).cells.toList:=hk;obtain⟨g',h⟩:=aAw (el:=t) hH hr hf hR (fun q hq=>⟨k',hn,V3 hq⟩);exact rC.value hrun h
   .rename_i u' y' k';cases hr;have hfr:=hf base (by simp [qE]) (aRE _);exact rC.value hrun (sB.newVar hH hR (aI7 hT hH hk (one hv rfl)) hfr.1 (funext hfr.2))
   .cases hr;have hfr:=hf base (by simp [qE]) (aRE _);exact rC.value hrun (sB.newVar hH hR (fun q k hm=>by cases hm) hfr.1 (funext hfr.2))
  .cases hr
 .cases hr
theorem aAx {t:TypeId}(run: ∀ti,rK T t=some ti->(execOp a.eval o).run P w= .ok (.value (.pointer (some ⟨w.heap.size,0,none⟩))) (w.alloc (.cells (uC ti.ty).toArray t))) {base:Nat}{e:qJ}(hr:P9 base t (rK T t)=some e) (hf:yX g base e):rC P o a g w H e:=by
 generalize hst:rK T t=ot at hr;unfold P9 at hr;split at hr
 .rename_i u el by' ar ls_;cases hr;have hf0:=hf base (by simp [qE]) (aRE _);have hf1:=hf (base+1) (by simp [qE]) pF;have hty:=tE hT hst;have e1:=sB.nilTok (side:=[]) (d:= .val (.list u) []) (rds:=[]) (base:=base+1) (e:=el) (c:=u.cells) (u:=u) hH rfl hf1.2;have hH1:=e1.heap;have htk:GF (g.tok (base+1) 0 (.slice none 0 0)) (.list u) [] [.slice none 0 0] [(0,base+1)]:=by
   intro q kk hm;simp only[aRv,aRR] at hm;obtain⟨rfl,rfl⟩:=hm;exact⟨u,[],.slice none 0 0,by unfold r9;simp [uY],rfl,by simp [Gh.tok]⟩
  have e2:=sB.newVar (side:=[]) (rds:=[]) (base:=base) (toks:=[(0,base+1)]) (e:=t) hH1 (DZ (g.tok (base+1) 0 (.slice none 0 0)) w (.list u)) htk hf0.1 (by
   funext n;show (if base=base+1/\n=0 then _ else _)=_;rw[aRk pF];exact hf0.2 n)
  exact rC.value (run _ hst) (sB.trans (side:=[]) (rds:=[]) e1 e2)
 .rename_i ti hno;obtain⟨g',h⟩:=aAw (el:=t) hH hr hf (DZ g w ti.ty) (fun q _=>⟨0,UZ _ _,pF⟩);exact rC.value (run _ hst) h
 .cases hr
theorem aJb {t:TypeId}(ho:o.op= .alloc t) {base:Nat}{e:qJ}(hr:P9 base t (rK T t)=some e) (hf:yX g base e):rC P o a g w H e:=by
 have run: ∀ti,rK T t=some ti->(execOp a.eval o).run P w= .ok (.value (.pointer (some ⟨w.heap.size,0,none⟩))) (w.alloc (.cells (uC ti.ty).toArray t)):=by
  intro ti hti;obtain⟨i,hi,hsz,hz⟩:=E2 (tE hT hti);have hc:(wL ti.ty).cells=(uC ti.ty).toArray:=by
   have:=FB (KD g w ti.ty);unfold wL;cases h:ti.ty<;>simp [Ty.isRow,uC,Value.cells]
  unfold execOp;rw[ho];simp only[Instr.alloc,zeroValue,typeInfo,Go.newVar,newRow,aRy,aSk,hi,hz,hc,run_newObj,aRp,aRI];rfl
 exact aAx hT hH run hr hf
theorem aJc {t:TypeId}{x:Operand}(ho:o.op= .box t x) {sx:qB}(hx:rH g w sx (a.eval x)) (hfix: ∀ti:Option TI,rH g w (M8 ti sx) (a.eval x)) {base:Nat}{e:qJ}(hr:YZ base t (rK T t) sx=some e) (hf:yX g base e):rC P o a g w H e:=by
 generalize hst:rK T t=ot at hr;unfold YZ at hr;split at hr
 .rename_i u el by' ar ls_ k;rw[<-hst] at hr;refine aAx hT hH (fun ti hti=> ?_) hr hf;rw[hst] at hti;cases hti;have hv:a.eval x= .slice none 0 0:=hx.1;unfold execOp;rw[ho];simp only[Instr.box,Go.newVar,newRow,aRy,run_newObj,aRp,aRI,hv];rfl
 .rw[<-hst] at hr;exact aJa hT hH ho (hfix _) hr hf
omit hT hH in
theorem aJd {t:Ty}{y:t.den}{k:pO}{v:pR}(h:D3 g t y v k):D3 g t y v (F4 t k):=by
 cases t with
 |list u=>exact h
 |_=>trivial
omit hT hH in
theorem aAy {off:Nat}: ∀{l:pK}{o k:Nat},(o,k)∈MF off l->∃q,o=off+q/\(q,k)∈l
 |[],_,_,h=>by cases h
 |(q,k')::r,o,k,h=>by
  simp only[MF,aRu,aRR] at h;rcases h with⟨rfl,rfl⟩ |h
  .exact⟨q,rfl,aRm⟩
  .obtain⟨q',h1,h2⟩:=aAy h;exact⟨q',h1,aRo _ h2⟩
omit hT hH in
theorem aAz {v t:Ty}{y:t.den}: ∀{u:Ty}{x z:u.den}{o q:Nat}{l:(Ty.list v).den},sQ t y u x o=some z->r9 (.list v) t y q=some l->q<t.cells->r9 (.list v) u z (o+q)=some l:=by
 intro u
 induction u with
 |pair a b iha ihb=>
  intro x z o q l h g hq;by_cases hu:o=0/\t= .pair a b
  .obtain⟨rfl,rfl⟩:=hu;unfold sQ at h;rw[aTj rfl] at h;simp only[uY,aRd] at h;subst h;simpa using g
  .have keyh:(if o<a.cells then(sQ t y a x.1 o).map (fun q=>(q,x.2)) else(sQ t y b x.2 (o-a.cells)).map (fun q=>(x.1,q)))=some z:=by
    cases o with
    |zero=>
     unfold sQ at h;rw[aSY (fun e=>hu ⟨rfl,e⟩)] at h;simpa using h
    |succ o=>simpa[sQ] using h
   have keyg: ∀m,r9 (.list v) (.pair a b) z m=(if m<a.cells then r9 (.list v) a z.1 m else r9 (.list v) b z.2 (m-a.cells)):=by
    intro m;cases m with
    |zero=>
     conv=>lhs;unfold r9
     rw[aSY (by intro e;cases e),Nat.zero_sub]
    |succ m=>simp [r9]
   rw[keyg];by_cases ho:o<a.cells
   .rw[aRf ho] at keyh;obtain⟨z',hz',rfl⟩:=aRn.1 keyh;have hfit:o+t.cells<=a.cells:=by
     have: ∀{u:Ty}{x z:u.den}{o:Nat},sQ t y u x o=some z->o+t.cells<=u.cells:=by
      intro u
      induction u with
      |pair a b iha ihb=>
       intro x z o h;have key: ∀o,(if o<a.cells then(sQ t y a x.1 o).map (fun q=>(q,x.2)) else(sQ t y b x.2 (o-a.cells)).map (fun q=>(x.1,q)))=some z->o+t.cells<=a.cells+b.cells:=by
        intro o h;by_cases ho:o<a.cells
        .rw[aRf ho] at h;obtain⟨z',hz',_⟩:=aRn.1 h;have:=iha hz';omega
        .rw[aRk ho] at h;obtain⟨z',hz',_⟩:=aRn.1 h;have:=ihb hz';omega
       cases o with
       |zero=>
        unfold sQ at h;split at h
        .rename_i e;subst e;simp
        .exact key 0 (by simpa using h)
       |succ o=>exact key (o+1) (by simpa[sQ] using h)
      |_=>
       intro x z o h;cases o with
       |zero=>
        unfold sQ at h;split at h
        .rename_i e;subst e;simp
        .simp at h
       |succ o=>simp [sQ] at h
     exact this hz'
    rw[aRf pF];exact iha hz' g hq
   .rw[aRk ho] at keyh;obtain⟨z',hz',rfl⟩:=aRn.1 keyh;rw[aRk pF,show o+q-a.cells=o-a.cells+q from by omega];exact ihb hz' g hq
 |_=>
  intro x z o q l h g hq;cases o with
  |zero=>
   unfold sQ at h;split at h
   .rename_i e;subst e;simp only[uY,aRd] at h
    try subst h
    simpa using g
   .simp at h
  |succ o=>simp [sQ] at h
omit hT hH in
theorem aAA {v:Ty}: ∀{t:Ty}{x:t.den}{q:Nat}{l:(Ty.list v).den},r9 (.list v) t x q=some l->q<t.cells:=by
 intro t
 induction t with
 |pair s t ihs iht=>
  intro x q l g;have key: ∀q,(if q<s.cells then r9 (.list v) s x.1 q else r9 (.list v) t x.2 (q-s.cells))=some l->q<s.cells+t.cells:=by
   intro q g;by_cases h:q<s.cells
   .omega
   .rw[aRk h] at g;have:=iht g;omega
  cases q with
  |zero=>
   unfold r9 at g;rw[aSY (by intro e;cases e)] at g;exact key 0 (by simpa using g)
  |succ q=>exact key (q+1) (by simpa[r9] using g)
 |unit=>
  intro x q l g;cases q with
  |zero=>unfold r9 at g;rw[aSY (by intro e;cases e)] at g;cases g
  |succ q=>simp [r9] at g
 |_=>
  intro x q l g;cases q with
  |zero=>simp [Ty.cells]
  |succ q=>simp [r9] at g
omit hT in
theorem sB.retok {i:Nat}{u:Ty}{z:u.den}{toks nt:pK}{p:Pl}(hb:qD H i=some (.cells u z toks)) (hp:g.J i=some p)
  (hn: ∀cs,Rd g w u z cs->w.rangeAt p.1 p.2 cs->GF g u z cs nt):sB g w H ⟨[],(.any,none),[(i,.cells u z (qT nt toks))],[]⟩ g w undef:=by
 obtain⟨p',cs,hp',hR,hra,hth,hns,htk⟩:=hH.blk i _ hb;rw[hp] at hp';obtain rfl:=aRi hp';have get: ∀j blk,j∈qE [(i,q9.cells u z (qT nt toks))]->qD (qT [(i,q9.cells u z (qT nt toks))] H) j=some blk->j=i/\blk= .cells u z (qT nt toks):=by
  intro j blk hi hg;simp only[qE,aRv] at hi;subst hi;simp only[qT,qD,aSU,aRd] at hg;exact⟨rfl,hg.symm⟩
 have perm: ∀j blk b o,j∈qE [(i,q9.cells u z (qT nt toks))]->qD (qT [(i,q9.cells u z (qT nt toks))] H) j=some blk->sA g j blk b o->w.heap.size<=b\/sX g H (qE [(i,q9.cells u z (qT nt toks))]) b o:=by
  intro j blk b o hi hg ho;obtain⟨rfl,rfl⟩:=get j blk hi hg;exact .inr ⟨j,_,hi,hb,ho⟩
 have le:Le g w g w:=⟨fun _ _ h=>h,fun _ _ _=>rfl,fun _ _ h=>h,fun _ _ _ h=>h⟩;have fr:Fr (sX g H (qE [(i,q9.cells u z (qT nt toks))])) w w g.S g.S:=⟨rfl,rfl,rfl,aRE _,fun _ _ _=>rfl,fun _ _ _ _=>⟨rfl,rfl⟩,fun _ _ h=> .inl h,fun _ _ h=> .inl h⟩;refine⟨le,⟨trivial,trivial⟩,hH.upd le fr perm (fun _ _=>⟨rfl,rfl⟩) (fun j blk hi hg=> ?_) (fun i j bi bj b o hi hj hij hgi hgj _ _=>hij ((get i bi hi hgi).1.trans (get j bj hj hgj).1.symm)) (fun b o h=>hH.sl b o h),fr,perm,fun _ _=>⟨rfl,rfl⟩,fun j u' y' us h=> ?_⟩
 .obtain⟨rfl,rfl⟩:=get j blk hi hg;refine⟨p,cs,hp,hR,hra,hth,hns,fun q kk hm=> ?_⟩;rcases(Q0.1 hm) with hm|hm
  .exact hn cs hR hra q kk hm
  .exact htk q kk hm
 .simp only[qT,qD] at h;split at h
  .rename_i e1;subst e1;simp only[aRd,q9.cells.injEq] at h;obtain⟨rfl,_⟩:=h;exact .inl ⟨z,toks,hb⟩
  .exact .inl ⟨y',us,h⟩
omit hT hH in
theorem aJe {g:Gh}{t a b:Ty}{y:t.den}{v:pR}{k:pO}(h:k.isSome=true) (ht:t= .pair a b) (hk:D3 g t y v k): ∃m,k=some m/\y7 m t 0 v.cells.toList:=by
 subst ht;cases k with
 |none=>cases h
 |some k=>exact⟨k,rfl,hk⟩
omit hT hH in
theorem aJf {base i off:Nat}{b:Option q9}{ls:List (Nat×TypeId×Nat)}{t:Ty}{y:t.den}{k:pO}{e:qJ}(h:U2 base i off b ls t y k=some e):
  (∃(s:Ty) (x:s.den) (toks:pK) (z:s.den),b=some (.cells s x toks)/\sQ t y s x off=some z/\k.isSome=true/\(∃a c,t= .pair a c)/\∃m,k=some m/\F7 t (C9 m ls)=true/\
   e=⟨[],(.any,none),(i,.cells s z (qT (MF off (C8 (C9 m ls) base)) (vW toks off t.cells)))::qT (DT (C9 m ls) base) [(i,.cells s z (vW toks off t.cells))],[i]⟩)\/U0 t y k i off b=some e:=by
 unfold U2 at h;split at h
 .rename_i q r a c y' k';cases hok:F7 (.pair a c) (C9 k' (q::r)) with
  |false=>rw[hok] at h;unfold U1 at h;split at h<;>first|cases h|(rename_i h2;cases h2)
  |true=>
   rw[hok] at h;unfold U1 at h;split at h
   .rename_i s x toks _;cases hset:sQ (.pair a c) y' s x off with
    |none=>rw[hset] at h;cases h
    |some z=>
     rw[hset] at h;exact .inl ⟨s,x,toks,z,rfl,hset,rfl,⟨a,c,rfl⟩,_,rfl,hok,(aRi h).symm⟩
   .cases h
 .exact .inr h
omit hT hH in
theorem aAB {i off k n el:Nat}{u v:Ty}{x:v.den}{y:Option qJ}{e:qJ}(h:orO i off k n el u v x y=some e):y=some e\/ZB i (yG el u (some (k,n)) v x off)=some e:=by
 cases y with
 |some r=>exact .inl h
 |none=>exact .inr h
theorem aJg {t:TypeId}{x y:Operand}(ho:o.op= .store t x y) {sx sy:qB}(hx:rH g w sx (a.eval x)) (hy:rH g w sy (a.eval y)) {base:Nat}{e:qJ}(hr:U4 base H (rK T t) sx sy=some e) (hside: ∀p∈e.side,p) (hf:yX g base e):rC P o a g w H e:=by
 generalize hst:rK T t=ot at hr;unfold U4 at hr;split at hr
 .rename_i ti i off k kk n k2;generalize hb:qD H i=ob at hr;unfold ZC at hr;split at hr
  .rename_i u el _ _ _ v x' toks;rcases aAB hr with hr|hr
   case inr=>
    generalize hset:yG el u (some (kk,n)) v x' off=oz at hr;cases oz with
    |none=>cases hr
    |some z'=>
     cases hr;have hty:=tE hT hst;obtain⟨p,hp,hv⟩:=zQ hx.1;obtain⟨h1,h2⟩:=hy.1;have hR:Rd g w (.rl el u) (some (kk,n)) [a.eval y]:=⟨_,h1,rfl,h2⟩;obtain⟨heff,hth⟩:=zO.openS (side:=[]) (rds:=[1000000000,i]) hH hb hp hset hR rfl rfl;have hce:(a.eval y).cells= #[a.eval y]:=by rcases h2 with⟨h2,_⟩ |⟨_,_,h2,_⟩<;>(rw[h2];rfl)
     refine rC.skipW (w':=w.setCells p.1 (p.2+off) [a.eval y]) ?_ heff;obtain⟨inf,hi,hsz,_⟩:=E2 hty;have hcells:=run_storeCells_cells (P:=P) p.1 (p.2+off) [a.eval y] 0 w (fun j hj=>by simpa using(hth j hj).1) (fun j hj=>by simpa using(hth j hj).2) (fun v hv=>AR hR v hv);simp only[aSg] at hcells;have hs2:(a.eval y).cells.size=inf.size:=by rw[hsz,hce];rfl
     have hcl:(a.eval y).cells.toList=[a.eval y]:=by rw[hce]
     simp only[execOp,ho,hv,Instr.storeAt,Instr.sureAddr,storeVar,aRy,aRI,aRp,sizeOf,typeInfo,aSk,hi,hs2,ne_eq,not_true_eq_false,aTn,hcl,hcells]
   generalize hset:sQ (.rl el u) (some (kk,n)) v x' off=oz at hr;cases oz with
   |none=>cases hr
   |some z'=>
    cases hr;have hty:=tE hT hst;obtain⟨p,hp,hv⟩:=zQ hx.1;obtain⟨h1,h2⟩:=hy.1;have hR:Rd g w (.rl el u) (some (kk,n)) [a.eval y]:=⟨_,h1,rfl,h2⟩;obtain⟨heff,hth⟩:=sB.store (side:=[]) (rds:=[i]) (k:=none) (v:=a.eval y) hH hb hp hset hR trivial (fun _ _ _=>rfl) (fun _=>rfl);have hce:(a.eval y).cells= #[a.eval y]:=by rcases h2 with⟨h2,_⟩ |⟨_,_,h2,_⟩<;>(rw[h2];rfl)
    refine rC.skip (w':=w.setCells p.1 (p.2+off) [a.eval y]) ?_ heff;obtain⟨inf,hi,hsz,_⟩:=E2 hty;have hcells:=run_storeCells_cells (P:=P) p.1 (p.2+off) [a.eval y] 0 w (fun j hj=>by simpa using(hth j hj).1) (fun j hj=>by simpa using(hth j hj).2) (fun v hv=>AR hR v hv);simp only[aSg] at hcells;have hs2:(a.eval y).cells.size=inf.size:=by rw[hsz,hce];rfl
    have hcl:(a.eval y).cells.toList=[a.eval y]:=by rw[hce]
    simp only[execOp,ho,hv,Instr.storeAt,Instr.sureAddr,storeVar,aRy,aRI,aRp,sizeOf,typeInfo,aSk,hi,hs2,ne_eq,not_true_eq_false,aTn,hcl,hcells]
  .cases hr
 .rename_i ti k n c i o' _ u z kk;split at hr
  .rename_i hu;subst hu;generalize hk:qD H k=ob at hr;unfold U3 at hr;split at hr
   .rename_i e' t' l m;split at hr
    .rename_i hc;generalize hset:sQ ti.ty z t' (qU t' l i) o'=oz at hr;cases oz with
     |none=>cases hr
     |some z'=>
      cases hr;have hnm:=hside _ (aRv.2 rfl);obtain⟨b,cap,xs,c1,c2,c3,hv,hcur,hown,hF,hl,hi,h0,e1,e2,e3,e4⟩:=aAi hT hH hx.1 hk hnm hc;subst hnm;have hty:=tE hT hst;obtain⟨hvy,hky⟩:=a0t hT hH hy;have hR:=FB hvy;have hRl:=sR hR;obtain⟨d1,d2,d3,f1,f2,f3,f4⟩:=UV hR e4 hset;obtain⟨_,_,_,_,hv0,hown0,_,hnone,hseal⟩: ∃(_:True) (_:True) (v0:pR) (xs0:pM),g.cur k n=some v0/\w.ownsRow 0 e' t'.cells v0 n xs0/\tX (Rd g w t') t'.cells l xs0/\(∀m,n<m->g.cur k m=none)/\∀b,v0.ownBlock=some b->∀o,¬g.S b o:=by
       obtain⟨_,v0,xs0,q1,q2,q3,q4,q5⟩:=hH.blk k _ hk;exact⟨trivial,trivial,v0,xs0,q1,q2,q3,q4,q5⟩
      rw[hcur] at hv0;obtain rfl:=aRi hv0;rcases hown.2 with⟨h5,_⟩ |⟨q,cap',cur,h5,_,hg,hnc,hcm,hcs,htake⟩
      .cases h5
      simp only[aTf,aRd,Addr.mk.injEq,and_true,true_and] at h5;obtain⟨rfl,rfl⟩:=h5;have hxl:=hown.1;have hnew:=sR f4;simp only[aRg] at hnew;have hc2l:c2.length=t'.cells:=by rw[e3,hc]
      have hd:d1.length+d2.length+d3.length=t'.cells:=by rw[<-hc2l,f1];simp only[aRg]
      have hx1:c1.length+c2.length+c3.length=n*t'.cells:=by rw[<-hxl,e1];simp only[aRg]
      have hall:cur.toList=(c1++(d1++d2++d3)++c3)++cur.toList.drop (n*t'.cells):=by
       conv=>lhs;rw[<-aSQ (n*t'.cells) cur.toList,htake,e1,f1]
      obtain⟨D,hD⟩: ∃D,D=cur.toList.drop (n*t'.cells):=⟨_,rfl⟩;rw[<-hD] at hall;have hall2:cur.toList=(c1++d1)++(d2++(d3++c3++D)):=by rw[hall];simp only[aRl]
      have hpos:i.toNat*c+o'=(c1++d1).length:=by rw[aRg,e2,f2]
      have hD2:(a.eval y).cells.toList.length=d2.length:=by rw[hRl,f3]
      have hfit:i.toNat*c+o'+0+(a.eval y).cells.toList.length<=cur.size:=by
       have:cur.size=cur.toList.length:=by simp
       rw[this,hall2,aSg,hpos,hD2];simp only[aRg];omega
      have hst2:=run_storeCells_at P b (i.toNat*c+o') e' (a.eval y).cells.toList 0 cur w hg hfit (fun v hv=>AR hR v hv);have hrow:cur.toList.take (i.toNat*c+o'+0)++(a.eval y).cells.toList++cur.toList.drop (i.toNat*c+o'+0+(a.eval y).cells.toList.length)=(c1++(d1++(a.eval y).cells.toList++d3)++c3)++D:=by
       rw[aSg,hpos,hD2,hall2,aSd,List.drop_append,List.drop_of_length_le pF,List.nil_append,aR5,aSD];simp only[aRl]
      rw[hrow] at hst2;obtain⟨inf,hinf,hsz,_⟩:=E2 hty;have hs2:(a.eval y).cells.size=inf.size:=by rw[hsz,<-hRl,aRQ]
      have hnewlen:((c1++(d1++(a.eval y).cells.toList++d3)++c3)++D).length=cur.size:=by
       have:cur.size=cur.toList.length:=by simp
       rw[this,hall];simp only[aRg];omega
      have hxs':(c1++(d1++(a.eval y).cells.toList++d3)++c3).length=n*t'.cells:=by
       rw[<-hx1];simp only[aRg];rw[f1];simp only[aRg];omega
      have hown':(w.setRow b ((c1++(d1++(a.eval y).cells.toList++d3)++c3)++D).toArray).ownsRow 0 e' t'.cells (.slice (some ⟨b,0,none⟩) n cap) n (c1++(d1++(a.eval y).cells.toList++d3)++c3):=
       ⟨hxs',.inr ⟨b,cap,_,rfl,aSo _,aTa w b cur _ e' _ hg,hnc,hcm,by rw[aR7,hnewlen,hcs],by rw[<-hxs'];exact aSd⟩⟩
      have hF':tX (Rd g w t') t'.cells (l.set i.toNat z') (c1++(d1++(a.eval y).cells.toList++d3)++c3):=by
       obtain⟨q1,q2,q3,r1,r2,r3,r4⟩:=a0l hF f4 (sR f4) hi;have s1:q1=c1/\q2=c2/\q3=c3:=by
        have h6:q1++(q2++q3)=c1++(c2++c3):=by rw[<-aRl,<-r1,e1,aRl]
        obtain⟨h7,h8⟩:=aTd h6 (by rw[r2,e2,hc]);obtain⟨h9,h10⟩:=aTd h8 (by rw[r3,e3,hc]);exact⟨h7,h9,h10⟩
       obtain⟨rfl,rfl,rfl⟩:=s1;exact r4
      have hownk: ∀o,sX g H [k] b o:=fun o=>⟨k,_,by simp,hk,_,hcur,rfl⟩;refine rC.skip (w':=w.setRow b ((c1++(d1++(a.eval y).cells.toList++d3)++c3)++D).toArray) ?_ (sB.row (v:= .slice (some ⟨b,0,none⟩) n cap) hH (by rw[List.length_set];exact hl) hown' hF' hnone (fun u hu=>by rw[hcur] at hu;exact(aRi hu).symm)
       (.inr ⟨some b,⟨rfl,rfl,rfl,by simp,fun q _ hq=>aSN w b q _ (fun e=>hq (by rw[e]))⟩,fun b' hb' o=>by cases hb';exact hownk o⟩) (fun b' o hS=> ?_) hseal (fun b' hb'=>by cases hb';exact .inr hownk) ⟨trivial,trivial⟩)
      .simp only[execOp,ho,hv,Instr.storeAt,Instr.sureAddr,storeVar,aRy,aRI,aRp,sizeOf,typeInfo,aSk,hinf,hs2,ne_eq,not_true_eq_false,aTn,hst2]
      .have hne:b'≠b:=fun e=>hseal b rfl o (e▸hS);exact aRH (a:=⟨b',o,none⟩) (aSN w b b' _ hne)
    .cases hr
   .cases hr
  .cases hr
 .rename_i ti i off k u z kk;split at hr
  .rename_i hu;subst hu;generalize hb:qD H i=ob at hr;have hty:=tE hT hst;obtain⟨p,hp,hv⟩:=zQ hx.1;obtain⟨hvy,hky⟩:=a0t hT hH hy;have hR:=FB hvy;have hone:ti.ty.isRow=false->(a.eval y).cells.toList=[a.eval y]:=fun hrow=>by
    have h1:=AR (AS hrow hvy) _ (aRv.2 rfl);cases h:a.eval y<;>first|rfl|(rw[h] at h1;simp [Value.oneCell'] at h1)
   have hrun:w.there p.1 (p.2+off) (a.eval y).cells.toList.length->(execOp a.eval o).run P w= .ok .skip (w.setCells p.1 (p.2+off) (a.eval y).cells.toList):=by
    intro hth;obtain⟨inf,hi,hsz,_⟩:=E2 hty;have hlen:=sR hR;have hcells:=run_storeCells_cells (P:=P) p.1 (p.2+off) (a.eval y).cells.toList 0 w (fun j hj=>by simpa using(hth j hj).1) (fun j hj=>by simpa using(hth j hj).2) (fun v hv=>AR hR v hv);simp only[aSg] at hcells;have hs2:(a.eval y).cells.size=inf.size:=by rw[hsz,<-hlen,aRQ]
    simp only[execOp,ho,hv,Instr.storeAt,Instr.sureAddr,storeVar,aRy,aRI,aRp,sizeOf,typeInfo,aSk,hi,hs2,ne_eq,not_true_eq_false,aTn,hcells]
   rcases aJf hr with⟨s,x',toks,z',hb',hset,hsome,⟨pa,pb,hpair⟩,mk_,hmk,hok,rfl⟩ |hr
   .rw[hb'] at hb;have hn:y7 mk_ ti.ty 0 (a.eval y).cells.toList:=by
     obtain⟨m',e1,e2⟩:=aJe hsome hpair hky;rw[hmk] at e1;obtain rfl:=aRi e1;exact e2
    have hlx:=fun q hq=>V3 (k:=mk_) (ls:=ti.ls) (q:=q) hq;generalize C9 mk_ ti.ls=lsm at hf hok hlx|-;obtain⟨heff,hth⟩:=sB.store (side:=[]) (rds:=[i]) (k:=none) (v:=undef) hH hb hp hset hR trivial (fun _ _ _=>rfl) (fun h=>by rw[hpair] at h;cases h);have hfr: ∀j,base<=j->j<base+lsm.length->∀n,g.cur j n=none:=fun j h1 h2=>(hf j (by
     simp only[qE,aRu];right;rw[E3];exact .inl ((PZ _ base j).2 ⟨h1,h2⟩)) h1).2
    obtain⟨g1,k1,k2,k3,k4⟩:=a0p lsm base g _ heff.heap hfr;have e2:=sB.trans (side:=[]) (rds:=[]) heff k1;have hib:i<base:=by
     rcases aSr i base with h|h
     .exact h
     .have:=(hf i (by simp [qE]) h).1;rw[hp] at this;cases this
    have hiN:i∉qE (DT lsm base):=fun h=>by
     have:=(PZ _ base i).1 h;omega
    have hb3:qD (qT (qT (DT lsm base) [(i,q9.cells s z' (vW toks off ti.ty.cells))]) H) i=some (.cells s z' (vW toks off ti.ty.cells)):=by
     rw[MV,CF hiN];simp [qT,qD]
    have hyl:=sR hR;have e3:=sB.retok (p:=p) (nt:=MF off (C8 lsm base)) e2.heap hb3 (by rw[k2];exact hp) (fun cs hRz hra o k hm=>by
     obtain⟨q,rfl,hq⟩:=aAy hm;obtain⟨en,he,rfl⟩:=a0q hq;obtain⟨u,h1,h2⟩:=aAd hn hR (a0r hok en he) (by have:=hlx en he;omega);have hql:en.1<(a.eval y).cells.toList.length:=(aRs.1 h2).1;have h3:=aAz hset h1 pF;refine⟨u,[],.slice none 0 0,h3,?_,k3 _ _ hq⟩;have hlen:=sR hRz;have hlt:=aAA h3;have hc:cs[off+en.1]? =some cs[off+en.1]:=aRr pF;have hr1:=hra _ _ hc;have hr2:=aSL p.1 (a.eval y).cells.toList (p.2+off) w (fun j hj=>(hth j hj).1) en.1 hql;rw[aRZ] at hr2;rw[hr2] at hr1;rw[hc,<-hr1,<-h2,aRr hql])
    exact rC.skip (w':=w.setCells p.1 (p.2+off) (a.eval y).cells.toList) (hrun hth) (sB.trans (side:=[]) (rds:=[i]) e2 e3)
   .unfold U0 at hr;split at hr
    .rename_i s q toks _;generalize hset:sQ ti.ty z s q off=oz at hr;cases oz with
     |none=>cases hr
     |some z'=>
      cases hr;obtain⟨heff,hth⟩:=sB.store (side:=[]) (rds:=[i]) hH hb hp hset hR (aJd hky) (fun a b e=>by rw[e];rfl) hone;exact rC.skip (w':=w.setCells p.1 (p.2+off) (a.eval y).cells.toList) (hrun hth) heff
    .cases hr
  .cases hr
 .cases hr
theorem aAC {t:Ty}{n:Nat}{ev:Operand->pR}{ρ:Operand->qB}: ∀(ps:List (Nat×Operand)) (l z:List t.den) (cs:pM),tX (Rd g w t) t.cells l cs->l.length=n->(∀q∈ps,rH g w (ρ q.2) (ev q.2))->B8 t n (some l) (uZ ρ ps)=some z->
  ∃cs',Instr.fill (fun i=>some (i*t.cells,t.cells)) cs.toArray (ps.map fun q=>(q.1,ev q.2))=some cs'.toArray/\tX (Rd g w t) t.cells z cs'/\z.length=n
 |[],l,z,cs,r,hl,_,h=>by
  simp only[uZ,B8,aRd] at h;subst h;exact⟨cs,rfl,r,hl⟩
 |(i,q)::ps,l,z,cs,r,hl,hq,h=>by
  have h0:=hq (i,q) pH;generalize hs:ρ q=s at h0;simp only[uZ,hs] at h;obtain⟨d,k⟩:=s;cases d with
  |val u y=>
   simp only[B8,a9l] at h;by_cases hc:u=t/\i<n
   .rw[aTj hc] at h;obtain⟨rfl,hi⟩:=hc;simp only[uY] at h;have hR:=FB h0.1;obtain⟨c1,c2,c3,rfl,h2,h3,h4⟩:=a0l (i:=i) r hR (sR hR) pF;obtain⟨cs',k1,k2,k3⟩:=aAC ps (l.set i y) z _ h4 (by simpa using hl) (fun q hq'=>hq q (by simp [hq'])) h;refine⟨cs',?_,k2,k3⟩;simp only[aSi];rw[aAc rfl (by have:=sR hR;simpa using this) (c1:=c1) (c2:=c2) (c3:=c3) pH h2 h3];exact k1
   .rw[aSY hc] at h;cases ps with
    |nil=>simp [uZ,B8] at h
    |cons p ps=>simp [uZ,B8] at h
  |_=>simp [B8] at h
theorem a0u {t:TypeId}{n:Nat}{ps:Array (Nat×Operand)}(ho:o.op= .buildSlice t n ps) {ρ:Operand->qB}(hρ: ∀q∈ps.toList,rH g w (ρ q.2) (a.eval q.2)) {u:Ty}{el:TypeId}{by':Nat}{ar:Bool}{ls:List (Nat×TypeId×Nat)}(hst:rK T t=some ⟨.list u,el,by',ar,ls⟩) {l:List u.den}
  (hb:B8 u n (some (D1 u n)) (uZ ρ ps.toList)=some l) (hn:n<=16777216/\n*u.cells<=16777216):
  ∃cs':pM,tX (Rd g w u) u.cells l cs'/\l.length=n/\(execOp a.eval o).run P w= .ok (.value (.slice (some ⟨w.heap.size,0,none⟩) n n)) (w.alloc (.cells cs'.toArray el)):=by
    obtain⟨h2,h3,_⟩:=(tE hT hst).2;obtain⟨ei,hei,hz⟩:=aRn.1 h3;simp only[aRR] at hz;obtain⟨cs',k1,k2,k3⟩:=aAC hT hH ps.toList (D1 u n) l _ (aAn n) (aAo u n) hρ hb;refine⟨cs',k2,k3,?_⟩;have hzc:(wL u).cells=(uC u).toArray:=by
     unfold wL;cases h:u<;>simp [Ty.isRow,uC,Value.cells]
    have hmap:(ps.map fun(q:Nat×Operand)=>(q.1,a.eval q.2)).toList=ps.toList.map fun q=>(q.1,a.eval q.2):=by simp
    have hzl:(uC u).length=u.cells:=sR (DZ g w u);have hrow: ∀z:Array pR,(n*u.cells≠0->z=(uC u).toArray)->(Array.range (n*u.cells)).map (fun i=>z[i%z.size]!)=(List.flatten (List.replicate n (uC u))).toArray:=by
     intro z hz0;by_cases h0:n*u.cells=0
     .rw[h0];have:List.flatten (List.replicate n (uC u))=[]:=aRS (by simp [hzl,h0]);rw[this];simp
     .rw[hz0 h0];have hpos:0<u.cells:=Nat.pos_of_ne_zero (fun h=>h0 (by rw[h];simp));apply aSp.1;apply List.ext_getElem?;intro j;have key: ∀(m j:Nat),j<m*u.cells->(List.flatten (List.replicate m (uC u)))[j]? =(uC u)[j%u.cells]? :=by
       intro m
       induction m with
       |zero=>intro j h;simp at h
       |succ m ih=>
        intro j h;rw[List.replicate_succ,aR8];by_cases hj:j<u.cells
        .rw[aRz pF,Nat.mod_eq_of_lt hj]
        .rw[aRt pF,hzl,ih (j-u.cells) (by rw[aSm] at h;omega)];congr 1
         conv=>rhs;rw[<-Nat.sub_add_cancel (Nat.le_of_not_lt hj),Nat.add_mod_right]
      by_cases hj:j<n*u.cells
      .have hm:j%u.cells<(uC u).length:=by rw[hzl];exact Nat.mod_lt _ hpos
       simp only[Array.toList_map,Array.toList_range,List.getElem?_map,List.getElem?_range hj,Option.map_some,aR7,hzl];rw[key n j hj,aRr hm];simp [getElem!_pos,hm]
      .rw[aSI pI,aSI (by simp [hzl];omega)]
    have hlim: ¬(n*u.cells>2^24):=by have:=hn.2;omega
    by_cases h0:n*u.cells=0
    .simp only[execOp,ho,Instr.buildSlice,aRy,aRB h2,aRp,sizeOf,typeInfo,aSk,hei,hz.1,aRI,aRk hlim,aRf h0];rw[hrow #[] (fun h=>absurd h0 h),hmap,k1];simp only[newRow,aRy,run_newObj,aRp,aRI];rfl
    .simp only[execOp,ho,Instr.buildSlice,aRy,aRB h2,aRp,sizeOf,typeInfo,aSk,hei,hz.1,aRI,aRk hlim,aRk h0,zeroValue,hz.2.2,hzc];rw[hrow (uC u).toArray (fun _=>rfl),hmap,k1];simp only[newRow,aRy,run_newObj,aRp,aRI];rfl
theorem aJh {t:TypeId}{n:Nat}{ps:Array (Nat×Operand)}(ho:o.op= .buildSlice t n ps) {ρ:Operand->qB}(hρ: ∀q∈ps.toList,rH g w (ρ q.2) (a.eval q.2)) {base:Nat}{e:qJ}(hr:Z3 base n (uZ ρ ps.toList) (rK T t)=some e) (hf:yX g base e):rC P o a g w H e:=by
 generalize hst:rK T t=ot at hr;unfold Z3 at hr;split at hr
 .rename_i u el by' ls_;split at hr
  .rename_i hn0;generalize hb:B8 u n (some (D1 u n)) (uZ ρ ps.toList)=ol at hr;cases ol with
   |none=>cases hr
   |some l=>
    simp only[a9z] at hr;split at hr
    .rename_i hn;cases hr;obtain⟨cs',k2,k3,hrun⟩:=a0u hT hH ho hρ hst hb hn.2;have hfr:=(hf base (by simp [qE]) (aRE _)).2;have hlen:=IB k2;have hown:(w.alloc (.cells cs'.toArray el)).ownsRow 0 el u.cells (.slice (some ⟨w.heap.size,0,none⟩) n n) n cs':=⟨by rw[hlen,k3],.inr ⟨w.heap.size,n,cs'.toArray,rfl,aSo _,aTg w _,aRE _,by unfold maxLen;omega,by simp [hlen,k3],by simp [<-k3,<-hlen]⟩⟩;refine rC.value hrun (sB.row (v:= .slice (some ⟨w.heap.size,0,none⟩) n n) (xs:=cs') hH k3 hown k2 (fun m _=>hfr m) (fun u hu=>by rw[hfr] at hu;cases hu) (.inl (World.grownBy_alloc w _ _)) (fun b o h=>aRH (a:=⟨b,o,none⟩) (aRN _ _ _ (hH.sl b o h))) (fun b hb o hs=> ?_) (fun b hb=> ?_) ⟨⟨by simp [Gh.tok],.inr ⟨_,_,rfl,aRE _⟩⟩,trivial⟩)
     .cases hb;exact aSV _ (hH.sl _ _ hs)
     .cases hb;exact .inl (aRE _)
    .cases hr
  .rename_i hn0;generalize hb:B8 u n (some (D1 u n)) (uZ ρ ps.toList)=ol at hr;cases ol with
   |none=>cases hr
   |some l=>
    simp only[TU] at hr;split at hr
    .rename_i hn;cases hr;obtain⟨cs',k2,k3,hrun⟩:=a0u hT hH ho hρ hst hb hn;have hfr:=hf base (by simp [qE]) (aRE _);exact rC.value (v:= .slice (some ⟨w.heap.size,0,none⟩) n n) (w':=w.alloc (.cells cs'.toArray el)) hrun (sB.lit hH rfl k3 k2 (by unfold maxLen;omega) hfr.2)
    .cases hr
 .rename_i u el by' ls_;generalize hb:B8 u n (some (D1 u n)) (uZ ρ ps.toList)=ol at hr;cases ol with
  |none=>cases hr
  |some l=>
   simp only[TU] at hr;split at hr
   .rename_i hn;cases hr;obtain⟨cs',k2,k3,hrun⟩:=a0u hT hH ho hρ hst hb hn;have hfr:=hf base (by simp [qE]) (aRE _);exact rC.value (v:= .slice (some ⟨w.heap.size,0,none⟩) n n) (w':=w.alloc (.cells cs'.toArray el)) hrun (sB.lit hH rfl k3 k2 (by unfold maxLen;omega) hfr.2)
   .cases hr
 .cases hr
theorem aJi {args:Array Operand}{tys:Array TypeId}(ho:o.op= .call ⟨.builtin .append,args,tys⟩) {ρ:Operand->qB}(hρ: ∀x∈args.toList,rH g w (ρ x) (a.eval x)) {e:qJ}
  {t:TypeId}(htt:tys= #[t,t]) (hr:UB H (rK T t) (vX ρ args.toList)=some e) (hs: ∀p∈e.side,p):rC P o a g w H e:=by
 subst htt;generalize hst:rK T t=ot at hr;generalize hss:vX ρ args.toList=ss at hr;unfold UB at hr;split at hr
 .rename_i u el by' ar ls_ k n _ b1 r _;split at hr
  .rename_i hbu;subst hbu;generalize hk:qD H k=ob at hr;unfold UA at hr;split at hr
   .rename_i e' t' l m;split at hr
    .rename_i hbt;subst hbt;split at hr
     .rename_i hec;obtain⟨rfl,hpos,hb1⟩:=hec;simp only[uY] at hr;cases hr;have hnm:=hs _ (by simp:(n=m)∈_);subst hnm;have hby:=hs _ (by simp:((n+List.length r)*by'<=140737488355328)∈_);obtain⟨v,vr,hv,hs1,hs2⟩:=V1 hT hH hρ hss;obtain⟨h2,h3,_⟩:=(tE hT hst).2;obtain⟨ei,hei,hz⟩:=aRn.1 h3;simp only[aRR] at hz;obtain⟨cs,hx⟩:=GG (a:=a) hT hH ho;obtain⟨hl,v0,xs,hv0,hown,hF0,hnone,hseal⟩:=hH.blk k _ hk;obtain⟨hcur,hshape⟩:=hs1.1;rw[hv0] at hcur;obtain rfl:=aRi hcur;obtain⟨adr,capr,hvr,hler,hlr⟩:=D5 hs2.1;have hlen2:(l++r).length=n+List.length r:=by rw[aRg,hl]
      rw[hlen2];have hownk: ∀q,v0.ownBlock=some q->∀o,sX g H [k] q o:=fun q hq o=>⟨k,_,by simp,hk,v0,hv0,hq⟩;by_cases hm:List.length r=0
      .obtain rfl:r=[]:=aRS hm;refine rC.value (v:=v0) (w':=w) ?_ (sB.row (v:=v0) (xs:=xs) hH hlen2 hown (by rw[List.append_nil];exact hF0) hnone (fun u hu=>by
        have h5:g.cur k n=some u:=hu;rw[hv0] at h5;exact(aRi h5).symm) (.inl ⟨rfl,rfl,rfl,aRE _,fun _ _ _=>rfl⟩) (fun _ _ _=>rfl) hseal (fun q hq=> .inr (hownk q hq)) ⟨⟨by simp [Gh.tok],hshape⟩,trivial⟩)
       obtain⟨adl,capl,hvl,hlel⟩: ∃adl capl,v0= .slice adl n capl/\n<=capl:=by
        rcases hshape with⟨h,rfl⟩ |⟨b,cap,h,h'⟩
        .exact⟨_,_,h,aRE _⟩
        .exact⟨_,_,h,h'⟩
       rw[hx,hv,hvr,hvl];have ha0:(#[Value.slice adl n capl,Value.slice adr (List.length ([]:List b1.den)) capr]:Array pR)[0]? =some (.slice adl n capl):=rfl;have ha1:(#[Value.slice adl n capl,Value.slice adr (List.length ([]:List b1.den)) capr]:Array pR)[1]? =some (.slice adr 0 capr):=rfl;have ht0:(#[t,t]:Array TypeId)[0]? =some t:=rfl;have ht1:(#[t,t]:Array TypeId)[1]? =some t:=rfl;simp only[builtin,Builtin.append_,ht0,ht1,ha0,ha1,aRy,aRB h2,aRp,aRI,sizeOf,typeInfo,aSk,hei];cases adr<;>cases adl<;>simp [Builtin.lenOf,Builtin.firstCells,loadCells,loadCellsFrom,storeCells,hlel]
      .obtain⟨b,off,rfl,hL⟩: ∃b o,adr=some ⟨b,o,none⟩/\yV (Rd g w b1) w g.S b1.cells b o r:=by
        rcases hlr with rfl|h
        .exact absurd rfl hm
        .exact h
       obtain⟨news,hF,hra,_⟩:=MU hL;obtain⟨q,cap,w',hrun,hown',hq,hg,hcap,hcell⟩:=a0m (P:=P) w t o.type e' ei (wL b1) b1.cells by' h2 hei hz.2.2 hz.1 hz.2.1 (by
        have:=sR (FB (KD g w b1));simpa using this) v0 n xs hown ⟨b,off,none⟩ (List.length r) capr news (IB hF) (fun j u hu=>by rw[aSC];exact hra j u hu) (PX (fun _ _ h=>AR h) hF) pF
        (by
         have:=Nat.mul_le_mul_left (n+List.length r) hb1;unfold maxLen;omega) hby
       refine rC.value (v:= .slice (some ⟨q,0,none⟩) (n+List.length r) cap) (w':=w') ?_ (sB.row (v:= .slice (some ⟨q,0,none⟩) (n+List.length r) cap) (xs:=xs++news) hH hlen2 hown' (PR hF0 hF) (fun m hm'=>hnone m pF) (fun u hu=>by
        rw[hnone _ pF] at hu;cases hu) (.inr ⟨v0.ownBlock,hg,fun b hb o=>hownk b hb o⟩) (fun b o hS=>hcell b o (hH.sl b o hS) (fun hb=>absurd hS (hseal b hb o))) (fun b hb o hS=> ?_) (fun b hb=> ?_) ⟨⟨by simp [Gh.tok],.inr ⟨q,cap,rfl,hcap⟩⟩,trivial⟩)
       .rw[hx,hv,hvr];simp only[builtin,aRy,hrun,aRp,aRI]
       .cases hb;rcases hq with h|h
        .rw[h] at hS;exact aSV _ (hH.sl _ _ hS)
        .exact hseal _ h o hS
       .cases hb;rcases hq with h|h
        .exact .inl (aSP h.symm)
        .exact .inr (hownk _ h)
     .cases hr
    .cases hr
   .cases hr
  .cases hr
 .rename_i u el by' ar ls_ a1 l k b1 r k2;split at hr
  .rename_i hab;obtain⟨rfl,rfl⟩:=hab;simp only[uY] at hr;generalize hk:qD H k=ob at hr;unfold U9 at hr;split at hr
   .rename_i e' c n;split at hr
    .rename_i hec;obtain⟨rfl,hcc,hpos,hb1⟩:=hec;cases hr;rw[aRg];have hln:=hs _ (by simp:(List.length l=n)∈_);have hby:=hs _ (by simp:((List.length l+List.length r)*by'<=140737488355328)∈_);obtain⟨v,vr,hv,hs1,hs2⟩:=V1 hT hH hρ hss;obtain⟨h2,h3,_⟩:=(tE hT hst).2;obtain⟨ei,hei,hz⟩:=aRn.1 h3;simp only[aRR] at hz;obtain⟨cs,hx⟩:=GG (a:=a) hT hH ho;obtain⟨v0,xs,hv0,hown,hnone,hseal⟩:=hH.blk k _ hk;have hcur:g.cur k (List.length l)=some v:=hs1.2;rw[hln,hv0] at hcur;obtain rfl:=aRi hcur;obtain⟨adr,capr,hvr,hler,hlr⟩:=D5 hs2.1;obtain⟨adl,capl,hvl,hlel,hll⟩:=D5 hs1.1;by_cases hm:List.length r=0
     ·
      obtain rfl:r=[]:=aRS hm;have hlr:List.length l+List.length ([]:List b1.den)=n:=by rw[hln];rfl
      have hget: ∀i,qD (qT [(k,q9.grow e' c (List.length l+List.length ([]:List b1.den)))] H) i=qD H i:=by
       intro i;simp only[qT,qD];by_cases hi:k=i
       .subst hi;rw[aRf rfl,hlr];exact hk.symm
       .rw[aRk hi]
      have hkeep:sB g w H ⟨[List.length l=n,(List.length l+List.length ([]:List b1.den))*by'<=140737488355328],(.val (.list b1) (l++[]),some k),[(k,.grow e' c (List.length l+List.length ([]:List b1.den)))],[k]⟩ g w v0:=by
       refine⟨.refl _ _,?_,⟨fun i b h=>hH.blk i b ((hget i).symm.trans h),fun i j bi bj b o' hij h1 h2=>hH.dis i j bi bj b o' hij ((hget i).symm.trans h1) ((hget j).symm.trans h2),hH.sl,hH.tab.1,fun i blk b o' h ho'=>hH.tab.2 i blk b o' ((hget i).symm.trans h) ho'⟩,.refl _ _ _,fun i blk b o' hi hg ho'=> .inr ⟨i,blk,hi,(hget i).symm.trans hg,ho'⟩,fun _ _=>⟨rfl,rfl⟩,fun i u' y us h=> .inl ⟨y,us,(hget i).symm.trans h⟩⟩;rw[List.append_nil];exact hs1
      refine rC.value (v:=v0) (w':=w) ?_ hkeep;rw[hx,hv,hvr,hvl];have ha0:(#[Value.slice adl (List.length l) capl,Value.slice adr (List.length ([]:List b1.den)) capr]:Array pR)[0]? =some (.slice adl (List.length l) capl):=rfl;have ha1:(#[Value.slice adl (List.length l) capl,Value.slice adr (List.length ([]:List b1.den)) capr]:Array pR)[1]? =some (.slice adr 0 capr):=rfl;have ht0:(#[t,t]:Array TypeId)[0]? =some t:=rfl;have ht1:(#[t,t]:Array TypeId)[1]? =some t:=rfl;simp only[builtin,Builtin.append_,ht0,ht1,ha0,ha1,aRy,aRB h2,aRp,aRI,sizeOf,typeInfo,aSk,hei];cases adr<;>cases adl<;>simp [Builtin.lenOf,Builtin.firstCells,loadCells,loadCellsFrom,storeCells,hlel]
     .obtain⟨b,off,rfl,hL⟩: ∃b o,adr=some ⟨b,o,none⟩/\yV (Rd g w b1) w g.S b1.cells b o r:=by
       rcases hlr with rfl|h
       .exact absurd rfl hm
       .exact h
      obtain⟨news,hF,hra,_⟩:=MU hL;have hxs:tX (Rd g w b1) b1.cells l xs:=by
       by_cases h0:List.length l=0
       .obtain rfl:l=[]:=aRS h0;have:xs=[]:=aRS (by rw[hown.1,<-hln];simp);exact this
       .rcases hll with rfl|⟨b0,off0,rfl,hL0⟩
        .exact absurd rfl h0
        .obtain⟨ls,hF0,hra0,_⟩:=MU hL0;rcases hown.2 with⟨e1,e2⟩ |⟨q,cap,cur,e1,e2⟩
         .exact absurd (hln.trans e2) h0
         .rw[hvl] at e1;simp only[aTf,aRd,Addr.mk.injEq] at e1;obtain⟨⟨rfl,rfl,_⟩,_,rfl⟩:=e1;have hvn:v0= .slice (some ⟨b0,0,none⟩) n capl:=by rw[hvl,hln]
          have hrx:=a0n (hvn▸hown);have:ls=xs:=by
           have hl1:=IB hF0;have hl2:=hown.1;apply List.ext_getElem?;intro j;by_cases hj:j<ls.length
           .have h1:=hra0 j ls[j] (aRr hj);have hj':j<xs.length:=by rw[hl2,hcc,<-hln,<-hl1];exact hj
            have h2:=hrx j xs[j] (aRr hj');rw[h1] at h2;rw[aRr hj,aRr hj',aRi h2]
           .rw[aSI pF,aSI (by rw[hl2,hcc,<-hln,<-hl1];omega)]
          rw[<-this];exact hF0
      obtain⟨q,cap,w',hrun,hown',hq,hg,hcap,hcell⟩:=a0m (P:=P) w t o.type e' ei (wL b1) c by' h2 hei hz.2.2 (by rw[hz.1,hcc]) hz.2.1 (by
       have:=sR (FB (KD g w b1));rw[hcc];simpa using this) v0 n xs hown ⟨b,off,none⟩ (List.length r) capr news (by rw[IB hF,hcc]) (fun j u hu=>by rw[aSC];exact hra j u hu) (PX (fun _ _ h=>AR h) hF) pF
       (by
        have:=Nat.mul_le_mul_left (List.length l+List.length r) hb1;unfold maxLen;omega) (by rw[<-hln];exact hby)
      refine rC.value (v:= .slice (some ⟨q,0,none⟩) (n+List.length r) cap) (w':=w') ?_ (by
       have:=sB.append (side:=[List.length l=n,(List.length l+List.length r)*by'<=140737488355328]) (rds:=[k]) hH hk hcc hln hv0 hown hnone hseal (hcc▸hxs) (hcc▸hF) pF hown' hq hg hcap hcell;rw[hln];rw[hln] at this;exact this)
      rw[hx,hv,hvr];simp only[builtin,aRy,hrun,aRp,aRI]
    .cases hr
   .cases hr
  .cases hr
 .cases hr
end
end Go.Proofs.YtkpflnijijccpaaGreatDoor.Vc
