/- Packed by a program of mine (wip/tools/pack.py): the same texts with short names and few blanks. -/
import Derived.Below
import Derived.Calls
import Derived.Deep.MidRow
import Derived.Deep.Upon
import Derived.Laws.AppendOwn
import Derived.Laws.BitsLemmas
import Derived.Laws.OwnMore
import Derived.Shelf.Strconv.Itoa3
import Derived.Shelf.Strings.Fields
import Derived.Shelf.Unicode.DecodeSlow
import Derived.Still
import Derived.WalkKit
set_option linter.defProp false
set_option linter.unusedVariables false
set_option linter.unusedSimpArgs false
set_option linter.unusedSectionVars false
set_option maxRecDepth 100000
set_option maxHeartbeats 4000000
namespace Go.Proofs
abbrev oT:=List UInt8
abbrev oU:=List oT
def aQE:=@_root_.Option.some.injEq
def aQF:=@_root_.Option.isSome_iff_exists
def aQG:=@_root_.List.length_append
def aQH:=@_root_.Option.some.inj
def aQI:=@_root_.if_pos
def aQJ:=@_root_.List.length_cons
def aQK:=@_root_.Go.Result.andThen_ok
def aQL:=@_root_.Option.bind_some
def aQM:=@_root_.List.getElem?_eq_getElem
def aQN:=@_root_.List.getElem?_append_right
def aQO:=@_root_.if_neg
def aQP:=@_root_.List.getElem?_eq_some_iff
def aQQ:=@_root_.Option.map_eq_some_iff
def aQR:=@_root_.List.append_assoc
def aQS:=@_root_.Go.Sem.run_bind
def aQT:=@_root_.List.getElem?_append_left
def aQU:=@_root_.Bool.and_eq_true
def aQV:=@_root_.List.mem_cons
def aQW:=@_root_.List.length_nil
def aQX:=@_root_.Go.run_underlying
def aQY:=@_root_.decide_eq_true_eq
def aQZ:=@_root_.List.mem_cons_of_mem
def aQ0:=@_root_.congrArg
def aQ1:=@_root_.Array.getElem?_eq_some_iff
def aQ2:=@_root_.List.mem_singleton
def aQ3:=@_root_.List.mem_cons_self
def aQ4:=@_root_.Nat.le_refl
def aQ5:=@_root_.Go.World.cell?_of_block
def aQ6:=@_root_.Go.Sem.run_pure
def aQ7:=@_root_.Array.getD_eq_getD_getElem?
def aQ8:=@_root_.List.getElem?_cons_zero
def aQ9:=@_root_.List.getD_eq_getElem?_getD
def aRa:=@_root_.Go.RowKit.Below.heap_alloc
def aRb:=@_root_.Array.length_toList
def aRc:=@_root_.Prod.mk.injEq
def aRd:=@_root_.List.length_take
def aRe:=@_root_.List.eq_nil_of_length_eq_zero
def aRf:=@_root_.Nat.zero_add
def aRg:=@_root_.List.length_drop
def aRh:=@_root_.Nat.lt_of_lt_of_le
def aRi:=@_root_.List.getElem?_cons_succ
def aRj:=@_root_.Bool.not_eq_true'
def aRk:=@_root_.of_decide_eq_true
def aRl:=@_root_.List.reverse_cons
def aRm:=@_root_.Nat.add_assoc
def aRn:=@_root_.List.drop_eq_getElem_cons
def aRo:=@_root_.List.size_toArray
def aRp:=@_root_.Go.World.frozen?_of_block
def aRq:=@_root_.List.cons.injEq
def aRr:=@_root_.Nat.add_sub_cancel_left
def aRs:=@_root_.Nat.le_trans
def aRt:=@_root_.List.getElem?_take_of_lt
def aRu:=@_root_.Go.run_program
def aRv:=@_root_.Int.toNat_natCast
def aRw:=@_root_.Nat.lt_or_ge
def aRx:=@_root_.Array.getElem?_toList
def aRy:=@_root_.List.drop_length
def aRz:=@_root_.List.all_eq_true
def aRA:=@_root_.Array.toList_inj
def aRB:=@_root_.Nat.succ_mul
def aRC:=@_root_.Array.getElem?_modify
def aRD:=@_root_.decide_eq_true
def aRE:=@_root_.List.length_eq_zero_iff
def aRF:=@_root_.List.mem_append
def aRG:=@_root_.Array.getElem?_eq_getElem
def aRH:=@_root_.List.getElem_mem
def aRI:=@_root_.Go.IntKind.wrap_i64
def aRJ:=@_root_.Nat.zero_le
def aRK:=@_root_.Nat.le_of_ble_eq_true
def aRL:=@_root_.Nat.add_zero
def aRM:=@_root_.List.flatMap_cons
def aRN:=@_root_.Go.Addr.add_mid
def aRO:=@_root_.decide_eq_false_iff_not
def aRP:=@_root_.List.map_cons
def aRQ:=@_root_.Array.toArray_toList
def aRR:=@_root_.List.length_eq_one_iff
def aRS:=@_root_.List.any_eq_false
def aRT:=@_root_.Array.getElem?_setIfInBounds_ne
def aRU:=@_root_.List.getElem?_eq_none
def aRV:=@_root_.Bool.or_eq_true
def aRW:=@_root_.decide_eq_decide
def aRX:=@_root_.Go.World.cell?_setCells_in
def aRY:=@_root_.Go.setRow_other
def aRZ:=@_root_.List.take_left
def aR0:=@_root_.Int.le_refl
def aR1:=@_root_.Nat.le_of_eq
def aR2:=@_root_.List.take_append_drop
def aR3:=@_root_.Classical.choose_spec
def aR4:=@_root_.if_true
def aR5:=@_root_.Bool.or_eq_false_iff
def aR6:=@_root_.Go.wpIn_mono
def aR7:=@_root_.Bool.eq_iff_iff
def aR8:=@_root_.List.length_pos_iff
def aR9:=@_root_.List.getElem_of_mem
def aSa:=@_root_.List.take_append_of_le_length
def aSb:=@_root_.List.not_mem_nil
def aSc:=@_root_.Bool.not_eq_true
def aSd:=@_root_.List.drop_zero
def aSe:=@_root_.dif_neg
def aSf:=@_root_.List.getElem?_take
def aSg:=@_root_.Bool.false_eq_true
def aSh:=@_root_.Array.getElem?_setIfInBounds
def aSi:=@_root_.Array.foldl_toList
def aSj:=@_root_.Go.Addr.add_lit
def aSk:=@_root_.Nat.lt_irrefl
def aSl:=@_root_.List.flatten_cons
def aSm:=@_root_.Array.size_append
def aSn:=@_root_.Int.tmod_eq_emod_of_nonneg
def aSo:=@_root_.Nat.mul_le_mul_right
def aSp:=@_root_.List.pairwise_iff_getElem
def aSq:=@_root_.List.range'_succ
def aSr:=@_root_.List.mem_toArray
def aSs:=@_root_.Go.setRow_heap
def aSt:=@_root_.Nat.mul_one
def aSu:=@_root_.Nat.sub_self
def aSv:=@_root_.Array.getElem?_push_size
def aSw:=@_root_.List.length_map
def aSx:=@_root_.List.append_inj
def aSy:=@_root_.Go.Value.slice.injEq
def aSz:=@_root_.Go.heap_alloc_new
def aSA:=@_root_.List.mem_range
def aSB:=@_root_.Go.World.cell?_alloc_new
def aSC:=@_root_.dif_pos
def aSD:=@_root_.Option.getD_some
def aSE:=@_root_.List.findIdx?_cons
def aSF:=@_root_.if_false
theorem oW{p:Prop}(h:p:=by omega):p:=h
theorem oX{p:Prop}(h:p:=by decide):p:=h
theorem oY{p:Prop}(h:p:=by simp):p:=h
theorem oZ{p:Prop}(h:p:=by simp;omega):p:=h
theorem pD{p:Prop}(h:p:=by first|rfl|trivial):p:=h
theorem pE{p:Prop}(h:p:=by kernel_rfl):p:=h
theorem pF{p:Prop}(h:p:=by rfl):p:=h
theorem oV{a:Type}{p q r:a->Prop}(k:a)(h1:p k:=by rfl)(h2:q k:=by rfl)(h3:r k:=by rfl): ∃k,p k/\q k/\r k:=⟨k,h1,h2,h3⟩
abbrev p4:=List (oT×Bool)
abbrev p5:=List (Nat×Nat)
abbrev p6:=List Int
abbrev p7:=List Value
abbrev p8:=Option (Nat×Nat)
abbrev p9:=Option Nat
abbrev pA:=List Nat
abbrev pB:=World
abbrev pC:=Value
end Go.Proofs
namespace Go.Proofs.YtkpflnijijccpaaGreatDoor.Vc
def NG:Nat:=6
def a8T:Nat:=73
def a8U:List (Nat×Array pC):=[(5,(Lib.pow10Tab.map fun z=>Value.int .u64 z).toArray),(0,(Lib.asciiSpaceTab.map fun z=>Value.int .u8 z).toArray)]
def aHL (w:pB):Prop:= ∀x∈a8U,x.1<NG/\∃e fz,w.heap[x.1]? =some (.cells x.2 e fz)
def AE (w:pB):Prop:=NG<=w.heap.size/\Lib.Utf8Tabs 3 4 w/\(∃m,w.cell? ⟨1,0,none⟩=some (.int .i64 m))/\aHL w
theorem GX {w w':pB}(h:AE w) (hs:w.heap.size<=w'.heap.size) (hb: ∀b,b<NG->w'.heap[b]? =w.heap[b]?):AE w':=by
 obtain⟨h0,⟨h1,h2⟩,⟨m,h3⟩,h4⟩:=h;have hc: ∀b o,b<NG->w'.cell? ⟨b,o,none⟩=w.cell? ⟨b,o,none⟩:=fun b o h=>aQ5 (a:=⟨b,o,none⟩) (hb b h);refine⟨aRs h0 hs,⟨fun c hc'=> ?_,fun i hi=>⟨?_,?_⟩⟩,⟨m,?_⟩,fun x hx=>⟨(h4 x hx).1,by obtain⟨h5,e,fz,h6⟩:=h4 x hx;exact⟨e,fz,(hb _ h5).trans h6⟩⟩⟩
 .rw[hc _ _ oX];exact h1 c hc'
 .rw[hc _ _ oX];exact(h2 i hi).1
 .rw[hc _ _ oX];exact(h2 i hi).2
 .rw[hc _ _ oX];exact h3
attribute [go_sem] a8T
inductive Ty where
 |bool|int (k:IntKind) |str|list (t:Ty) |unit|pair (a b:Ty) |ref|clo|mp|rl (e:Nat) (t:Ty) |mref|fn
 deriving DecidableEq
abbrev Ty.den:Ty->Type
 | .bool=>Bool
 | .int _=>Int
 | .str=>oT
 | .list t=>List t.den
 | .unit=>Unit
 | .pair a b=>a.den×b.den
 | .ref=>p8
 | .clo=>Option (Nat×p5)
 | .mp=>p9
 | .rl _ _=>p8
 | .fn=>p9
 | .mref=>p8
@[go_sem] def Ty.cells:Ty->Nat
 | .unit=>0
 | .pair a b=>a.cells+b.cells
 | .bool| .int _| .str| .list _| .ref| .clo| .mp| .rl _ _| .mref| .fn=>1
@[go_sem] def Ty.zero:(t:Ty)->t.den
 | .bool=>false
 | .int _=>(0:Int)
 | .str=>[]
 | .list _=>[]
 | .unit=>()
 | .pair a b=>(a.zero,b.zero)
 | .ref=>none
 | .clo=>none
 | .mp=>none
 | .rl _ _=>none
 | .fn=>none
 | .mref=>none
@[go_sem] def Ty.isRow:Ty->Bool
 | .unit| .pair _ _=>true
 | .bool| .int _| .str| .list _| .ref| .clo| .mp| .rl _ _| .mref| .fn=>false
@[go_sem] def Ty.pure:Ty->Bool
 | .ref| .clo| .mp| .rl _ _| .mref=>false
 | .list t=>t.pure
 | .pair a b=>a.pure&&b.pure
 | .bool| .int _| .str| .unit| .fn=>true
def qB (t:Ty) (l:List t.den) (i:Int):t.den:=l.getD i.toNat t.zero
def rP (l:oT) (i:Int):Int:=((l.getD i.toNat 0).toNat:Int)
def tI {t u:Ty}(h:t=u) (x:t.den):u.den:=h▸x
@[go_sem] theorem JF {t:Ty}(x:t.den):tI (rfl:t=t) x=x:=rfl
@[go_sem] def qZ (u:Ty):(t:Ty)->t.den->Nat->Option u.den
 |t,x,0=>if h:t=u then some (tI h x) else match t,x with
  | .pair a b,x=>if 0<a.cells then qZ u a x.1 0 else qZ u b x.2 0
  |_,_=>none
 | .pair a b,x,o+1=>if o+1<a.cells then qZ u a x.1 (o+1) else qZ u b x.2 (o+1-a.cells)
 |_,_,_=>none
@[go_sem] def rZ (u:Ty) (y:u.den):(t:Ty)->t.den->Nat->Option t.den
 |t,x,0=>if h:u=t then some (tI h y) else match t,x with
  | .pair a b,x=>if 0<a.cells then(rZ u y a x.1 0).map (fun z=>(z,x.2)) else(rZ u y b x.2 0).map (fun z=>(x.1,z))
  |_,_=>none
 | .pair a b,x,o+1=>if o+1<a.cells then(rZ u y a x.1 (o+1)).map (fun z=>(z,x.2)) else(rZ u y b x.2 (o+1-a.cells)).map (fun z=>(x.1,z))
 |_,_,_=>none
@[go_sem] def Ty.proj:(t:Ty)->t.den->Nat->Option (Σ u:Ty,u.den)
 | .pair a _,x,0=>some ⟨a,x.1⟩
 | .pair _ b,x,i+1=>b.proj x.2 i
 |_,_,_=>none
@[go_sem] def Ty.offs:Ty->Nat->p9
 | .pair _ _,0=>some 0
 | .pair a b,i+1=>(b.offs i).map fun o=>a.cells+o
 |_,_=>none
@[go_sem] def Ty.fld:Ty->Nat->Option Ty
 | .pair a _,0=>some a
 | .pair _ b,i+1=>b.fld i
 |_,_=>none
@[go_sem] def Ty.setPart (u:Ty) (y:u.den):(t:Ty)->t.den->Nat->Option t.den
 | .pair a b,x,0=>if h:u=a then some (tI h y,x.2) else none
 | .pair a b,x,i+1=>(Ty.setPart u y b x.2 i).map fun z=>(x.1,z)
 |_,_,_=>none
inductive DV where
 |any
 |nilS
 |val (t:Ty) (x:t.den)
 |at (t:Ty) (x:t.den)
 |tup (l:List ((Σ t:Ty,t.den)×p9))
 |cond (p:Bool) (d:DV)
 |flag (p q:Prop)
 |own (k n:Nat)
 |elt (k n c:Nat) (i:Int) (o:Nat)
 |nxt (b:Bool) (p c:Int)
abbrev pN:=DV×p9
inductive pM where
 |cells (t:Ty) (x:t.den) (toks:p5)
 |grow (e:TypeId) (c:Nat) (n:Nat)
 |row (e:TypeId) (t:Ty) (l:List t.den) (n:Nat)
 |map (k v:Ty) (l:List (k.den×v.den))
 |iter (s:oT) (p:Nat)
 |dead
structure St where
 env:List (Nat×pN)
 H:List (Nat×pM)
 nb:Nat
 N:Nat
 np:Nat:=0
@[go_sem] def lk:List (Nat×pN)->Nat->pN
 |[],_=>(.any,none)
 |(k,s)::r,t=>if k=t then s else lk r t
@[go_sem] def pQ:List (Nat×pM)->Nat->Option pM
 |[],_=>none
 |(k,s)::r,t=>if k=t then some s else pQ r t
structure TI where
 ty:Ty
 elem:TypeId:=0
 bytes:Nat:=0
 arr:Bool:=false
 ls:List (Nat×TypeId×Nat):=[]
abbrev rW:=List (Nat×TI)
@[go_sem] def rE:rW->TypeId->Option TI
 |[],_=>none
 |(k,s)::r,t=>if k=t then some s else rE r t
inductive PK where
 |v|own|p (t:Ty) (os:pA) |m|r|f (ks:List (Ty×pA))
structure pR where
 side:List Prop
 ret:List pN
 H:List pM
structure qC where
 ps:List PK
 C:List pN->List pM->Option pR
 gs:List (Nat×Nat×PK):=[]
 same:pA:=[]
 row:Option ((t:Ty)->List t.den->Option (List t.den)):=none
abbrev sP:=Nat->Option qC
structure q9 where
 side:List Prop
 slot:pN
 upd:List (Nat×pM)
 rds:pA
@[go_sem] def F3:pA->Bool
 |[]=>false
 |i::_=>if i=1000000000 then true else false
@[go_sem] def orE:Option q9->Option q9->Option q9
 |some r,_=>some r
 |none,r=>r
@[go_sem] def yA:Option (List Prop×DV)->Option q9
 |some (p,d)=>some ⟨p,(d,none),[],[]⟩
 |none=>none
@[go_sem] def V3:pC->DV
 | .bool b=> .val .bool b
 | .int k n=> .val (.int k) n
 | .string s=> .val .str s.data.toList
 | .slice none 0 0=> .nilS
 | .pointer none=> .val .ref none
 | .nilFunc=> .val .clo none
 | .map none=> .val .mp none
 |_=> .any
@[go_sem] def sZ (env:List (Nat×pN)):Operand->pN
 | .tmp t=>lk env t
 | .const v=>(V3 v,none)
 | .func f=>(.val .clo (some (f,[])),none)
 | .global _=>(.any,none)
@[go_sem] def JG:Option TI->pN->pN
 |some ⟨.list t,_,_,_,_⟩,(.nilS,_)=>(.val (.list t) [],none)
 |_,s=>s
@[go_sem] def GY:IntKind->Int->List Prop×DV
 | .i64,n=>([-9223372036854775808<=n/\n<=9223372036854775807],.val (.int .i64) n)
 |k,n=>([],.val (.int k) (k.wrap n))
@[go_sem] def qH {α:Type}:List α->List α->List α
 |[],m=>m
 |x::l,m=>x::qH l m
@[go_sem] def zJ:(t:Ty)->t.den->t.den->Option Bool
 | .bool,a,b=>some (a==b)
 | .int _,a,b=>some (decide ((a:Int)=b))
 | .str,a,b=>some (decide ((a:oT)=b))
 | .unit,_,_=>some true
 | .pair s t,a,b=>eqAnd (zJ s a.1 b.1) (zJ t a.2 b.2)
 |_,_,_=>none
where
 eqAnd:Option Bool->Option Bool->Option Bool
  |some x,some y=>some (x&&y)
  |_,_=>none
attribute [go_sem] zJ.eqAnd
@[go_sem] def V4 (k:IntKind) (a b:Int):BinOp->Option (List Prop×DV)
 | .add=>some (GY k (a+b))
 | .sub=>some (GY k (a-b))
 | .mul=>some (GY k (a*b))
 | .eql=>some ([],.val .bool (decide (a=b)))
 | .neq=>some ([],.val .bool (!decide (a=b)))
 | .lss=>some ([],.val .bool (decide (a<b)))
 | .leq=>some ([],.val .bool (decide (a<=b)))
 | .gtr=>some ([],.val .bool (decide (b<a)))
 | .geq=>some ([],.val .bool (decide (b<=a)))
 | .quo=>some ([b≠0],.val (.int k) (k.wrap (Int.tdiv a b)))
 | .rem=>some ([b≠0],.val (.int k) (Int.tmod a b))
 | .and=>some ([],.val (.int k) (bits .and k a b))
 | .or=>some ([],.val (.int k) (bits .or k a b))
 | .xor=>some ([],.val (.int k) (bits .xor k a b))
 | .andNot=>some ([],.val (.int k) (bits .andNot k a b))
 |_=>none
def V5 (k:IntKind) (a b:Int):Int:=k.wrap (a*2^min b.toNat k.bits)
def yB (k:IntKind) (a b:Int):Int:=a.fdiv (2^min b.toNat k.bits)
@[go_sem] def a8W (k:IntKind) (a:Int) (k':IntKind) (b:Int):BinOp->Option (List Prop×DV)
 | .shl=>some ([0<=b],.val (.int k) (V5 k a b))
 | .shr=>some ([0<=b],.val (.int k) (yB k a b))
 |op=>if k=k' then V4 k a b op else none
@[go_sem] def V6 (a b:oT):BinOp->Option (List Prop×DV)
 | .add=>some ([((a++b).length:Int)<=9223372036854775807],.val .str (a++b))
 | .eql=>some ([],.val .bool (decide (a=b)))
 | .neq=>some ([],.val .bool (!decide (a=b)))
 | .lss=>some ([],.val .bool (Op.bytesLess a b))
 | .leq=>some ([],.val .bool (Op.bytesLess a b||decide (a=b)))
 | .gtr=>some ([],.val .bool (!(Op.bytesLess a b||decide (a=b))))
 | .geq=>some ([],.val .bool (!Op.bytesLess a b))
 |_=>none
@[go_sem] def a8X:BinOp->Option Bool->Option (List Prop×DV)
 | .eql,some r=>some ([],.val .bool r)
 | .neq,some r=>some ([],.val .bool (!r))
 |_,_=>none
@[go_sem] def QK (op:BinOp):pN->pN->Option (List Prop×DV)
 |(.val (.int k) a,_),(.val (.int k') b,_)=>a8W k a k' b op
 |(.val .str a,_),(.val .str b,_)=>V6 a b op
 |_,_=>none
@[go_sem] def a8Y (k:IntKind) (a b:Int):BinOp->Option (List Prop×DV)
 | .add=>some ([],.val (.int k) (k.wrap (a+b)))
 | .sub=>some ([],.val (.int k) (k.wrap (a-b)))
 | .mul=>some ([],.val (.int k) (k.wrap (a*b)))
 |_=>none
@[go_sem] def QL (op:BinOp):Option TI->pN->pN->Option (List Prop×DV)
 |some ⟨.int _,_,_,true,_⟩,(.val (.int k) a,_),(.val (.int k') b,_)=>if k=k' then a8Y k a b op else none
 |_,_,_=>none
@[go_sem] def a8Z (u:Ty) (b:Nat) (op:BinOp) (t t':Ty) (x:t.den) (y:t'.den):Option (List Prop×DV):=
 if h:t'=t then(if t=u/\(t= .bool\/(t.isRow=true/\b=1)) then a8X op (zJ t x (tI h y)) else none) else none
@[go_sem] def QM {α:Type}(l:List α):BinOp->Option (List Prop×DV)
 | .eql=>some ([],.flag (l=[]) True)
 | .neq=>some ([],.flag True (l=[]))
 |_=>none
@[go_sem] def V7:Option TI->BinOp->pN->pN->Option (List Prop×DV)
 |some ⟨.list _,_,_,_,_⟩,op,(.val (.list _) l,_),(.nilS,_)=>QM l op
 |some ⟨.list _,_,_,_,_⟩,op,(.nilS,_),(.val (.list _) l,_)=>QM l op
 |some ⟨u,_,b,_,_⟩,op,(.val t x,_),(.val t' y,_)=>a8Z u b op t t' x y
 |_,_,_,_=>none
@[go_sem] def V8:Option (List Prop×DV)->Option (List Prop×DV)->Option (List Prop×DV)
 |some r,_=>some r
 |none,r=>r
@[go_sem] def V9:UnOp->pN->Option (List Prop×DV)
 | .not,(.val .bool b,_)=>some ([],.val .bool (!b))
 | .neg,(.val (.int k) n,_)=>some (GY k (-(n:Int)))
 |_,_=>none
def sN (l:p6):oT:=l.map fun n=>UInt8.ofNat n.toNat
def tY (s:oT):p6:=s.map fun b=>(b.toNat:Int)
@[go_sem] def QN:Option TI->Option TI->pN->Option (List Prop×DV)
 |some _,some ⟨.int k,_,_,_,_⟩,(.val (.int _) n,_)=>some ([],.val (.int k) (k.wrap n))
 |some _,some ⟨.str,_,_,_,_⟩,(.val .str s,_)=>some ([],.val .str s)
 |_,_,_=>none
@[go_sem] def a80 (l:p6):Option TI->Option (List Prop×DV)
 |some ⟨.int .u8,_,_,_,_⟩=>some ([],.val .str (sN l))
 |_=>none
@[go_sem] def VA (T:rW):Option TI->Option TI->pN->Option (List Prop×DV)
 |some ⟨.list (.int .u8),e,_,_,_⟩,some ⟨.str,_,_,_,_⟩,(.val (.list (.int .u8)) l,_)=>a80 l (rE T e)
 |_,_,_=>none
def s0 {α:Type}(l:List α) (lo hi:Int):List α:=(l.drop lo.toNat).take (hi.toNat-lo.toNat)
@[go_sem] def B5:Option pN->Int->Option Int
 |none,d=>some d
 |some (.val (.int _) n,_),_=>some n
 |_,_=>none
@[go_sem] def QO (t:Ty) (n:Nat) (f:Int->Int->t.den):Option Int->Option Int->Option (List Prop×DV)
 |some a,some b=>some ([0<=a/\a<=b/\b<=(n:Int)],.val t (f a b))
 |_,_=>none
@[go_sem] def VB:Option TI->pN->Option pN->Option pN->Option (List Prop×DV)
 |some ⟨.str,_,_,_,_⟩,(.val .str l,_),lo,hi=>QO .str (List.length l) (s0 l) (B5 lo 0) (B5 hi (List.length l))
 |some ⟨.list u,_,_,_,_⟩,(.val (.list t) l,_),lo,hi=>if t=u then QO (.list t) (List.length l) (s0 l) (B5 lo 0) (B5 hi (List.length l)) else none
 |_,_,_,_=>none
@[go_sem] def QP (t:Ty) (x:t.den) (i:Nat):Option Ty->Option t.den
 |some (.list u)=>Ty.setPart (.list u) [] t x i
 |_=>none
@[go_sem] def yC (t:Ty):Option t.den->List (Nat×pN)->Option t.den
 |some x,[]=>some x
 |some x,(i,(.val u y,_))::r=>yC t (Ty.setPart u y t x i) r
 |some x,(i,(.nilS,_))::r=>yC t (QP t x i (t.fld i)) r
 |_,_=>none
@[go_sem] def AF (t:Ty):Nat->List t.den
 |0=>[]
 |n+1=>t.zero::AF t n
@[go_sem] def a81 (t:Ty) (n:Nat) (l:List t.den) (i:Nat) (u:Ty) (y:u.den):Option (List t.den):=if h:u=t/\i<n then some (l.set i (tI h.1 y)) else none
@[go_sem] def yS (t:Ty) (n:Nat):Option (List t.den)->List (Nat×pN)->Option (List t.den)
 |some l,[]=>some l
 |some l,(i,(.val u y,_))::r=>yS t n (a81 t n l i u y) r
 |_,_=>none
attribute [go_sem] List.set_cons_zero List.set_cons_succ
@[go_sem] def GZ:List pN->Option p5
 |[]=>some []
 |(.val .ref (some p),_)::r=>(GZ r).map (p:: ·)
 |_=>none
@[go_sem] def vR:p5->Nat->p9
 |[],_=>none
 |(o,k)::r,a=>if o=a then some k else vR r a
@[go_sem] def w5:p9->Nat->p5
 |some k,o=>[(o,k)]
 |none,_=>[]
@[go_sem] def uG:p5->Nat->Nat->p5
 |[],_,_=>[]
 |(q,k)::r,o,n=>if o<=q/\q<o+n then uG r o n else(q,k)::uG r o n
@[go_sem] def CB:Ty->p9->p9
 | .list _,k=>k
 |_,_=>none
@[go_sem] def xB {α:Type}:List α->List α->List α
 |[],acc=>acc
 |x::l,acc=>xB l (x::acc)
inductive rC where
 |box (id:Nat) (u:Ty) (x:u.den) (toks:p5) (o:Nat)
 |tok (id:Nat)
@[go_sem] def rC.id:rC->Nat
 | .box i _ _ _ _=>i
 | .tok k=>k
@[go_sem] def zK:Nat->pA->Bool
 |_,[]=>false
 |i,j::r=>if i=j then true else zK i r
@[go_sem] def rQ:List rC->pA
 |[]=>[]
 |w::r=>w.id::rQ r
structure sF where
 args:List pN
 H:List pM
 ws:List rC
 n:Nat
@[go_sem] def H0:pA->Nat->p5
 |[],_=>[]
 |q::qs,n=>(q,n)::H0 qs (n+1)
@[go_sem] def zL (k:Nat):Option pM->Option sF->Option sF
 |some (.grow e c m),some a=>if zK k (rQ a.ws)=true then none else some ⟨a.args,.grow e c m::a.H,.tok k::a.ws,a.n+1⟩
 |_,_=>none
@[go_sem] def xC (H:List (Nat×pM)):p9->Option sF->Option sF
 |some k,a=>zL k (pQ H k) a
 |none,_=>none
@[go_sem] def wP (H:List (Nat×pM)) (toks:p5) (o:Nat):pA->Option sF->Option sF
 |[],a=>a
 |q::qs,a=>wP H toks o qs (xC H (vR toks (o+q)) a)
@[go_sem] def JH (n:Nat):pA->Bool
 |[]=>true
 |q::qs=>decide (q<n)&&JH n qs
@[go_sem] def CC (H:List (Nat×pM)) (t:Ty) (os:pA) (i o:Nat) (u:Ty) (x:u.den) (toks:p5) (a:sF):Option t.den->Option sF
 |some y=>if (JH t.cells os&& !zK i (rQ a.ws))=true then wP H toks o os (some ⟨(.val .ref (some (a.n,0)),none)::a.args,.cells t y (H0 os (a.n+1))::a.H,.box i u x toks o::a.ws,a.n+1⟩) else none
 |none=>none
@[go_sem] def uN (H:List (Nat×pM)) (t:Ty) (os:pA) (i o:Nat) (a:sF):Option pM->Option sF
 |some (.cells u x toks)=>CC H t os i o u x toks a (qZ t u x o)
 |_=>none
@[go_sem] def zM (t:Ty) (x:t.den) (k:Nat) (a:sF):Option pM->Option sF
 |some (.grow e c m)=>if (t.pure&& !zK k (rQ a.ws))=true then some ⟨(.val t x,some a.n)::a.args,.grow e c m::a.H,.tok k::a.ws,a.n+1⟩ else none
 |_=>none
@[go_sem] def QQ (t:Ty) (x:t.den) (a:sF):Option sF:=
 if t.pure=true then some ⟨(.val t x,none)::a.args,a.H,a.ws,a.n⟩ else none
@[go_sem] def QR (f:FuncId) (a:sF):Option sF:=some ⟨(.val .clo (some (f,[])),none)::a.args,a.H,a.ws,a.n⟩
@[go_sem] def QS (a:sF):Option sF:=some ⟨(.nilS,none)::a.args,a.H,a.ws,a.n⟩
@[go_sem] def zN (i:Nat) (a:sF):Option pM->Option sF
 |some (.map k v l)=>if (k.pure&&v.pure&& !zK i (rQ a.ws))=true then some ⟨(.val .mp (some a.n),none)::a.args,.map k v l::a.H,.tok i::a.ws,a.n+1⟩ else none
 |_=>none
@[go_sem] def zO (k n:Nat) (a:sF):Option pM->Option sF
 |some (.row e t l m)=>if (t.pure&& !zK k (rQ a.ws))=true then some ⟨(.own a.n n,none)::a.args,.row e t l m::a.H,.tok k::a.ws,a.n+1⟩ else none
 |_=>none
@[go_sem] def w6 (H:List (Nat×pM)) (f:FuncId) (args:List pN):List (Ty×pA)->p5->p5->Option sF->Option sF
 |[],[],ids,some a=>some ⟨(.val .clo (some (f,xB ids [])),none)::args,a.H,a.ws,a.n⟩
 |(t,os)::ks,(i,o)::cs,ids,some a=>w6 H f args ks cs ((a.n,0)::ids) (uN H t os i o a (pQ H i))
 |_,_,_,_=>none
@[go_sem] def wF (H:List (Nat×pM)) (a:sF):PK->pN->Option sF
 | .v,(.val .clo (some (f,[])),_)=>QR f a
 | .v,(.val t x,_)=>QQ t x a
 | .v,(.nilS,_)=>QS a
 | .own,(.val (.list t) x,some k)=>zM (.list t) x k a (pQ H k)
 | .p t os,(.val .ref (some (i,o)),_)=>uN H t os i o a (pQ H i)
 | .m,(.val .mp (some i),_)=>zN i a (pQ H i)
 | .r,(.own k n,_)=>zO k n a (pQ H k)
 | .f ks,(.val .clo (some (f,cs)),_)=>w6 H f a.args ks cs [] (some a)
 |_,_=>none
@[go_sem] def w7 (H:List (Nat×pM)):List PK->List pN->Option sF->Option sF
 |_,_,none=>none
 |[],[],some a=>some a
 |p::ps,s::ss,some a=>w7 H ps ss (wF H a p s)
 |_,_,some _=>none
@[go_sem] def aHM:Option p8->pN
 |some (some p)=>(.val .ref (some p),none)
 |_=>(.any,none)
@[go_sem] def aHN:Option p9->pN
 |some (some i)=>(.val .mp (some i),none)
 |_=>(.any,none)
@[go_sem] def aHO:Option p8->pN
 |some (some (k,n))=>(.own k n,none)
 |_=>(.any,none)
@[go_sem] def DH:(t:Ty)->t.den->Nat->Option p8
 | .rl _ _,x,0=>some x
 | .pair a b,x,o=>if o<a.cells then DH a x.1 o else DH b x.2 (o-a.cells)
 |_,_,_=>none
@[go_sem] def H4 (q:Nat):PK->Option pM->pN
 | .r,some (.cells t y _)=>aHO (DH t y q)
 | .p _ _,some (.cells t y _)=>aHM (qZ .ref t y q)
 | .m,some (.cells t y _)=>aHN (qZ .mp t y q)
 |_,_=>(.any,none)
@[go_sem] def F4:List pM->Nat->Option pM
 |[],_=>none
 |b::_,0=>some b
 |_::r,n+1=>F4 r n
@[go_sem] def JI (l:List pN):Option sF->Option sF
 |some a=>some ⟨l,a.H,a.ws,a.n⟩
 |none=>none
@[go_sem] def yT (H:List (Nat×pM)):List (Nat×Nat×PK)->Option sF->Option sF
 |_,none=>none
 |[],some a=>some a
 |(c,q,pk)::r,some a=>yT H r (JI a.args (wF H a pk (H4 q pk (F4 a.H (a.n-1-c)))))
@[go_sem] def DI (i o:Nat):List rC->Nat->p8
 |[],_=>none
 | .box j _ _ _ oc::r,c=>if j=i/\oc<=o then some (c,o-oc) else DI i o r (c+1)
 | .tok _::r,c=>DI i o r (c+1)
@[go_sem] def uX (i:Nat):List rC->Nat->p9
 |[],_=>none
 | .tok j::r,c=>if j=i then some c else uX i r (c+1)
 | .box _ _ _ _ _::r,c=>uX i r (c+1)
@[go_sem] def H5 {α β:Type}:Option α->Option β->Option (α×β)
 |some a,some b=>some (a,b)
 |_,_=>none
@[go_sem] def QT (W:List rC):p8->Option p8
 |none=>some none
 |some (i,o)=>(DI i o W 0).map some
@[go_sem] def a82 (W:List rC):p9->Option p9
 |none=>some none
 |some i=>(uX i W 0).map some
@[go_sem] def a83 (W:List rC):p8->Option p8
 |none=>some none
 |some (k,n)=>(uX k W 0).map fun c=>some (c,n)
@[go_sem] def M9:Option (Nat×p5)->Option (Option (Nat×p5))
 |none=>some none
 |some (f,[])=>some (some (f,[]))
 |_=>none
@[go_sem] def AG (W:List rC):(t:Ty)->t.den->Option t.den
 | .ref,x=>QT W x
 | .clo,x=>M9 x
 | .mp,x=>a82 W x
 | .pair a b,x=>H5 (if a.pure=true then some x.1 else AG W a x.1) (if b.pure=true then some x.2 else AG W b x.2)
 | .list t,x=>if t.pure=true then some x else none
 | .bool,x=>some x
 | .int _,x=>some x
 | .str,x=>some x
 | .unit,x=>some x
 | .rl _ _,x=>a83 W x
 | .fn,x=>some x
 | .mref,x=>QT W x
@[go_sem] def VC:Option pM->Option (List pM)->Option (List pM)
 |some b,some l=>some (b::l)
 |_,_=>none
@[go_sem] def aHP (t:Ty) (ts:p5):Option t.den->Option pM
 |some y=>some (.cells t y ts)
 |none=>none
@[go_sem] def QU (W:List rC):pM->Option pM
 | .cells t y ts=>if t.pure=true then some (.cells t y ts) else aHP t ts (AG W t y)
 |b=>some b
@[go_sem] def F5 (W:List rC):List pM->Option (List pM)
 |[]=>some []
 |b::r=>VC (QU W b) (F5 W r)
@[go_sem] def yD:List rC->Nat->Option rC
 |[],_=>none
 |w::_,0=>some w
 |_::r,n+1=>yD r n
@[go_sem] def JJ (n:Nat) (c:Nat):Option rC->Bool
 |some _=>false
 |none=>decide (c<n)
@[go_sem] def yE (base n c:Nat):Option rC->p9
 |some (.box _ _ _ _ _)=>none
 |some (.tok k)=>some k
 |none=>if c<n then some (base+c) else none
@[go_sem] def a84 (base n c o:Nat):Option rC->pN
 |some (.box i _ _ _ o')=>(.val .ref (some (i,o'+o)),none)
 |wh=>if JJ n c wh=true then(.val .ref (some (base+c,o)),none) else(.any,none)
@[go_sem] def H6 (base n:Nat) (W:List rC):p9->p9
 |some c=>yE base n c (yD W c)
 |none=>none
@[go_sem] def aHQ (m:Nat):p9->pN
 |some k=>(.own k m,none)
 |none=>(.any,none)
@[go_sem] def aHR:p9->pN
 |some k=>(.val .mp (some k),none)
 |none=>(.any,none)
@[go_sem] def VD (base n c o:Nat):Option rC->p8
 |some (.box i _ _ _ o')=>some (i,o'+o)
 |wh=>if JJ n c wh=true then some (base+c,o) else none
@[go_sem] def aHS:p8->Option p5->Option p5
 |some p,some l=>some (p::l)
 |_,_=>none
@[go_sem] def JK (base n:Nat) (W:List rC):p5->Option p5
 |[]=>some []
 |(c,o)::r=>aHS (VD base n c o (yD W c)) (JK base n W r)
@[go_sem] def aHT (f:Nat):Option p5->pN
 |some l=>(.val .clo (some (f,l)),none)
 |none=>(.any,none)
@[go_sem] def QV (base n:Nat) (W:List rC):pN->pN
 |(.own c m,_)=>aHQ m (H6 base n W (some c))
 |(.val .ref (some (c,o)),_)=>a84 base n c o (yD W c)
 |(.val .ref none,_)=>(.val .ref none,none)
 |(.val .mp (some c),_)=>aHR (H6 base n W (some c))
 |(.val .mp none,_)=>(.val .mp none,none)
 |(.val .clo (some (f,cs)),_)=>aHT f (JK base n W cs)
 |(.val t x,k)=>if t.pure=true then(.val t x,H6 base n W (CB t k)) else(.any,none)
 |_=>(.any,none)
@[go_sem] def aHU (q:Nat):p9->p5->p5
 |some k,r=>(q,k)::r
 |none,r=>r
@[go_sem] def B6 (base n:Nat) (W:List rC) (o:Nat):p5->p5
 |[]=>[]
 |(q,c)::r=>aHU (o+q) (yE base n c (yD W c)) (B6 base n W o r)
@[go_sem] def H7 (base n:Nat) (W:List rC):p8->Option p8
 |none=>some none
 |some (c,o)=>back2 c o (yD W c)
where
 back2 (c o:Nat):Option rC->Option p8
  |some (.box i _ _ _ o')=>some (some (i,o'+o))
  |wh=>if JJ n c wh=true then some (some (base+c,o)) else none
attribute [go_sem] H7.back2
@[go_sem] def a85 (base n:Nat) (W:List rC):p9->Option p9
 |none=>some none
 |some c=>(yE base n c (yD W c)).map some
@[go_sem] def a86 (base n:Nat) (W:List rC):p8->Option p8
 |none=>some none
 |some (c,q)=>(yE base n c (yD W c)).map fun k=>some (k,q)
@[go_sem] def zP (base n:Nat) (W:List rC):(t:Ty)->t.den->Option t.den
 | .ref,x=>H7 base n W x
 | .clo,x=>M9 x
 | .mp,x=>a85 base n W x
 | .pair a b,x=>H5 (if a.pure=true then some x.1 else zP base n W a x.1) (if b.pure=true then some x.2 else zP base n W b x.2)
 | .list t,x=>if t.pure=true then some x else none
 | .bool,x=>some x
 | .int _,x=>some x
 | .str,x=>some x
 | .unit,x=>some x
 | .rl _ _,x=>a86 base n W x
 | .fn,x=>some x
 | .mref,x=>H7 base n W x
@[go_sem] def QW (i o:Nat) (u t:Ty) (toks ts:p5):Option u.den->Option (Nat×pM)
 |some z=>some (i,.cells u z (qH ts (uG toks o t.cells)))
 |none=>none
@[go_sem] def a87 (i:Nat) (t:Ty) (ts:p5):Option t.den->Option (Nat×pM)
 |some y=>some (i,.cells t y ts)
 |none=>none
@[go_sem] def B7 (base n c:Nat) (W:List rC):pM->Option (Nat×pM)
 | .cells t y ts=>if t.pure=true then some (base+c,.cells t y (B6 base n W 0 ts)) else a87 (base+c) t (B6 base n W 0 ts) (zP base n W t y)
 | .grow e m k=>some (base+c,.grow e m k)
 | .row e t l n=>if t.pure=true then some (base+c,.row e t l n) else none
 | .map k v l=>if (k.pure&&v.pure)=true then some (base+c,.map k v l) else none
 | .iter _ _=>none
 | .dead=>some (base+c,.dead)
@[go_sem] def xR (k:Nat):pM->Option (Nat×pM)
 | .cells _ _ _=>none
 | .grow e m n=>some (k,.grow e m n)
 | .row e t l n=>if t.pure=true then some (k,.row e t l n) else none
 | .map s v l=>if (s.pure&&v.pure)=true then some (k,.map s v l) else none
 | .iter _ _=>none
 | .dead=>some (k,.dead)
@[go_sem] def a88 (i o:Nat) (u t:Ty) (toks ts:p5) (x:u.den):Option t.den->Option (Nat×pM)
 |some y=>QW i o u t toks ts (rZ t y u x o)
 |none=>none
@[go_sem] def w8 (base n i o:Nat) (W:List rC) (u:Ty) (x:u.den) (toks:p5):pM->Option (Nat×pM)
 | .cells t y ts=>if t.pure=true then QW i o u t toks (B6 base n W o ts) (rZ t y u x o) else a88 i o u t toks (B6 base n W o ts) x (zP base n W t y)
 | .dead=>some (i,.dead)
 | .grow _ _ _=>none
 | .row _ _ _ _=>none
 | .map _ _ _=>none
 | .iter _ _=>none
@[go_sem] def MA:Option (Nat×pM)->Option (List (Nat×pM))->Option (List (Nat×pM))
 |some q,some r=>some (q::r)
 |_,_=>none
@[go_sem] def yU (base n:Nat) (W:List rC):Nat->List rC->List pM->Option (List (Nat×pM))
 |_,[],[]=>some []
 |c,[],b::L=>MA (B7 base n c W b) (yU base n W (c+1) [] L)
 |c,.box i u x toks o::ws,b::L=>MA (w8 base n i o W u x toks b) (yU base n W (c+1) ws L)
 |c,.tok k::ws,b::L=>MA (xR k b) (yU base n W (c+1) ws L)
 |_,_::_,[]=>none
@[go_sem] def DJ:List pN->Option (List ((Σ t:Ty,t.den)×p9))
 |[]=>some []
 |(.val t x,k)::r=>(DJ r).map ((⟨t,x⟩,k):: ·)
 |(.own k n,_)::r=>(DJ r).map ((⟨.rl 0 .unit,some (k,n)⟩,none):: ·)
 |_=>none
@[go_sem] def aHV:Option (List ((Σ t:Ty,t.den)×p9))->pN
 |some q=>(.tup q,none)
 |none=>(.any,none)
@[go_sem] def JL:List pN->Option pN
 |[]=>some (.tup [],none)
 |[s]=>some s
 |s::s'::l=>some (aHV (DJ (s::s'::l)))
@[go_sem] def VE (W:List rC):pA->pA
 |[]=>[]
 |c::r=>sameId (yD W c) (VE W r)
where
 sameId:Option rC->pA->pA
  |some w,r=>w.id::r
  |none,r=>r
attribute [go_sem] VE.sameId
@[go_sem] def MB (side:List Prop) (rds:pA):Option (List (Nat×pM))->Option pN->Option q9
 |some H,some s=>some ⟨side,s,H,rds⟩
 |_,_=>none
@[go_sem] def MC (base n:Nat) (W:List rC):List pN->List pN
 |[]=>[]
 |s::r=>QV base n W s::MC base n W r
@[go_sem] def qD:List pM->Nat
 |[]=>0
 |_::r=>qD r+1
@[go_sem] def QX (base:Nat) (W:List rC) (sm:pA):Option pR->Option q9
 |some r=>MB r.side (qH (rQ W) (VE W sm)) (yU base (qD r.H) W 0 W r.H) (JL (MC base (qD r.H) W r.ret))
 |none=>none
@[go_sem] def QY (C:List pN->List pM->Option pR) (sm:pA) (base:Nat) (W:List rC) (args:List pN):Option (List pM)->Option q9
 |some L=>QX base W sm (C args L)
 |none=>none
@[go_sem] def MD (C:List pN->List pM->Option pR) (sm:pA) (base:Nat):Option sF->Option q9
 |some a=>QY C sm base (xB a.ws []) (xB a.args []) (F5 (xB a.ws []) (xB a.H []))
 |none=>none
@[go_sem] def DK (H:List (Nat×pM)) (base:Nat) (args:List pN):Option qC->Option q9
 |some g=>MD g.C g.same base (yT H g.gs (w7 H g.ps args (some ⟨[],[],[],0⟩)))
 |none=>none
@[go_sem] def ME:List PK->List pN->p9
 | .r::ps,_::ss=>ME ps ss
 |_::_,(.own k _,_)::_=>some k
 |_::ps,_::ss=>ME ps ss
 |_,_=>none
@[go_sem] def a89 (k:Nat) (t:Ty) (l:List t.den):pN->pN
 |(.own j m,x)=>if j=k then(.val (.list t) l,none) else(.own j m,x)
 |s=>s
@[go_sem] def MF (k:Nat) (t:Ty) (l:List t.den):List pN->List pN
 |[]=>[]
 |s::r=>a89 k t l s::MF k t l r
@[go_sem] def H8 (k n:Nat):List pN->List Prop
 |[]=>[]
 |(.own j m,_)::r=>(j=k->m=n)::H8 k n r
 |_::r=>H8 k n r
@[go_sem] def F6:Ty->Bool
 | .list _=>false
 | .pair a b=>F6 a&&F6 b
 | .bool| .int _| .str| .unit| .fn=>true
 | .ref| .clo| .mp| .rl _ _| .mref=>false
@[go_sem] def pS:List (Nat×pM)->pA
 |[]=>[]
 |(i,_)::r=>i::pS r
@[go_sem] def JM:List (Nat×pM)->Bool
 |[]=>true
 |(_,.cells t _ [])::r=>F6 t&&JM r
 |_=>false
@[go_sem] def VF (sd:List Prop) (k:Nat):Option q9->Option q9
 |some ⟨side,(.val t x,_),U,rds⟩=>if (F6 t&&JM U&& !zK k (pS U))=true then some ⟨qH sd side,(.val t x,none),U,k::rds⟩ else none
 |_=>none
@[go_sem] def MG (H:List (Nat×pM)) (base:Nat) (args:List pN) (g:qC) (k:Nat):Option pM->Option q9
 |some (.row _ t l m)=>VF (H8 k m args) k (DK ((k,.dead)::H) base (MF k t l args) (some g))
 |_=>none
@[go_sem] def a9a (H:List (Nat×pM)) (base:Nat) (args:List pN) (g:qC):p9->Option q9
 |some k=>MG H base args g k (pQ H k)
 |none=>DK H base args (some g)
@[go_sem] def a9b (k n m e:Nat) (t:Ty):Option (List t.den)->Option q9
 |some l=>some ⟨[n=m,m<4611686018427387904],(.tup [],none),[(k,.row e t l m)],[k]⟩
 |none=>none
@[go_sem] def VG (F:(t:Ty)->List t.den->Option (List t.den)) (k n:Nat):Option pM->Option q9
 |some (.row e t l m)=>a9b k n m e t (F t l)
 |_=>none
@[go_sem] def QZ (H:List (Nat×pM)) (F:(t:Ty)->List t.den->Option (List t.den)):List pN->Option q9
 |[(.own k n,_)]=>VG F k n (pQ H k)
 |_=>none
@[go_sem] def VH (base:Nat):Option TI->pN->Option q9
 |some ⟨.list u,e,_,true,_⟩,(.nilS,_)=>some ⟨[],(.own base 0,none),[(base,.row e u [] 0)],[]⟩
 |some ⟨.list u,e,_,false,_⟩,(.nilS,_)=>some ⟨[],(.val (.list u) [],some base),[(base,.grow e u.cells 0)],[]⟩
 |_,(.nilS,_)=>none
 |_,s=>some ⟨[],s,[],[]⟩
@[go_sem] def CD:Ty->Nat->Bool
 | .list _,0=>true
 | .pair a b,o=>if o<a.cells then CD a o else CD b (o-a.cells)
 |_,_=>false
@[go_sem] def CE (t:Ty):List (Nat×TypeId×Nat)->Bool
 |[]=>true
 |(o,_,_)::r=>CD t o&&CE t r
@[go_sem] def zQ:List (Nat×TypeId×Nat)->Nat->p5
 |[],_=>[]
 |(o,_,_)::r,i=>(o,i)::zQ r (i+1)
@[go_sem] def B8:List (Nat×TypeId×Nat)->Nat->List (Nat×pM)
 |[],_=>[]
 |(_,e,c)::r,i=>qH (B8 r (i+1)) [(i,.grow e c 0)]
@[go_sem] def VI (e:Nat):Bool:=if e=73 then true else if e=a8T then true else false
@[go_sem] def VJ (e:Nat) (u:Ty) (o:Nat):p8->List (Nat×Nat×Ty)
 |none=>[(o,e,u)]
 |some _=>[]
@[go_sem] def CF:(t:Ty)->t.den->Nat->List (Nat×Nat×Ty)
 | .rl e u,x,o=>VJ e u o x
 | .pair a b,x,o=>qH (CF a x.1 o) (CF b x.2 (o+a.cells))
 |_,_,_=>[]
@[go_sem] def VK (o:Nat):p8->pA
 |none=>[o]
 |some _=>[]
@[go_sem] def DL:(t:Ty)->t.den->Nat->pA
 | .mref,x,o=>VK o x
 | .pair a b,x,o=>qH (DL a x.1 o) (DL b x.2 (o+a.cells))
 |_,_,_=>[]
@[go_sem] def a9c:Nat->pA->pA
 |2,[0]=>[0]
 |_,_=>[]
@[go_sem] def R0 (el:Nat) (t:Ty) (y:t.den):pA:=if VI el=true then a9c t.cells (DL t y 0) else[]
@[go_sem] def H9 (t:Ty):Nat->List (Nat×Nat×Ty)->Option t.den->Option t.den
 |_,[],x=>x
 |i,(o,e,u)::r,some x=>H9 t (i+1) r (rZ (.rl e u) (some (i,0)) t x o)
 |_,_::_,none=>none
@[go_sem] def F7 (t:Ty) (i:Nat):pA->Option t.den->Option t.den
 |[],x=>x
 |q::r,some x=>F7 t i r (rZ .mref (some (i,q)) t x q)
 |_::_,none=>none
@[go_sem] def HA:List (Nat×Nat×Ty)->Nat->List (Nat×pM)
 |[],_=>[]
 |(_,e,u)::r,i=>qH (HA r (i+1)) [(i,.row e u [] 0)]
@[go_sem] def MH {α:Type}:List α->Nat
 |[]=>0
 |_::r=>MH r+1
@[go_sem] def a9d (base:Nat) (t:Ty) (ls:List (Nat×TypeId×Nat)) (R:List (Nat×Nat×Ty)):Option t.den->Option q9
 |some z=>some ⟨[],(.val .ref (some (base,0)),none),(base,.cells t z (zQ ls (base+1)))::qH (HA R (base+1+MH ls)) (B8 ls (base+1)),[]⟩
 |none=>none
@[go_sem] def R1 (base el:Nat) (t:Ty) (y:t.den) (ls:List (Nat×TypeId×Nat)):Bool->Option q9
 |true=>a9d base t ls (CF t y 0) (F7 t base (R0 el t y) (H9 t (base+1+MH ls) (CF t y 0) (some y)))
 |false=>none
@[go_sem] def zR (k:Nat):List (Nat×TypeId×Nat)->List (Nat×TypeId×Nat)
 |[]=>[]
 |(o,e,c)::r=>if o+1=k then zR k r else(o,e,c)::zR k r
@[go_sem] def a9e (base el:Nat) (ls:List (Nat×TypeId×Nat)):(t:Ty)->t.den->p9->Option q9
 | .pair a b,y,some k=>R1 base el (.pair a b) y (zR k ls) (CE (.pair a b) (zR k ls))
 | .list u,y,k=>some ⟨[],(.val .ref (some (base,0)),none),[(base,.cells (.list u) y (w5 k 0))],[]⟩
 |t,y,_=>some ⟨[],(.val .ref (some (base,0)),none),[(base,.cells t y [])],[]⟩
@[go_sem] def MI (base el:Nat):Option TI->Option q9
 |some ⟨.list u,e,_,_,_⟩=>some ⟨[],(.val .ref (some (base,0)),none),[(base,.cells (.list u) [] [(0,base+1)]),(base+1,.grow e u.cells 0)],[]⟩
 |some ti=>R1 base el ti.ty ti.ty.zero ti.ls (CE ti.ty ti.ls)
 |none=>none
@[go_sem] def VL (base el:Nat):Option TI->pN->Option q9
 |some ti,(.val t y,k)=>if t=ti.ty then a9e base el ti.ls t y k else none
 |_,_=>none
@[go_sem] def VM (base el:Nat):Option TI->pN->Option q9
 |some ⟨.list u,e,b,a,ls⟩,(.nilS,_)=>MI base el (some ⟨.list u,e,b,a,ls⟩)
 |ti,s=>VL base el ti (JG ti s)
@[go_sem] def HB:Ty->Bool
 | .list _=>true
 | .pair a b=>HB a||HB b
 | .bool| .int _| .str| .unit| .ref| .clo| .mp| .rl _ _| .mref| .fn=>false
@[go_sem] def R2:p9->p9->p9
 |some o,some m=>if m=0 then some (o+1) else none
 |_,_=>none
@[go_sem] def VN:Ty->Bool
 | .list _=>true
 | .pair _ _| .bool| .int _| .str| .unit| .ref| .clo| .mp| .rl _ _| .mref| .fn=>false
@[go_sem] def R3 (u:Ty) (o m:p9):Bool->Bool->p9
 |false,_=>m
 |true,true=>R2 o m
 |true,false=>none
@[go_sem] def yF (t:Ty):List (Nat×pN)->p9
 |[]=>some 0
 |(_,(.nilS,_))::r=>yF t r
 |(i,(.val u _,_))::r=>R3 u (t.offs i) (yF t r) (HB u) (VN u)
 |_=>none
@[go_sem] def VO:Ty->p9->p9
 | .pair _ _,m=>m
 |_,_=>none
@[go_sem] def aHW (t:Ty) (k:p9):Option t.den->Option q9
 |some x=>some ⟨[],(.val t x,k),[],[]⟩
 |none=>none
@[go_sem] def VP (sl:List (Nat×pN)):Option TI->Option q9
 |some ti=>if ti.ty.isRow=true then aHW ti.ty (VO ti.ty (yF ti.ty sl)) (yC ti.ty (some ti.ty.zero) sl) else none
 |none=>none
@[go_sem] def R4 (base e c n:Nat) (t:Ty):Option (List t.den)->Option q9
 |some l=>if n<=16777216/\n*c<=16777216 then some ⟨[],(.val (.list t) l,some base),[(base,.grow e c n)],[]⟩ else none
 |none=>none
@[go_sem] def a9f (base e n:Nat) (t:Ty):Option (List t.den)->Option q9
 |some l=>if t.pure=true/\n<=16777216/\n*t.cells<=16777216 then some ⟨[],(.own base n,none),[(base,.row e t l n)],[]⟩ else none
 |none=>none
@[go_sem] def VQ (base n:Nat) (sl:List (Nat×pN)):Option TI->Option q9
 |some ⟨.list u,e,_,true,_⟩=>if n=0 then a9f base e n u (yS u n (some (AF u n)) sl) else R4 base e u.cells n u (yS u n (some (AF u n)) sl)
 |some ⟨.list u,e,_,false,_⟩=>R4 base e u.cells n u (yS u n (some (AF u n)) sl)
 |_=>none
@[go_sem] def a9g (t:Ty) (k:p9) (i:Nat):Option t.den->Option q9
 |some y=>some ⟨[],(.val t y,k),[],[i]⟩
 |none=>none
@[go_sem] def MJ (t:Ty) (i off:Nat):Option pM->Option q9
 |some (.cells u x toks)=>a9g t (CB t (vR toks off)) i (qZ t u x off)
 |_=>none
@[go_sem] def a9h (u:Ty) (k n m:Nat):Option u.den->Option q9
 |some y=>some ⟨[n=m],(.val u y,none),[],[k]⟩
 |none=>none
@[go_sem] def MK (u:Ty) (k n c:Nat) (i:Int) (o:Nat):Option pM->Option q9
 |some (.row _ t l m)=>if c=t.cells then a9h u k n m (qZ u t (qB t l i) o) else none
 |_=>none
@[go_sem] def VR (i:Nat):Option p8->Option q9
 |some (some (k,n))=>some ⟨[],(.own k n,none),[],[i]⟩
 |_=>none
@[go_sem] def R5 (i off:Nat):TI->Option pM->Option q9
 |⟨.list u,e,_,_,_⟩,some (.cells v x _)=>VR i (qZ (.rl e u) v x off)
 |_,_=>none
@[go_sem] def VS:p8->p8->p8
 |some p,_=>some p
 |none,q=>q
@[go_sem] def yV:(t:Ty)->t.den->p8
 | .rl _ _,x=>x
 | .pair a b,x=>VS (yV a x.1) (yV b x.2)
 |_,_=>none
@[go_sem] def VT (u0:Ty) (l:List u0.den) (u:Ty):p8->Option (Σ t:Ty,t.den)
 |some _=>if u=u0 then some ⟨.list u0,l⟩ else none
 |none=>none
@[go_sem] def HC (a b:Ty) (x:a.den) (y:b.den):p8->Option (Σ t:Ty,t.den)->Option (Σ t:Ty,t.den)->Option (Σ t:Ty,t.den)
 |some _,some ⟨a',x'⟩,_=>some ⟨.pair a' b,(x',y)⟩
 |some _,none,_=>none
 |none,_,some ⟨b',y'⟩=>some ⟨.pair a b',(x,y')⟩
 |none,_,none=>none
@[go_sem] def xD (u0:Ty) (l:List u0.den):(t:Ty)->t.den->Option (Σ t:Ty,t.den)
 | .rl _ u,x=>VT u0 l u x
 | .pair a b,x=>HC a b x.1 x.2 (yV a x.1) (xD u0 l a x.1) (xD u0 l b x.2)
 |_,_=>none
@[go_sem] def VU (t:Ty) (i k:Nat) (sd:Prop) (e:TypeId) (c n:Nat) (v:Ty) (x:v.den):Option t.den->Option q9
 |some y=>some ⟨[sd],(.val t y,none),[(i,.cells v x []),(k,.grow e c n)],[1000000000,i,k]⟩
 |none=>none
@[go_sem] def VV (t:Ty) (i off k:Nat) (sd:Prop) (e:TypeId) (c n:Nat):Option (Σ t:Ty,t.den)->Option q9
 |some ⟨v,x⟩=>VU t i k sd e c n v x (qZ t v x off)
 |none=>none
@[go_sem] def R6 (t:Ty) (i off k n0:Nat) (v:Ty) (x:v.den):Option pM->Option q9
 |some (.row e u0 l m)=>VV t i off k (n0=m) e u0.cells (List.length l) (xD u0 l v x)
 |_=>none
@[go_sem] def R7 (H:List (Nat×pM)) (t:Ty) (i off:Nat) (v:Ty) (x:v.den):p8->Option q9
 |some (k,n0)=>R6 t i off k n0 v x (pQ H k)
 |none=>none
@[go_sem] def F8 (H:List (Nat×pM)) (t:Ty) (i off:Nat):Option pM->Option q9
 |some (.cells v x _)=>R7 H t i off v x (yV v x)
 |_=>none
@[go_sem] def orS (H:List (Nat×pM)) (t:Ty) (i off:Nat) (b:Option pM):Option q9->Option q9
 |some r=>some r
 |none=>F8 H t i off b
@[go_sem] def R8 (H:List (Nat×pM)):Option TI->pN->Option q9
 |some ti,(.elt k n c i o,_)=>MK ti.ty k n c i o (pQ H k)
 |some ti,(.at u x,_)=>if u=ti.ty then some ⟨[],(.val u x,none),[],[]⟩ else none
 |some ti,(.val .ref (some (i,off)),_)=>orS H ti.ty i off (pQ H i) (orE (MJ ti.ty i off (pQ H i)) (R5 i off ti (pQ H i)))
 |_,_=>none
@[go_sem] def R9 (u:Ty) (i:Nat) (toks:p5):Option u.den->Option q9
 |some z=>some ⟨[],(.any,none),[(i,.cells u z toks)],[i]⟩
 |none=>none
@[go_sem] def RA (t:Ty) (y:t.den) (k:p9) (i off:Nat):Option pM->Option q9
 |some (.cells u x toks)=>R9 u i (qH (w5 (CB t k) off) (uG toks off t.cells)) (rZ t y u x off)
 |_=>none
@[go_sem] def JN (off:Nat):p5->p5
 |[]=>[]
 |(o,k)::r=>(off+o,k)::JN off r
@[go_sem] def a9j (u:Ty) (i:Nat) (nt toks:p5) (bs:List (Nat×pM)):Option u.den->Option q9
 |some z=>some ⟨[],(.any,none),(i,.cells u z (qH nt toks))::qH bs [(i,.cells u z toks)],[i]⟩
 |none=>none
@[go_sem] def RB (t:Ty) (y:t.den) (ls:List (Nat×TypeId×Nat)) (base i off:Nat):Option pM->Bool->Option q9
 |some (.cells u x toks),true=>a9j u i (JN off (zQ ls base)) (uG toks off t.cells) (B8 ls base) (rZ t y u x off)
 |_,_=>none
@[go_sem] def RC (base i off:Nat) (b:Option pM):List (Nat×TypeId×Nat)->(t:Ty)->t.den->p9->Option q9
 |q::r,.pair a c,y,some k=>RB (.pair a c) y (zR k (q::r)) base i off b (CE (.pair a c) (zR k (q::r)))
 |_,t,y,k=>RA t y k i off b
@[go_sem] def a9k (k n m:Nat) (e:TypeId) (t:Ty) (l:List t.den) (i:Int):Option t.den->Option q9
 |some z=>some ⟨[n=m],(.any,none),[(k,.row e t (l.set i.toNat z) m)],[k]⟩
 |none=>none
@[go_sem] def RD (u:Ty) (y:u.den) (k n c:Nat) (i:Int) (o:Nat):Option pM->Option q9
 |some (.row e t l m)=>if c=t.cells then a9k k n m e t l i (rZ u y t (qB t l i) o) else none
 |_=>none
@[go_sem] def VW (b:Ty) (y:b.den):Option (Σ t:Ty,t.den)->Option (Σ t:Ty,t.den)
 |some ⟨a,x⟩=>some ⟨.pair a b,(x,y)⟩
 |none=>none
@[go_sem] def VX (a:Ty) (x:a.den):Option (Σ t:Ty,t.den)->Option (Σ t:Ty,t.den)
 |some ⟨b,y⟩=>some ⟨.pair a b,(x,y)⟩
 |none=>none
@[go_sem] def wG (e:Nat) (u:Ty) (kn:p8):(t:Ty)->t.den->Nat->Option (Σ t:Ty,t.den)
 | .list v,_,0=>if v=u then some ⟨.rl e u,kn⟩ else none
 | .pair a b,x,o=>if o<a.cells then VW b x.2 (wG e u kn a x.1 o) else VX a x.1 (wG e u kn b x.2 (o-a.cells))
 |_,_,_=>none
@[go_sem] def VY (i:Nat):Option (Σ t:Ty,t.den)->Option q9
 |some ⟨v,z⟩=>some ⟨[],(.any,none),[(i,.cells v z [])],[1000000000,i]⟩
 |none=>none
@[go_sem] def orO (i off k n e:Nat) (u v:Ty) (x:v.den):Option q9->Option q9
 |some r=>some r
 |none=>VY i (wG e u (some (k,n)) v x off)
@[go_sem] def VZ (i off k n:Nat):TI->Option pM->Option q9
 |⟨.list u,e,_,_,_⟩,some (.cells v x toks)=>orO i off k n e u v x (R9 v i (uG toks off 1) (rZ (.rl e u) (some (k,n)) v x off))
 |_,_=>none
@[go_sem] def RE (base:Nat) (H:List (Nat×pM)):Option TI->pN->pN->Option q9
 |some ti,(.val .ref (some (i,off)),_),(.own k n,_)=>VZ i off k n ti (pQ H i)
 |some ti,(.elt k n c i o,_),(.val t y,_)=>if t=ti.ty then RD t y k n c i o (pQ H k) else none
 |some ti,(.val .ref (some (i,off)),_),(.val t y,k)=>if t=ti.ty then RC base i off (pQ H i) ti.ls t y k else none
 |_,_,_=>none
@[go_sem] def W3:pN->Option q9
 |(.val .ref (some p),_)=>some ⟨[],(.val .ref (some p),none),[],[]⟩
 |(.at t x,_)=>some ⟨[],(.at t x,none),[],[]⟩
 |(.elt k n c i o,_)=>some ⟨[],(.elt k n c i o,none),[],[]⟩
 |_=>none
@[go_sem] def a9m (f:FuncId):Option p5->Option q9
 |some l=>some ⟨[],(.val .clo (some (f,l)),none),[],[]⟩
 |none=>none
@[go_sem] def aHX (f:FuncId) (l:Option p5):List Operand->Option q9
 |[]=>a9m f l
 |_=>none
@[go_sem] def RF (side:List Prop):Option (Σ t:Ty,t.den)->Option q9
 |some ⟨t,x⟩=>if 0<t.cells then some ⟨side,(.at t x,none),[],[]⟩ else none
 |none=>none
@[go_sem] def RG (side:List Prop) (i off:Nat):p9->Option Ty->Option q9
 |some o,some u=>if 0<u.cells then some ⟨side,(.val .ref (some (i,off+o)),none),[],[]⟩ else none
 |_,_=>none
@[go_sem] def a9n (k n c:Nat) (i:Int) (o:Nat):p9->Option Ty->Option q9
 |some q,some u=>if 0<u.cells then some ⟨[],(.elt k n c i (o+q),none),[],[]⟩ else none
 |_,_=>none
@[go_sem] def W4 (f:Nat):Option TI->pN->Option q9
 |some ⟨t,_,_,false,_⟩,(.elt k n c i o,_)=>a9n k n c i o (t.offs f) (t.fld f)
 |some ⟨t,_,_,false,_⟩,(.at u y,_)=>if u=t then RF [] (u.proj y f) else none
 |some ⟨t,_,_,false,_⟩,(.val .ref (some (i,off)),_)=>RG [] i off (t.offs f) (t.fld f)
 |_,_=>none
@[go_sem] def aHY:Option (Σ t:Ty,t.den)->Option q9
 |some ⟨t,x⟩=>some ⟨[],(.val t x,none),[],[]⟩
 |none=>none
@[go_sem] def W5 (f:Nat):Option TI->pN->Option q9
 |some ⟨t,_,_,false,_⟩,(.val u y,_)=>if u=t then aHY (u.proj y f) else none
 |_,_=>none
@[go_sem] def W6:Option TI->pN->pN->Option q9
 |some ⟨.list t',_,_,_,_⟩,(.own k n,_),(.val (.int _) i,_)=>if 0<t'.cells then some ⟨[0<=i/\i<(n:Int)],(.elt k n t'.cells i 0,none),[],[]⟩ else none
 |some ⟨.list t',_,_,_,_⟩,(.val (.list t) l,_),(.val (.int _) i,_)=>if t=t' then some ⟨[0<=i/\i<(List.length l:Int)],(.at t (qB t l i),none),[],[]⟩ else none
 |some ⟨.pair a b,_,_,true,_⟩,(.val .ref (some (i,off)),_),(.val (.int _) n,_)=>RG [(0:Int)<=n] i off ((Ty.pair a b).offs (Int.toNat n)) ((Ty.pair a b).fld (Int.toNat n))
 |some ⟨.pair a b,_,_,true,_⟩,(.at u x,_),(.val (.int _) n,_)=>if u= .pair a b then RF [(0:Int)<=n] (u.proj x (Int.toNat n)) else none
 |_,_,_=>none
@[go_sem] def W7:Option TI->pN->pN->Option q9
 |some ⟨.str,_,_,_,_⟩,(.val .str l,_),(.val (.int _) i,_)=>some ⟨[0<=i/\i<(List.length l:Int)],(.val (.int .u8) (rP l i),none),[],[]⟩
 |_,_,_=>none
@[go_sem] def aHZ (e:Nat) (u:Ty):p8->pN
 |some (k,n)=>(.own k n,none)
 |none=>(.val (.rl e u) none,none)
@[go_sem] def aH0:(t:Ty)->t.den->p9->pN
 | .rl e u,x,_=>aHZ e u x
 | .bool,x,k=>(.val .bool x,k)
 | .int i,x,k=>(.val (.int i) x,k)
 | .str,x,k=>(.val .str x,k)
 | .list u,x,k=>(.val (.list u) x,k)
 | .unit,x,k=>(.val .unit x,k)
 | .pair a b,x,k=>(.val (.pair a b) x,k)
 | .ref,x,k=>(.val .ref x,k)
 | .clo,x,k=>(.val .clo x,k)
 | .mp,x,k=>(.val .mp x,k)
 | .mref,x,k=>(.val .mref x,k)
 | .fn,x,k=>(.val .fn x,k)
@[go_sem] def RH:List ((Σ t:Ty,t.den)×p9)->Nat->Option q9
 |[],_=>none
 |(⟨t,x⟩,k)::_,0=>some ⟨[],aH0 t x k,[],[]⟩
 |_::r,n+1=>RH r n
@[go_sem] def a9o (b:Bool) (p c:Int):Nat->Option q9
 |0=>some ⟨[],(.val .bool b,none),[],[]⟩
 |1=>some ⟨[b=true],(.val (.int .i64) p,none),[],[]⟩
 |2=>some ⟨[b=true],(.val (.int .i32) c,none),[],[]⟩
 |_=>none
@[go_sem] def W8 (i:Nat):pN->Option q9
 |(.tup l,_)=>RH l i
 |(.nxt b p c,_)=>a9o b p c i
 |_=>none
@[go_sem] def RI (i:Nat):Option pM->Option q9
 |some (.map _ _ l)=>some ⟨[],(.val (.int .i64) (List.length l:Int),none),[],[i]⟩
 |_=>none
@[go_sem] def W9 (H:List (Nat×pM)):Option TI->List pN->Option q9
 |some ⟨.mp,_,_,_,_⟩,[(.val .mp (some i),_)]=>RI i (pQ H i)
 |some ⟨.str,_,_,_,_⟩,[(.val .str l,_)]=>some ⟨[],(.val (.int .i64) (List.length l:Int),none),[],[]⟩
 |some ⟨.list _,_,_,_,_⟩,[(.val (.list _) l,_)]=>some ⟨[],(.val (.int .i64) (List.length l:Int),none),[],[]⟩
 |some ⟨.list _,_,_,_,_⟩,[(.own _ n,_)]=>some ⟨[],(.val (.int .i64) (n:Int),none),[],[]⟩
 |_,_=>none
@[go_sem] def RJ (a:Ty) (l r:List a.den) (k e' by':Nat):Option pM->Option q9
 |some (.grow e c n)=>if e=e'/\c=a.cells/\0<c/\0<by' then some ⟨[List.length l=n,(List.length l+List.length r)*by'<=140737488355328],(.val (.list a) (l++r),some k),[(k,.grow e c (List.length (l++r)))],[k]⟩ else none
 |_=>none
@[go_sem] def RK (b:Ty) (r:List b.den) (k n e' by':Nat):Option pM->Option q9
 |some (.row e t l m)=>if h:b=t then(if e=e'/\0<t.cells/\0<by' then some ⟨[n=m,(n+List.length r)*by'<=140737488355328],(.own k (List.length (l++tI (t:= .list b) (u:= .list t) (by rw[h]) r)),none),[(k,.row e t (l++tI (t:= .list b) (u:= .list t) (by rw[h]) r) (List.length (l++tI (t:= .list b) (u:= .list t) (by rw[h]) r)))],[k]⟩ else none) else none
 |_=>none
@[go_sem] def RL (H:List (Nat×pM)):Option TI->List pN->Option q9
 |some ⟨.list u,e,by',_,_⟩,[(.own k n,_),(.val (.list b) r,_)]=>if b=u then RK b r k n e by' (pQ H k) else none
 |some ⟨.list u,e,by',_,_⟩,[(.val (.list a) l,some k),(.val (.list b) r,_)]=>if h:b=a/\a=u then RJ a l (tI (t:= .list b) (u:= .list a) (by rw[h.1]) r) k e by' (pQ H k) else none
 |_,_=>none
@[go_sem] def RM (mx:Bool):List pN->Option (List Prop×DV)
 |[(.val (.int k) a,_),(.val (.int k') b,_)]=>if k=k' then some ([],.val (.int k) (if mx then max (a:Int) b else min (a:Int) b)) else none
 |_=>none
@[go_sem] def WA:p5->List pN
 |[]=>[]
 |c::r=>(.val .ref (some c),none)::WA r
@[go_sem] def RN (H:List (Nat×pM)) (base:Nat) (args:List pN) (g:qC):Option ((t:Ty)->List t.den->Option (List t.den))->Option q9
 |some F=>QZ H F args
 |none=>a9a H base args g (ME g.ps args)
@[go_sem] def HD (H:List (Nat×pM)) (base:Nat) (args:List pN):Option qC->Option q9
 |some g=>RN H base args g g.row
 |none=>none
@[go_sem] def ML (Γ:sP) (f:Nat):Option qC:=if f<1000000000 then Γ f else none
@[go_sem] def JO (Γ:sP) (H:List (Nat×pM)) (base:Nat) (args:List pN):pN->Option q9
 |(.val .clo (some (f,caps)),_)=>HD H base (args++WA caps) (ML Γ f)
 |(.val .fn (some f),_)=>HD H base args (ML Γ f)
 |_=>none
@[go_sem] def DM (T:rW) (ρ:Operand->pN):List Operand->List TypeId->List pN
 |x::xs,t::ts=>JG (rE T t) (ρ x)::DM T ρ xs ts
 |_,_=>[]
@[go_sem] def uH (ρ:Operand->pN):List Operand->List pN
 |[]=>[]
 |x::xs=>ρ x::uH ρ xs
@[go_sem] def tJ (ρ:Operand->pN):List (Nat×Operand)->List (Nat×pN)
 |[]=>[]
 |(i,x)::xs=>(i,ρ x)::tJ ρ xs
@[go_sem] def xE (ρ:Operand->pN):Option Operand->Option pN
 |some x=>some (ρ x)
 |none=>none
@[go_sem] def RO (T:rW) (H:List (Nat×pM)) (ss:List pN):List TypeId->Option q9
 |t::_=>W9 H (rE T t) ss
 |[]=>none
@[go_sem] def RP (l:p6) (s:oT) (k e':Nat):Option pM->Option q9
 |some (.grow e c n)=>if e=e'/\c=1 then some ⟨[List.length l=n,List.length l+List.length s<=140737488355328],(.val (.list (.int .u8)) (l++tY s),some k),[(k,.grow e c (List.length (l++tY s)))],[k]⟩ else none
 |_=>none
@[go_sem] def WB (H:List (Nat×pM)):Option TI->Option TI->List pN->Option q9
 |some ⟨.list (.int .u8),e,1,_,_⟩,some ⟨.str,_,_,_,_⟩,[(.val (.list (.int .u8)) l,some k),(.val .str s,_)]=>RP l s k e (pQ H k)
 |_,_,_=>none
@[go_sem] def RQ (T:rW) (H:List (Nat×pM)) (ss:List pN):List TypeId->Option q9
 |[t,u]=>if t=u then RL H (rE T t) ss else WB H (rE T t) (rE T u) ss
 |_=>none
@[go_sem] def HE:List Operand->List TypeId->Bool
 |[],[]=>true
 |_::xs,_::ts=>HE xs ts
 |_,_=>false
@[go_sem] def WC (T:rW) (Γ:sP) (ρ:Operand->pN) (base:Nat) (H:List (Nat×pM)) (args:List Operand) (tys:List TypeId) (f:pN):Bool->Option q9
 |true=>JO Γ H base (DM T ρ args tys) f
 |false=>none
@[go_sem] def HF (T:rW) (Γ:sP) (ρ:Operand->pN) (base:Nat) (H:List (Nat×pM)) (args:Array Operand) (tys:Array TypeId):Callee->Option q9
 | .builtin .len=>RO T H (uH ρ args.toList) tys.toList
 | .builtin .append=>RQ T H (uH ρ args.toList) tys.toList
 | .builtin .max=>yA (RM true (uH ρ args.toList))
 | .builtin .min=>yA (RM false (uH ρ args.toList))
 | .value f=>WC T Γ ρ base H args.toList tys.toList (ρ f) (HE args.toList tys.toList)
 |_=>none
@[go_sem] def B9:Ty->Bool
 | .int _| .str| .bool=>true
 |_=>false
def DN:(k:Ty)->k.den->k.den->Bool
 | .int _,a,b=>decide ((a:Int)=b)
 | .str,a,b=>decide ((a:oT)=b)
 | .bool,a,b=>a==b
 |_,_,_=>false
def rM (k v:Ty):List (k.den×v.den)->k.den->v.den
 |[],_=>v.zero
 |(x,y)::r,a=>if DN k a x=true then y else rM k v r a
def AH (k v:Ty):List (k.den×v.den)->k.den->Bool
 |[],_=>false
 |(x,_)::r,a=>if DN k a x=true then true else AH k v r a
def tO (k v:Ty) (a:k.den) (b:v.den):List (k.den×v.den)->List (k.den×v.den)
 |[]=>[(a,b)]
 |(x,y)::r=>if DN k a x=true then(a,b)::r else(x,y)::tO k v a b r
@[go_sem] def a9p (base:Nat):Option TI->Option TI->Option q9
 |some k,some v=>if B9 k.ty=true then some ⟨[],(.val .mp (some base),none),[(base,.map k.ty v.ty [])],[]⟩ else none
 |_,_=>none
@[go_sem] def WD (T:rW) (base:Nat):Option TI->Option Operand->Option q9
 |some ⟨.mp,e,f,_,_⟩,none=>a9p base (rE T e) (rE T f)
 |_,_=>none
@[go_sem] def RR (k:Ty) (a:k.den) (u:Ty) (i:Nat) (ok:Bool):Option pM->Option q9
 |some (.map k' v l)=>if h:k=k'/\v=u then(if B9 k=true then(match ok with
   |true=>some ⟨[],(.tup [(⟨v,rM k' v l (tI h.1 a)⟩,none),(⟨.bool,AH k' v l (tI h.1 a)⟩,none)],none),[],[i]⟩
   |false=>some ⟨[],(.val v (rM k' v l (tI h.1 a)),none),[],[i]⟩) else none) else none
 |_=>none
@[go_sem] def WE (H:List (Nat×pM)) (ok:Bool) (i:Nat):Option TI->Option TI->pN->Option q9
 |some kt,some vt,(.val k a,_)=>if k=kt.ty then RR k a vt.ty i ok (pQ H i) else none
 |_,_,_=>none
@[go_sem] def a9q (ok:Bool):Option TI->Option TI->pN->Option q9
 |some kt,some vt,(.val k _,_)=>if k=kt.ty then(if B9 k=true then(match ok with
   |true=>some ⟨[],(.tup [(⟨vt.ty,vt.ty.zero⟩,none),(⟨.bool,false⟩,none)],none),[],[]⟩
   |false=>some ⟨[],(.val vt.ty vt.ty.zero,none),[],[]⟩) else none) else none
 |_,_,_=>none
@[go_sem] def RS (T:rW) (H:List (Nat×pM)) (ok:Bool):Option TI->pN->pN->Option q9
 |some ⟨.mp,e,f,_,_⟩,(.val .mp (some i),_),s=>WE H ok i (rE T e) (rE T f) s
 |some ⟨.mp,e,f,_,_⟩,(.val .mp none,_),s=>a9q ok (rE T e) (rE T f) s
 |_,_,_=>none
@[go_sem] def JP (k:Ty) (a:k.den) (u:Ty) (b:u.den) (i:Nat):Option pM->Option q9
 |some (.map k' v l)=>if h:k=k'/\u=v then(if B9 k=true then some ⟨[],(.any,none),[(i,.map k' v (tO k' v (tI h.1 a) (tI h.2 b) l))],[i]⟩ else none) else none
 |_=>none
@[go_sem] def RT (H:List (Nat×pM)) (i:Nat):Option TI->pN->pN->Option q9
 |some kt,(.val k a,_),(.val u b,_)=>if k=kt.ty then JP k a u b i (pQ H i) else none
 |_,_,_=>none
@[go_sem] def a9r:Option TI->pN->pN
 |some ⟨.fn,_,_,_,_⟩,(.val .clo (some (f,[])),_)=>(.val .fn (some f),none)
 |_,s=>s
@[go_sem] def RU (T:rW):Option TI->pN->pN
 |some ⟨.mp,_,f,_,_⟩,s=>a9r (rE T f) s
 |_,s=>s
@[go_sem] def JQ (T:rW) (H:List (Nat×pM)):Option TI->pN->pN->pN->Option q9
 |some ⟨.mp,e,_,_,_⟩,(.val .mp (some i),_),s,x=>RT H i (rE T e) s x
 |_,_,_,_=>none
def vS (s:oT) (p:Nat):Int:=((Utf8.decode ⟨s.toArray⟩ p).1:Int)
def WF (s:oT) (p:Nat):Nat:=(Utf8.decode ⟨s.toArray⟩ p).2
def yG (s:oT) (p:Nat):Nat:=if p<s.length then p+WF s p else p
@[go_sem] def WG (base:Nat):Option TI->pN->Option q9
 |some ⟨.str,_,_,_,_⟩,(.val .str s,_)=>some ⟨[],(.val .ref (some (base,0)),none),[(base,.iter s 0)],[]⟩
 |_,_=>none
@[go_sem] def WH (i:Nat):Option pM->Option q9
 |some (.iter s p)=>some ⟨[],(.nxt (decide (p<List.length s)) ((p:Nat):Int) (vS s p),none),[(i,.iter s (yG s p))],[i]⟩
 |_=>none
@[go_sem] def RV (H:List (Nat×pM)):Bool->pN->Option q9
 |true,(.val .ref (some (i,0)),_)=>WH i (pQ H i)
 |_,_=>none
@[go_sem] def tK (T:rW) (Γ:sP) (ty:TypeId) (ρ:Operand->pN) (base:Nat) (H:List (Nat×pM)):Op->Option q9
 | .move x| .assign x=>VH base (rE T ty) (ρ x)
 | .alloc e=>MI base e (rE T e)
 | .box e x=>VM base e (rE T e) (ρ x)
 | .build t ps=>VP (tJ ρ ps.toList) (rE T t)
 | .buildSlice t n ps=>VQ base n (tJ ρ ps.toList) (rE T t)
 | .load t a=>R8 H (rE T t) (ρ a)
 | .store t a x=>RE base H (rE T t) (ρ a) (JG (rE T t) (ρ x))
 | .nilCheck x=>W3 (ρ x)
 | .binOp op t x y _=>yA (V8 (QL op (rE T t) (ρ x) (ρ y)) (V8 (QK op (ρ x) (ρ y)) (V7 (rE T t) op (ρ x) (ρ y))))
 | .unOp op _ x=>yA (V9 op (ρ x))
 | .convert src dst x=>yA (V8 (QN (rE T src) (rE T dst) (ρ x)) (VA T (rE T src) (rE T dst) (ρ x)))
 | .makeFunc (.func f) first caps=>aHX f (GZ (uH ρ caps.toList)) first.toList
 | .slice t x lo hi none=>yA (VB (rE T t) (ρ x) (xE ρ lo) (xE ρ hi))
 | .fieldAddr t x f=>W4 f (rE T t) (ρ x)
 | .field t x f=>W5 f (rE T t) (ρ x)
 | .indexAddr t x ix=>W6 (rE T t) (ρ x) (ρ ix)
 | .index t x ix=>W7 (rE T t) (ρ x) (ρ ix)
 | .extract x i=>W8 i (ρ x)
 | .makeMap t r=>WD T base (rE T t) r
 | .range t x=>WG base (rE T t) (ρ x)
 | .next x b=>RV H b (ρ x)
 | .lookup t x i ok=>RS T H ok (rE T t) (ρ x) (ρ i)
 | .mapUpdate t m k x=>JQ T H (rE T t) (ρ m) (ρ k) (RU T (rE T t) (ρ x))
 | .insert t m k x=>JQ T H (rE T t) (ρ m) (ρ k) (RU T (rE T t) (ρ x))
 | .call c=>HF T Γ ρ base H c.args c.argTypes c.callee
 |_=>none
@[go_sem] def w9:pN->pN
 |(.cond _ d,_)=>(d,none)
 |s=>s
@[go_sem] def x4 (G:Bool):List pN->List Prop
 |[]=>[]
 |(.cond p _,_)::r=>(G=true->p=true)::x4 G r
 |_::r=>x4 G r
@[go_sem] def a9s (b:Bool):pN->Option Bool
 |(.val .bool c,_)=>some (c==b)
 |(.cond p (.val .bool c),_)=>some (p&&(c==b))
 |_=>none
@[go_sem] def xS:List Oper->Nat->Option Tmp
 |[],_=>none
 |o::_,0=>o.dst
 |_::r,n+1=>xS r n
@[go_sem] def DO (env:List (Nat×pN)) (b:Bool):Option Tmp->Option Bool
 |some t=>a9s b (lk env t)
 |none=>none
@[go_sem] def a9t (b:Bool):pN->Bool
 |(.val .bool c,_)=>c==b
 |(.cond p (.val .bool c),_)=>p&&(c==b)
 |(.cond p .any,_)=>p
 |_=>true
@[go_sem] def HG (env:List (Nat×pN)) (b:Bool):Option Tmp->Bool
 |some t=>a9t b (lk env t)
 |none=>true
@[go_sem] def RW (j:Nat) (b:Bool):Nat:=1000000000+(2*j+if b=true then 1 else 0)
@[go_sem] theorem aOo (x y:Bool):cond x y false=(x&&y):=by cases x<;>rfl
@[go_sem] theorem aOp (x y:Bool):cond x true y=(x||y):=by cases x<;>rfl
@[go_sem] def a9u (x:Bool):pN->pN->Option q9
 |(.val .bool y,_),(.val .bool z,_)=>some ⟨[],(.val .bool (cond x y z),none),[],[]⟩
 |(.cond p (.val .bool y),_),(.val .bool z,_)=>some ⟨[x=true->p=true],(.val .bool (cond x y z),none),[],[]⟩
 |(.val .bool y,_),(.cond p (.val .bool z),_)=>some ⟨[x=false->p=true],(.val .bool (cond x y z),none),[],[]⟩
 |(.cond q (.val .bool y),_),(.cond p (.val .bool z),_)=>some ⟨[x=true->q=true,x=false->p=true],(.val .bool (cond x y z),none),[],[]⟩
 |(.val .bool y,_),(.cond _ .any,_)=>some ⟨[x=true],(.val .bool y,none),[],[]⟩
 |(.cond q (.val .bool y),_),(.cond _ .any,_)=>some ⟨[x=true,q=true],(.val .bool y,none),[],[]⟩
 |(.cond _ .any,_),(.val .bool z,_)=>some ⟨[x=false],(.val .bool z,none),[],[]⟩
 |(.cond _ .any,_),(.cond p (.val .bool z),_)=>some ⟨[x=false,p=true],(.val .bool z,none),[],[]⟩
 |_,_=>none
@[go_sem] def MM:pN->pN->pN->Option q9
 |(.val .bool x,_),a,b=>a9u x a b
 |_,_,_=>none
@[go_sem] def rV:Op->List Operand
 | .move x| .assign x| .box _ x| .load _ x| .nilCheck x| .unOp _ _ x| .convert _ _ x| .fieldAddr _ x _| .field _ x _| .extract x _=>[x]
 | .build _ ps| .buildSlice _ _ ps=>parts ps.toList
 | .store _ a v| .binOp _ _ a v _| .indexAddr _ a v| .index _ a v=>[a,v]
 | .lookup _ a v _=>[a,v]
 | .range _ x| .next x _=>[x]
 | .mapUpdate _ m k x=>[m,k,x]
 | .insert _ m k x=>[m,k,x]
 | .makeFunc _ _ caps=>caps.toList
 | .slice _ x l h _=>x::qH (opt l) (opt h)
 | .call ⟨.value f,args,_⟩=>f::args.toList
 | .call ⟨_,args,_⟩=>args.toList
 |_=>[]
where
 parts:List (Nat×Operand)->List Operand
  |[]=>[]
  |(_,x)::r=>x::parts r
 opt:Option Operand->List Operand
  |some x=>[x]
  |none=>[]
attribute [go_sem] rV.parts rV.opt
@[go_sem] def JR (l:List Prop):Option q9->Option q9
 |some e=>some ⟨qH l e.side,e.slot,e.upd,e.rds⟩
 |none=>none
@[go_sem] def MN (G:Bool):List Prop->List Prop
 |[]=>[]
 |p::r=>(G=true->p)::MN G r
@[go_sem] def F9 (G:Bool) (l:List Prop):Option q9->Option q9
 |some ⟨side,(d,_),[],rds⟩=>some ⟨qH l (MN G side),(.cond G d,none),[],rds⟩
 |some ⟨side,s,u::us,rds⟩=>some ⟨(G=true)::qH l (MN G side),s,u::us,rds⟩
 |none=>none
@[go_sem] def zS (env:List (Nat×pN)):List Operand->List pN
 |[]=>[]
 |x::r=>sZ env x::zS env r
@[go_sem] def JS (T:rW) (Γ:sP) (o:Oper) (s:St):Option Bool->Op->Option q9
 |some G,.pick c a b=>F9 G (x4 G [sZ s.env c]) (MM (w9 (sZ s.env c)) (sZ s.env a) (sZ s.env b))
 |some G,op=>F9 G (x4 G (zS s.env (rV op))) (tK T Γ o.type (fun x=>w9 (sZ s.env x)) s.nb s.H op)
 |none,_=>none
@[go_sem] def a9v:Op->Bool
 | .defer _=>true
 |_=>false
@[go_sem] def a9w (up:Bool):Bool->Option q9
 |true=>none
 |false=>some ⟨[up=false],(.cond false .any,none),[],[]⟩
@[go_sem] def MO (T:rW) (Γ:sP) (o:Oper) (s:St) (up:Bool) (g:Option Bool) (op:Op):Option qC->Option q9
 |some _=>a9w up (a9v op)
 |none=>JS T Γ o s g op
@[go_sem] def JT (T:rW) (Γ:sP) (o:Oper) (s:St):Op->Option q9
 | .pick c a b=>MM (sZ s.env c) (sZ s.env a) (sZ s.env b)
 |op=>JR (x4 true (zS s.env (rV op))) (tK T Γ o.type (fun x=>w9 (sZ s.env x)) s.nb s.H op)
@[go_sem] def FA (np:Nat):List (Nat×pM)->Bool
 |[]=>true
 |(i,.cells _ _ _)::r=>if np<=i then FA np r else false
 |_::r=>FA np r
@[go_sem] def a9x (np:Nat) (e:q9):Bool->Option q9
 |true=>if FA np e.upd=true then some e else none
 |false=>some e
@[go_sem] def WI (np:Nat):Option q9->Option q9
 |some e=>a9x np e (F3 e.rds)
 |none=>none
@[go_sem] def JU (T:rW) (Γ:sP) (ops:List Oper) (o:Oper) (s:St):Option q9:=
 match o.guard with
 |none=>JT T Γ o s o.op
 |some (j,b)=>MO T Γ o s (HG s.env b (xS ops j)) (DO s.env b (xS ops j)) o.op (Γ (RW j b))
@[go_sem] def wH (T:rW) (Γ:sP) (ops:List Oper) (o:Oper) (s:St):Option q9:=WI s.np (JU T Γ ops o s)
@[go_sem] def sL:Option Tmp->pN->List (Nat×pN)->List (Nat×pN)
 |some d,s,env=>(d,s)::env
 |none,_,env=>env
structure tZ where
 s:St
 side:List Prop
 es:List q9
@[go_sem] def FB (N:Nat):Option Tmp->Bool
 |some d=>decide (d<N)
 |none=>true
@[go_sem] def FC (n:Nat):List (Nat×pM)->Bool
 |[]=>true
 |(i,_)::r=>decide (i<n)&&FC n r
@[go_sem] def zT (i:Nat):pA->Bool
 |[]=>false
 |j::r=>if j=i then zK i r else zT i r
@[go_sem] def HH (H U:List (Nat×pM)) (rds:pA):List (Nat×pM)->List Prop
 |[]=>[]
 |(i,_)::r=>if zT i rds=true then(pQ U i=pQ H i)::HH H U rds r else HH H U rds r
@[go_sem] def FD (rds:pA):List (Nat×pM)->List (Nat×pM)
 |[]=>[]
 |(i,b)::r=>if zT i rds=true then FD rds r else(i,b)::FD rds r
@[go_sem] def uQ (e:q9):List (Nat×pM):=FD e.rds e.upd
@[go_sem] def RX (o:Oper) (a:tZ):Option q9->Option tZ
 |some e=>if (FB a.s.N o.dst&&FC (a.s.nb+32) e.upd)=true then some ⟨⟨sL o.dst e.slot a.s.env,qH e.upd a.s.H,a.s.nb+32,a.s.N,a.s.np⟩,qH a.side (qH (HH a.s.H e.upd e.rds e.upd) e.side),e::a.es⟩ else none
 |none=>none
@[go_sem] def tC (T:rW) (Γ:sP) (ops:List Oper):List Oper->Option tZ->Option tZ
 |[],a=>a
 |o::r,some a=>tC T Γ ops r (RX o a (wH T Γ ops o a.s))
 |_::_,none=>none
@[go_sem] def MP:List (Nat×pM)->pA->Bool
 |[],_=>false
 |(i,_)::r,l=>l.contains i||MP r l
@[go_sem] def xT (a b:q9):Bool:= !MP (uQ a) (qH b.rds (pS b.upd))&& !MP (uQ b) a.rds
def BA (lo:Nat):List (Nat×pM)->Bool
 |[]=>true
 |(i,_)::r=>(decide (i<lo)||decide (lo+32<=i))&&BA lo r
def RY (ops:Array Oper) (bs:pA) (nb i:Nat) (o:Oper) (e:q9):List Oper->List q9->Nat->Bool
 |p::ps,f::fs,j=>((bs.getD j 0).testBit i||(o.apart ops p&&xT e f&&BA (nb+32*i) f.upd))&&RY ops bs nb i o e ps fs (j+1)
 |_,_,_=>true
def RZ (ops:Array Oper) (bs:pA) (nb:Nat):List Oper->List q9->Nat->Bool
 |o::os,e::es,i=>RY ops bs nb i o e os es (i+1)&&RZ ops bs nb os es (i+1)
 |_,_,_=>true
def MQ:List Oper->Nat->Bool
 |[],_=>true
 |o::r,i=>o.after.toList.all (fun e=> !Region.binds .any e||decide (e.on<i))&&MQ r (i+1)
def CG (ops:Array Oper) (nb:Nat) (es:List q9):Bool:=MQ ops.toList 0&&RZ ops (Region.before ops).toList nb ops.toList es 0
@[go_sem] def a9y (ops:Array Oper) (nb:Nat):Option tZ->Option tZ
 |some a=>if CG ops nb a.es.reverse then some a else none
 |none=>none
@[go_sem] def MR (T:rW) (Γ:sP) (ops:Array Oper) (s:St):Bool->Option tZ
 |true=>a9y ops s.nb (tC T Γ ops.toList ops.toList (some ⟨s,[],[]⟩))
 |false=>tC T Γ ops.toList ops.toList (some ⟨s,[],[]⟩)
inductive Ex where
 |normal|exit (id:Nat) |ret
structure uR where
 slots:pA
 ids:p5:=[]
@[go_sem] def vJ:p5->Nat->p9
 |[],_=>none
 |(n,o)::r,k=>if o=k then some n else vJ r k
@[go_sem] def a9z (m:p5):p8->p8
 |some (i,o)=>(vJ m i).map fun j=>(j,o)
 |none=>none
@[go_sem] def zU (m:p5):p5->Option p5
 |[]=>some []
 |(i,o)::r=>renCons (vJ m i) o (zU m r)
where
 renCons:p9->Nat->Option p5->Option p5
  |some j,o,some r=>some ((j,o)::r)
  |_,_,_=>none
attribute [go_sem] zU.renCons
@[go_sem] def a9A (m:p5):p9->p9
 |some k=>vJ m k
 |none=>none
@[go_sem] def aH1 (n:Nat):p9->pN
 |some k=>(.own k n,none)
 |none=>(.any,none)
@[go_sem] def a9B (m:p5):Option (Nat×p5)->Option (Option (Nat×p5))
 |none=>some none
 |some (f,l)=>(zU m l).map fun l'=>some (f,l')
@[go_sem] def S0 (m:p5):p8->Option p8
 |none=>some none
 |some (i,o)=>(vJ m i).map fun j=>some (j,o)
@[go_sem] def a9C (m:p5):p9->Option p9
 |none=>some none
 |some i=>(vJ m i).map some
@[go_sem] def a9D (m:p5):p8->Option p8
 |none=>some none
 |some (k,n)=>(vJ m k).map fun j=>some (j,n)
@[go_sem] def xF (m:p5):(t:Ty)->t.den->Option t.den
 | .ref,x=>S0 m x
 | .clo,x=>a9B m x
 | .mp,x=>a9C m x
 | .pair a b,x=>H5 (if a.pure=true then some x.1 else xF m a x.1) (if b.pure=true then some x.2 else xF m b x.2)
 | .list t,x=>if t.pure=true then some x else none
 | .bool,x=>some x
 | .int _,x=>some x
 | .str,x=>some x
 | .unit,x=>some x
 | .rl _ _,x=>a9D m x
 | .fn,x=>some x
 | .mref,x=>S0 m x
@[go_sem] def xU (m:p5):pN->pN
 |(.own k n,_)=>aH1 n (vJ m k)
 |(.val .ref none,_)=>(.val .ref none,none)
 |(.val .ref (some p),_)=>refSlot (a9z m (some p))
 |(.val .clo (some (f,l)),_)=>cloSlot f (zU m l)
 |(.val .mp (some i),_)=>mpSlot (vJ m i)
 |(.val t x,k)=>if t.pure then(.val t x,a9A m (CB t k)) else valSlot t (xF m t x)
 |(.at t x,_)=>if t.pure then(.at t x,none) else(.any,none)
 |(.nilS,_)=>(.nilS,none)
 |_=>(.any,none)
where
 refSlot:p8->pN
  |some p=>(.val .ref (some p),none)
  |none=>(.any,none)
 cloSlot (f:Nat):Option p5->pN
  |some l=>(.val .clo (some (f,l)),none)
  |none=>(.any,none)
 valSlot (t:Ty):Option t.den->pN
  |some y=>(.val t y,none)
  |none=>(.any,none)
 mpSlot:p9->pN
  |some j=>(.val .mp (some j),none)
  |none=>(.any,none)
attribute [go_sem] xU.refSlot xU.cloSlot xU.mpSlot xU.valSlot
@[go_sem] def S1 (q j:Nat):p5->p5
 |[]=>[(q,j)]
 |(a,b)::r=>if q<=a then(q,j)::(a,b)::r else(a,b)::S1 q j r
@[go_sem] def HI (m:p5):p5->p5
 |[]=>[]
 |(q,k)::r=>renTok1 q (vJ m k) (HI m r)
where
 renTok1 (q:Nat):p9->p5->p5
  |some j,r=>S1 q j r
  |none,r=>r
attribute [go_sem] HI.renTok1
@[go_sem] def WJ (t:Ty) (toks:p5):Option t.den->pM
 |some y=> .cells t y toks
 |none=> .dead
@[go_sem] def FE (m:p5):Option pM->pM
 |some (.cells t x toks)=>if t.pure then .cells t x (HI m toks) else WJ t (HI m toks) (xF m t x)
 |some (.grow e c n)=> .grow e c n
 |some (.row e t l n)=>if t.pure then .row e t l n else .dead
 |some (.map k v l)=>if k.pure&&v.pure then .map k v l else .dead
 |some (.iter s p)=> .iter s p
 |_=> .dead
@[go_sem] def MS (m:p5) (env:List (Nat×pN)):pA->List (Nat×pN)
 |[]=>[]
 |t::r=>(t,xU m (lk env t))::MS m env r
@[go_sem] def S2 (m:p5) (H:List (Nat×pM)):p5->List (Nat×pM)
 |[]=>[]
 |(n,o)::r=>(n,FE m (pQ H o))::S2 m H r
@[go_sem] def S3:p5->Nat
 |[]=>0
 |(n,_)::r=>max (n+1) (S3 r)
@[go_sem] def JV (n o:Nat):p5->Bool
 |[]=>false
 |(n',o')::r=>decide (n'=n)||decide (o'=o)||JV n o r
@[go_sem] def vT (np:Nat):p5->Bool
 |[]=>true
 |(n,o)::r=>(decide (np<=n)||decide (n=o))&& !JV n o r&&vT np r
@[go_sem] def MT (s:St) (k:uR):Bool->St
 |true=>⟨MS k.ids s.env k.slots,S2 k.ids s.H k.ids,max s.np (S3 k.ids),s.N,s.np⟩
 |false=>⟨[],[],s.nb,s.N,s.np⟩
@[go_sem] def St.keep (s:St) (k:uR):St:=MT s k (vT s.np k.ids)
@[go_sem] def qI:List Prop->Prop
 |[]=>True
 |[p]=>p
 |p::q::r=>p/\qI (q::r)
@[go_sem] def a9E (Q:Ex->St->Prop):Option tZ->Prop
 |some a=>qI a.side/\Q .normal a.s
 |none=>False
@[go_sem] def a9F (A B:Prop):pN->Prop
 |(.val .bool x,_)=>(x=true->A)/\(x=false->B)
 |(.flag p q,_)=>(p->A)/\(q->B)
 |_=>False
@[go_sem] def MU (f:St->Prop) (Q:Ex->St->Prop):Ex->St->Prop
 | .normal,s=>f s
 | .exit j,s=>Q (.exit j) s
 | .ret,s=>Q .ret s
@[go_sem] def FF (id:Nat) (Q:Ex->St->Prop):Ex->St->Prop
 | .normal,s=>Q .normal s
 | .exit j,s=>if j=id then Q .normal s else Q (.exit j) s
 | .ret,s=>Q .ret s
@[go_sem] def aH2 (I:St->Prop) (μ:St->Nat) (m:Nat) (Q:Ex->St->Prop):Ex->St->Prop
 | .normal,s=> ∃k:uR,I (s.keep k)/\μ (s.keep k)<m
 | .exit j,s=>Q (.exit j) s
 | .ret,s=>Q .ret s
def uY (T:rW) (Γ:sP):Code->St->(Ex->St->Prop)->Prop
 | .skip,s,Q=>Q .normal s
 | .label _,s,Q=>Q .normal s
 | .region _ ops draw,s,Q=>a9E Q (MR T Γ ops s draw)
 | .seq a b,s,Q=>uY T Γ a s (MU (fun s'=>uY T Γ b s' Q) Q)
 | .cond c a b,s,Q=>a9F (uY T Γ a s Q) (uY T Γ b s Q) (sZ s.env c)
 | .block id c,s,Q=>uY T Γ c s (FF id Q)
 | .loop c,s,Q=> ∃(k:uR) (I:St->Prop) (μ:St->Nat),I (s.keep k)/\∀s,I s->uY T Γ c s (aH2 I μ (μ s) Q)
 | .exit id,s,Q=>Q (.exit id) s
 | .ret,s,Q=>Q .ret s
 |_,_,_=>False
attribute [go_sem] Ty.list.injEq Ty.pair.injEq Ty.int.injEq
section
variable {T:rW}{Γ:sP}{s:St}{Q:Ex->St->Prop}
theorem aH3 {id:Nat}{ops:Array Oper}{a:tZ}(h:tC T Γ ops.toList ops.toList (some ⟨s,[],[]⟩)=some a) (hp:qI a.side) (hq:Q .normal a.s):uY T Γ (.region id ops false) s Q:=by
 unfold uY MR;rw[h];exact⟨hp,hq⟩
theorem aH4 {id:Nat}{ops:Array Oper}{a:tZ}(h:tC T Γ ops.toList ops.toList (some ⟨s,[],[]⟩)=some a) (hf:CG ops s.nb a.es.reverse=true) (hp:qI a.side) (hq:Q .normal a.s):uY T Γ (.region id ops true) s Q:=by
 unfold uY MR;rw[h];show a9E Q (if CG ops s.nb a.es.reverse=true then some a else none);rw[aQI hf];exact⟨hp,hq⟩
end
end Go.Proofs.YtkpflnijijccpaaGreatDoor.Vc
namespace Go.Proofs.YtkpflnijijccpaaGreatDoor.Vc
open Go.RowKit
abbrev rH:=List (Nat×pM)
structure Pl where
 b:Nat
 o:Nat
 k:Option (TypeId×Nat):=none
structure Gh where
 S:Nat->Nat->Prop
 J:Nat->Option Pl
 cur:Nat->Nat->Option pC
def wQ {α:Type}(R:α->p7->Prop) (w:pB) (S:Nat->Nat->Prop) (c b:Nat):Nat->List α->Prop
 |_,[]=>True
 |o,x::xs=>(∃cs,cs.length=c/\w.rangeAt b o cs/\(∀j,j<c->S b (o+j))/\R x cs)/\wQ R w S c b (o+c) xs
def wI (g:Gh):p5->p7->Prop
 |[],vs=>vs=[]
 |(i,o)::l,vs=> ∃p vs',g.J i=some p/\vs= .pointer (some ⟨p.1,p.2+o,none⟩)::vs'/\wI g l vs'
def MV (g:Gh):p8->p7->Prop
 |none,cs=>cs=[.pointer none]
 |some (i,o),cs=> ∃p,g.J i=some p/\cs=[.pointer (some ⟨p.1,p.2+o,none⟩)]
def MW (g:Gh):Option (Nat×p5)->p7->Prop
 |none,cs=>cs=[.nilFunc]
 |some (f,l),cs=> ∃vs,wI g l vs/\cs=[.func (.func f) #[] vs.toArray]
def HJ (g:Gh):p9->p7->Prop
 |none,cs=>cs=[.map none]
 |some i,cs=> ∃p,g.J i=some p/\cs=[.map (some p.1)]
def WK (k:Option (TypeId×Nat)) (o:Nat):Prop:=o=0/\∃e,VI e=true/\k=some (e,2)
def CH (g:Gh):p8->p7->Prop
 |none,cs=>cs=[.slice none 0 0]
 |some (k,n),cs=> ∃v,g.cur k n=some v/\cs=[v]/\((v= .slice none 0 0/\n=0)\/∃b cap,v= .slice (some ⟨b,0,none⟩) n cap/\n<=cap)
def MX (g:Gh):p8->p7->Prop
 |none,cs=>cs=[.pointer none]
 |some (i,o),cs=> ∃p,g.J i=some p/\WK p.3 (p.2+o)/\(cs=[.pointer none]\/cs=[.pointer (some ⟨p.1,p.2+o,none⟩)])
def a9G:p9->p7->Prop
 |none,cs=>cs=[.nilFunc]
 |some f,cs=>cs=[.func (.func f) #[] #[]]
def Rd (g:Gh) (w:pB):(t:Ty)->t.den->p7->Prop
 | .bool,x,cs=>cs=[.bool x]
 | .int k,n,cs=>cs=[.int k n]
 | .str,l,cs=>cs=[.string ⟨List.toArray l⟩]
 | .list t,l,cs=> ∃a cap,cs=[.slice a (List.length l) cap]/\List.length l<=cap/\(l=[]\/∃b o,a=some ⟨b,o,none⟩/\wQ (Rd g w t) w g.S t.cells b o l)
 | .unit,_,cs=>cs=[]
 | .pair s t,x,cs=> ∃c1 c2,cs=c1++c2/\Rd g w s x.1 c1/\Rd g w t x.2 c2
 | .ref,x,cs=>MV g x cs
 | .clo,x,cs=>MW g x cs
 | .mp,x,cs=>HJ g x cs
 | .rl _ _,x,cs=>CH g x cs
 | .fn,x,cs=>a9G x cs
 | .mref,x,cs=>MX g x cs
def sM (g:Gh) (w:pB) (t:Ty) (x:t.den) (v:pC):Prop:=
 (t.isRow=true/\∃cs:p7,v= .agg cs.toArray/\Rd g w t x cs)\/(t.isRow=false/\Rd g w t x [v])
def wA (k:Nat):Ty->Nat->p7->Prop
 | .list _,o,cs=>o+1=k\/cs=[.slice none 0 0]
 | .pair a b,o,cs=> ∃c1 c2,cs=c1++c2/\c1.length=a.cells/\wA k a o c1/\wA k b (o+a.cells) c2
 |_,_,_=>True
def AI (g:Gh) (t:Ty) (x:t.den) (v:pC):p9->Prop
 |none=>True
 |some k=>match t,x with
  | .list _,l=>g.cur k (List.length l)=some v
  | .pair a b,_=>wA k (.pair a b) 0 v.cells.toList
  |_,_=>False
def JW (g:Gh) (w:pB):List ((Σ t:Ty,t.den)×p9)->p7->Prop
 |[],vs=>vs=[]
 |(⟨t,x⟩,k)::l,vs=> ∃v vs',vs=v::vs'/\sM g w t x v/\AI g t x v k/\JW g w l vs'
def xV (g:Gh) (w:pB):DV->pC->Prop
 | .any,_=>True
 | .nilS,v=>v= .slice none 0 0
 | .val t x,v=>sM g w t x v
 | .at t x,v=> ∃b o cs,v= .pointer (some ⟨b,o,none⟩)/\w.rangeAt b o cs/\(∀j,j<t.cells->g.S b (o+j))/\Rd g w t x cs
 | .tup l,v=> ∃vs:p7,v= .tuple vs.toArray/\JW g w l vs
 | .cond p d,v=>(p=true->xV g w d v)/\(p=false->v=undef)
 | .flag p q,v=> ∃b,v= .bool b/\(b=true->p)/\(b=false->q)
 | .own k n,v=>g.cur k n=some v/\((v= .slice none 0 0/\n=0)\/∃b cap,v= .slice (some ⟨b,0,none⟩) n cap/\n<=cap)
 | .nxt b p c,v=>(b=true->v= .tuple #[.bool true,.int .i64 p,.int .i32 c])/\(b=false->v= .tuple #[.bool false])
 | .elt k n c i o,v=> ∃b cap,g.cur k n=some (.slice (some ⟨b,0,none⟩) n cap)/\0<=i/\i<(n:Int)/\v= .pointer (some ⟨b,i.toNat*c+o,none⟩)
def rD (g:Gh) (w:pB) (s:pN) (v:pC):Prop:=
 xV g w s.1 v/\match s with
  |(_,none)=>True
  |(.val t x,some k)=>AI g t x v (some k)
  |(_,some _)=>False
structure Le (g:Gh) (w:pB) (g':Gh) (w':pB):Prop where
 S: ∀b o,g.S b o->g'.S b o
 cell: ∀b o,g.S b o->w'.cell? ⟨b,o,none⟩=w.cell? ⟨b,o,none⟩
 J: ∀i p,g.J i=some p->g'.J i=some p
 cur: ∀k n v,g.cur k n=some v->g'.cur k n=some v
theorem Le.refl (g:Gh) (w:pB):Le g w g w:=⟨fun _ _ h=>h,fun _ _ _=>rfl,fun _ _ h=>h,fun _ _ _ h=>h⟩
theorem Le.trans {g g' g'':Gh}{w w' w'':pB}(h:Le g w g' w') (k:Le g' w' g'' w''):Le g w g'' w'':=
 ⟨fun b o x=>k.S b o (h.S b o x),fun b o x=>(k.cell b o (h.S b o x)).trans (h.cell b o x),fun i p x=>k.J i p (h.J i p x),fun i n v x=>k.cur i n v (h.cur i n v x)⟩
theorem WL {g g':Gh}(hJ: ∀i p,g.J i=some p->g'.J i=some p): ∀{l:p5}{vs:p7},wI g l vs->wI g' l vs
 |[],_,h=>h
 |(_,_)::_,_,⟨p,vs',h1,h2,h3⟩=>⟨p,vs',hJ _ _ h1,h2,WL hJ h3⟩
theorem aH5 {g g':Gh}(hJ: ∀i p,g.J i=some p->g'.J i=some p): ∀{x:p8}{cs:p7},MV g x cs->MV g' x cs
 |none,_,h=>h
 |some (_,_),_,⟨p,h1,h2⟩=>⟨p,hJ _ _ h1,h2⟩
theorem aH6 {g g':Gh}(hJ: ∀i p,g.J i=some p->g'.J i=some p): ∀{x:Option (Nat×p5)}{cs:p7},MW g x cs->MW g' x cs
 |none,_,h=>h
 |some (_,_),_,⟨vs,h1,h2⟩=>⟨vs,WL hJ h1,h2⟩
theorem aH7 {g g':Gh}(hJ: ∀i p,g.J i=some p->g'.J i=some p): ∀{x:p9}{cs:p7},HJ g x cs->HJ g' x cs
 |none,_,h=>h
 |some _,_,⟨p,h1,h2⟩=>⟨p,hJ _ _ h1,h2⟩
theorem aH8 {g g':Gh}(hc: ∀k n v,g.cur k n=some v->g'.cur k n=some v): ∀{x:p8}{cs:p7},CH g x cs->CH g' x cs
 |none,_,h=>h
 |some (_,_),_,⟨v,h1,h2⟩=>⟨v,hc _ _ _ h1,h2⟩
theorem aH9 {g g':Gh}(hJ: ∀i p,g.J i=some p->g'.J i=some p): ∀{x:p8}{cs:p7},MX g x cs->MX g' x cs
 |none,_,h=>h
 |some (_,_),_,⟨p,h1,h2⟩=>⟨p,hJ _ _ h1,h2⟩
theorem WM {α:Type}{R R':α->p7->Prop}{w w':pB}{S S':Nat->Nat->Prop}{c b:Nat}(hR: ∀x cs,R x cs->R' x cs) (hS: ∀o,S b o->S' b o)
  (hc: ∀o,S b o->w'.cell? ⟨b,o,none⟩=w.cell? ⟨b,o,none⟩): ∀{l:List α}{o:Nat},wQ R w S c b o l->wQ R' w' S' c b o l
 |[],_,_=>trivial
 |_::_,o,⟨⟨cs,h1,h2,h3,h4⟩,h5⟩=>⟨⟨cs,h1,fun j v hv=>by
   have hj:j<c:=h1▸(aQP.1 hv).1;rw[hc _ (h3 j hj)];exact h2 j v hv,fun j hj=>hS _ (h3 j hj),hR _ _ h4⟩,WM hR hS hc h5⟩
theorem vU {g g':Gh}{w w':pB}(h:Le g w g' w'): ∀{t:Ty}{x:t.den}{cs:p7},Rd g w t x cs->Rd g' w' t x cs
 | .bool,_,_,r=>r
 | .int _,_,_,r=>r
 | .str,_,_,r=>r
 | .unit,_,_,r=>r
 | .ref,_,_,r=>aH5 h.J r
 | .clo,_,_,r=>aH6 h.J r
 | .mp,_,_,r=>aH7 h.J r
 | .rl _ _,_,_,r=>aH8 h.cur r
 | .fn,_,_,r=>r
 | .mref,_,_,r=>aH9 h.J r
 | .pair _ _,_,_,⟨c1,c2,e,r1,r2⟩=>⟨c1,c2,e,vU h r1,vU h r2⟩
 | .list _,_,_,⟨a,cap,e,hle,hl⟩=>⟨a,cap,e,hle,hl.imp id fun⟨b,o,ea,hr⟩=>⟨b,o,ea,WM (fun _ _=>vU h) (fun _=>h.S _ _) (fun _=>h.cell _ _) hr⟩⟩
theorem s3 {g:Gh}{w:pB}: ∀{t:Ty}{x:t.den}{cs:p7},Rd g w t x cs->cs.length=t.cells
 | .bool,_,_,r=>by cases r;rfl
 | .int _,_,_,r=>by cases r;rfl
 | .str,_,_,r=>by cases r;rfl
 | .unit,_,_,r=>by cases r;rfl
 | .ref,none,_,r=>by cases r;rfl
 | .ref,some (_,_),_,⟨_,_,e⟩=>by cases e;rfl
 | .clo,none,_,r=>by cases r;rfl
 | .clo,some (_,_),_,⟨_,_,e⟩=>by cases e;rfl
 | .mp,none,_,r=>by cases r;rfl
 | .mp,some _,_,⟨_,_,e⟩=>by cases e;rfl
 | .fn,none,_,r=>by cases r;rfl
 | .fn,some _,_,r=>by cases r;rfl
 | .rl _ _,none,_,r=>by cases r;rfl
 | .rl _ _,some (_,_),_,⟨_,_,e,_⟩=>by cases e;rfl
 | .mref,none,_,r=>by cases r;rfl
 | .mref,some (_,_),_,⟨_,_,_,e⟩=>by rcases e with e|e<;>(cases e;rfl)
 | .pair _ _,_,_,⟨c1,c2,e,r1,r2⟩=>by rw[e,aQG,s3 r1,s3 r2];rfl
 | .list _,_,_,⟨_,_,e,_,_⟩=>by cases e;rfl
theorem S4 {g g':Gh}{w w':pB}(h:Le g w g' w') {t:Ty}{x:t.den}{v:pC}(r:sM g w t x v):sM g' w' t x v:=
 r.imp (fun⟨a,cs,e,q⟩=>⟨a,cs,e,vU h q⟩) (fun⟨a,q⟩=>⟨a,vU h q⟩)
theorem a9H {g g':Gh}{w w':pB}(h:Le g w g' w') {t:Ty}{x:t.den}{v:pC}{k:p9}(r:AI g t x v k):AI g' t x v k:=by
 cases k with
 |none=>trivial
 |some k=>
  cases t with
  |list u=>exact h.cur _ _ _ r
  |pair a b=>exact r
  |_=>exact r.elim
theorem a9I {g g':Gh}{w w':pB}(h:Le g w g' w'): ∀{l:List ((Σ t:Ty,t.den)×p9)}{vs:p7},JW g w l vs->JW g' w' l vs
 |[],_,r=>r
 |(⟨_,_⟩,_)::_,_,⟨v,vs',e,r1,r2,r3⟩=>⟨v,vs',e,S4 h r1,a9H h r2,a9I h r3⟩
theorem a9J {g g':Gh}{w w':pB}(h:Le g w g' w'): ∀{d:DV}{v:pC},xV g w d v->xV g' w' d v
 | .any,_,r=>r
 | .nilS,_,r=>r
 | .val _ _,_,r=>S4 h r
 | .at t _,_,⟨b,o,cs,e,h1,h2,h3⟩=>⟨b,o,cs,e,fun j v hv=>by
   by_cases hj:j<t.cells
   .rw[h.cell _ _ (h2 j hj)];exact h1 j v hv
   .exact absurd (aQP.1 hv).1 (by rw[s3 h3];exact hj),fun j hj=>h.S _ _ (h2 j hj),vU h h3⟩
 | .tup _,_,⟨vs,e,r⟩=>⟨vs,e,a9I h r⟩
 | .cond _ _,_,⟨r1,r2⟩=>⟨fun p=>a9J h (r1 p),r2⟩
 | .flag _ _,_,r=>r
 | .own _ _,_,⟨h1,h2⟩=>⟨h.cur _ _ _ h1,h2⟩
 | .nxt _ _ _,_,r=>r
 | .elt _ _ _ _ _,_,⟨b,cap,h1,h2⟩=>⟨b,cap,h.cur _ _ _ h1,h2⟩
theorem yW {g g':Gh}{w w':pB}(h:Le g w g' w') {s:pN}{v:pC}(r:rD g w s v):rD g' w' s v:=by
 obtain⟨d,k⟩:=s;refine⟨a9J h r.1,?_⟩;have r2:=r.2;cases k with
 |none=>trivial
 |some k=>
  cases d with
  |val t x=>exact a9H h r2
  |_=>exact r2.elim
theorem yH {g:Gh}{w:pB}: ∀{t:Ty}{x:t.den}{cs:p7},Rd g w t x cs->∀v∈cs,v.oneCell'=true
 | .bool,_,_,r=>by cases r;intro v hv;simp at hv;subst hv;rfl
 | .int _,_,_,r=>by cases r;intro v hv;simp at hv;subst hv;rfl
 | .str,_,_,r=>by cases r;intro v hv;simp at hv;subst hv;rfl
 | .unit,_,_,r=>by cases r;intro v hv;simp at hv
 | .ref,none,_,r=>by cases r;intro v hv;simp at hv;subst hv;rfl
 | .ref,some (_,_),_,⟨_,_,e⟩=>by cases e;intro v hv;simp at hv;subst hv;rfl
 | .clo,none,_,r=>by cases r;intro v hv;simp at hv;subst hv;rfl
 | .clo,some (_,_),_,⟨_,_,e⟩=>by cases e;intro v hv;simp at hv;subst hv;rfl
 | .mp,none,_,r=>by cases r;intro v hv;simp at hv;subst hv;rfl
 | .mp,some _,_,⟨_,_,e⟩=>by cases e;intro v hv;simp at hv;subst hv;rfl
 | .fn,none,_,r=>by cases r;intro v hv;simp at hv;subst hv;rfl
 | .fn,some _,_,r=>by cases r;intro v hv;simp at hv;subst hv;rfl
 | .rl _ _,none,_,r=>by cases r;intro v hv;simp at hv;subst hv;rfl
 | .rl _ _,some (_,_),_,⟨_,_,e,hs⟩=>by
  cases e;intro v hv;simp at hv;subst hv;rcases hs with⟨rfl,_⟩ |⟨_,_,rfl,_⟩<;>rfl
 | .mref,none,_,r=>by cases r;intro v hv;simp at hv;subst hv;rfl
 | .mref,some (_,_),_,⟨_,_,_,e⟩=>by rcases e with e|e<;>(cases e;intro v hv;simp at hv;subst hv;rfl)
 | .pair _ _,_,_,⟨c1,c2,e,r1,r2⟩=>by
  subst e;intro v hv;rcases aRF.1 hv with h|h
  .exact yH r1 v h
  .exact yH r2 v h
 | .list _,_,_,⟨_,_,e,_,_⟩=>by cases e;intro v hv;simp at hv;subst hv;rfl
theorem uO {g g':Gh}{w:pB}(hS:g'.S=g.S): ∀{t:Ty}{x:t.den}{cs:p7},t.pure=true->Rd g w t x cs->Rd g' w t x cs
 | .bool,_,_,_,r=>r
 | .int _,_,_,_,r=>r
 | .str,_,_,_,r=>r
 | .unit,_,_,_,r=>r
 | .ref,_,_,h,_=>by simp [Ty.pure] at h
 | .clo,_,_,h,_=>by simp [Ty.pure] at h
 | .mp,_,_,h,_=>by simp [Ty.pure] at h
 | .rl _ _,_,_,h,_=>by simp [Ty.pure] at h
 | .fn,_,_,_,r=>r
 | .mref,_,_,h,_=>by simp [Ty.pure] at h
 | .pair _ _,_,_,h,⟨c1,c2,e,r1,r2⟩=>by
  simp only[Ty.pure,aQU] at h;exact⟨c1,c2,e,uO hS h.1 r1,uO hS h.2 r2⟩
 | .list _,_,_,h,⟨a,cap,e,hle,hl⟩=>by
  simp only[Ty.pure] at h;exact⟨a,cap,e,hle,hl.imp id fun⟨b,o,ea,hr⟩=>⟨b,o,ea,WM (fun _ _ r=>uO hS h r) (fun _ q=>by rw[hS];exact q) (fun _ _=>rfl) hr⟩⟩
def BB (g:Gh) (w:pB) (k v:Ty):List (k.den×v.den)->List MapEntry->Prop
 |[],es=>es=[]
 |(a,b)::l,es=> ∃e es',es=e::es'/\sM g w k a e.key/\sM g w v b e.val/\BB g w k v l es'
theorem WN {g g':Gh}{w w':pB}(h:Le g w g' w') {k v:Ty}: ∀{l:List (k.den×v.den)}{es:List MapEntry},BB g w k v l es->BB g' w' k v l es
 |[],_,r=>r
 |_::_,_,⟨e,es',h1,h2,h3,h4⟩=>⟨e,es',h1,S4 h h2,S4 h h3,WN h h4⟩
theorem a9K {g g':Gh}{w:pB}(hS:g'.S=g.S) {t:Ty}{x:t.den}{v:pC}(hp:t.pure=true) (r:sM g w t x v):sM g' w t x v:=
 r.imp (fun⟨a,cs,e,q⟩=>⟨a,cs,e,uO hS hp q⟩) (fun⟨a,q⟩=>⟨a,uO hS hp q⟩)
theorem MY {g g':Gh}{w:pB}(hS:g'.S=g.S) {k v:Ty}(hk:k.pure=true) (hv:v.pure=true): ∀{l:List (k.den×v.den)}{es:List MapEntry},BB g w k v l es->BB g' w k v l es
 |[],_,r=>r
 |_::_,_,⟨e,es',h1,h2,h3,h4⟩=>⟨e,es',h1,a9K hS hk h2,a9K hS hv h3,MY hS hk hv h4⟩
def sQ {α:Type}(R:α->p7->Prop) (c:Nat):List α->p7->Prop
 |[],cs=>cs=[]
 |x::xs,cs=> ∃c1 c2,cs=c1++c2/\c1.length=c/\R x c1/\sQ R c xs c2
theorem FG {α:Type}{R:α->p7->Prop}{c:Nat}: ∀{l:List α}{cs:p7},sQ R c l cs->cs.length=l.length*c
 |[],_,h=>by rw[h];simp
 |_::l,_,⟨c1,c2,e,h1,_,h3⟩=>by rw[e,aQG,h1,FG h3,aQJ,aRB];omega
theorem MZ {α:Type}{R:α->p7->Prop}{c:Nat}: ∀{l m:List α}{cs ds:p7},sQ R c l cs->sQ R c m ds->sQ R c (l++m) (cs++ds)
 |[],_,_,_,h,k=>by rw[h];exact k
 |_::_,_,_,_,⟨c1,c2,e,h1,h2,h3⟩,k=>⟨c1,c2++_,by rw[e,aQR],h1,h2,MZ h3 k⟩
theorem AJ {α:Type}{R R':α->p7->Prop}{c:Nat}(hR: ∀x cs,R x cs->R' x cs): ∀{l:List α}{cs:p7},sQ R c l cs->sQ R' c l cs
 |[],_,h=>h
 |_::_,_,⟨c1,c2,e,h1,h2,h3⟩=>⟨c1,c2,e,h1,hR _ _ h2,AJ hR h3⟩
theorem BC {g:Gh}{w:pB}{u:Ty}: ∀{t:Ty}{x:t.den}{cs:p7}{o:Nat}{y:u.den},Rd g w t x cs->qZ u t x o=some y->
  ∃c1 c2 c3,cs=c1++c2++c3/\c1.length=o/\Rd g w u y c2:=by
 intro t
 induction t with
 |pair a b iha ihb=>
  intro x cs o y r h;obtain⟨c1,c2,e,r1,r2⟩:=r;have key: ∀o,(if o<a.cells then qZ u a x.1 o else qZ u b x.2 (o-a.cells))=some y->∃d1 d2 d3,cs=d1++d2++d3/\d1.length=o/\Rd g w u y d2:=by
   intro o h;by_cases ho:o<a.cells
   .rw[aQI ho] at h;obtain⟨d1,d2,d3,e',hl,hr⟩:=iha r1 h;exact⟨d1,d2,d3++c2,by rw[e,e'];simp,hl,hr⟩
   .rw[aQO ho] at h;obtain⟨d1,d2,d3,e',hl,hr⟩:=ihb r2 h;refine⟨c1++d1,d2,d3,by rw[e,e'];simp,?_,hr⟩;rw[aQG,hl,s3 r1];omega
  cases o with
  |zero=>
   unfold qZ at h;by_cases hu:Ty.pair a b=u
   .rw[aSC hu] at h;subst hu;simp only[tI,aQE] at h;subst h;exact⟨[],cs,[],by simp,rfl,⟨c1,c2,e,r1,r2⟩⟩
   .rw[aSe hu] at h;refine key 0 ?_;simpa using h
  |succ o=>exact key (o+1) (by simpa[qZ] using h)
 |_=>
  intro x cs o y r h;cases o with
  |zero=>
   unfold qZ at h;split at h
   .rename_i hu;subst hu;simp only[tI,aQE] at h
    try subst h
    exact⟨[],cs,[],by simp,rfl,r⟩
   .simp at h
  |succ o=>simp [qZ] at h
theorem S5 {g:Gh}{w:pB}{u:Ty}{y:u.den}{cy:p7}(hy:Rd g w u y cy): ∀{t:Ty}{x z:t.den}{cs:p7}{o:Nat},Rd g w t x cs->rZ u y t x o=some z->
  ∃c1 c2 c3,cs=c1++c2++c3/\c1.length=o/\c2.length=u.cells/\Rd g w t z (c1++cy++c3):=by
 intro t
 induction t with
 |pair a b iha ihb=>
  intro x z cs o r h;obtain⟨c1,c2,e,r1,r2⟩:=r;have key: ∀o,(if o<a.cells then(rZ u y a x.1 o).map (fun q=>(q,x.2)) else(rZ u y b x.2 (o-a.cells)).map (fun q=>(x.1,q)))=some z->
    ∃d1 d2 d3,cs=d1++d2++d3/\d1.length=o/\d2.length=u.cells/\Rd g w (.pair a b) z (d1++cy++d3):=by
   intro o h;by_cases ho:o<a.cells
   .rw[aQI ho] at h;obtain⟨q,hq,rfl⟩:=aQQ.1 h;obtain⟨d1,d2,d3,e',hl,hl2,hr⟩:=iha r1 hq;exact⟨d1,d2,d3++c2,by rw[e,e'];simp,hl,hl2,⟨d1++cy++d3,c2,by simp,hr,r2⟩⟩
   .rw[aQO ho] at h;obtain⟨q,hq,rfl⟩:=aQQ.1 h;obtain⟨d1,d2,d3,e',hl,hl2,hr⟩:=ihb r2 hq;refine⟨c1++d1,d2,d3,by rw[e,e'];simp,?_,hl2,⟨c1,d1++cy++d3,by simp,r1,hr⟩⟩;rw[aQG,hl,s3 r1];omega
  cases o with
  |zero=>
   unfold rZ at h;by_cases hu:u=Ty.pair a b
   .rw[aSC hu] at h;subst hu;simp only[tI,aQE] at h;subst h;exact⟨[],cs,[],by simp,rfl,s3 (t:= .pair a b) (x:=x) ⟨c1,c2,e,r1,r2⟩,by simpa using hy⟩
   .rw[aSe hu] at h;refine key 0 ?_;simpa using h
  |succ o=>exact key (o+1) (by simpa[rZ] using h)
 |_=>
  intro x z cs o r h;cases o with
  |zero=>
   unfold rZ at h;split at h
   .rename_i hu;subst hu;simp only[tI,aQE] at h
    try subst h
    exact⟨[],cs,[],by simp,rfl,s3 r,by simpa using hy⟩
   .simp at h
  |succ o=>simp [rZ] at h
theorem aIa {e:Nat}{u:Ty}{kn:p8}: ∀{t:Ty}{x:t.den}{o:Nat}{q: Σ t:Ty,t.den},wG e u kn t x o=some q->q.1.cells=t.cells:=by
 intro t
 induction t with
 |pair a b iha ihb=>
  intro x o q h;unfold wG at h;split at h
  .cases hq:wG e u kn a x.1 o with
   |none=>rw[hq] at h;cases h
   |some r=>
    obtain⟨a',x'⟩:=r;rw[hq] at h;simp only[VW,aQE] at h;subst h;have:=iha hq;simp only[Ty.cells] at this|-;omega
  .cases hq:wG e u kn b x.2 (o-a.cells) with
   |none=>rw[hq] at h;cases h
   |some r=>
    obtain⟨b',y'⟩:=r;rw[hq] at h;simp only[VX,aQE] at h;subst h;have:=ihb hq;simp only[Ty.cells] at this|-;omega
 |list v=>
  intro x o q h;cases o with
  |zero=>
   simp only[wG] at h;split at h
   .simp only[aQE] at h;subst h;rfl
   .cases h
  |succ o=>simp [wG] at h
 |_=>intro x o q h;cases o<;>simp [wG] at h
theorem aIb {g:Gh}{w:pB}{e:Nat}{u:Ty}{kn:p8}{cy:p7}(hy:CH g kn cy): ∀{t:Ty}{x:t.den}{cs:p7}{o:Nat}{q: Σ t:Ty,t.den},Rd g w t x cs->wG e u kn t x o=some q->
  ∃c1 c2 c3,cs=c1++c2++c3/\c1.length=o/\c2.length=1/\Rd g w q.1 q.2 (c1++cy++c3):=by
 intro t
 induction t with
 |pair a b iha ihb=>
  intro x cs o q r h;obtain⟨c1,c2,e1,r1,r2⟩:=r;unfold wG at h;split at h
  .cases hq:wG e u kn a x.1 o with
   |none=>rw[hq] at h;cases h
   |some z=>
    obtain⟨a',x'⟩:=z;rw[hq] at h;simp only[VW,aQE] at h;subst h;obtain⟨d1,d2,d3,e',hl,hl2,hr⟩:=iha r1 hq;exact⟨d1,d2,d3++c2,by rw[e1,e'];simp,hl,hl2,⟨d1++cy++d3,c2,by simp,hr,r2⟩⟩
  .cases hq:wG e u kn b x.2 (o-a.cells) with
   |none=>rw[hq] at h;cases h
   |some z=>
    obtain⟨b',y'⟩:=z;rw[hq] at h;simp only[VX,aQE] at h;subst h;obtain⟨d1,d2,d3,e',hl,hl2,hr⟩:=ihb r2 hq;refine⟨c1++d1,d2,d3,by rw[e1,e'];simp,?_,hl2,⟨c1,d1++cy++d3,by simp,r1,hr⟩⟩;rw[aQG,hl,s3 r1];omega
 |list v=>
  intro x cs o q r h;cases o with
  |zero=>
   simp only[wG] at h;split at h
   .simp only[aQE] at h;subst h;exact⟨[],cs,[],by simp,rfl,s3 r,by rw[List.nil_append,List.append_nil];exact hy⟩
   .cases h
  |succ o=>simp [wG] at h
 |_=>intro x cs o q r h;cases o<;>simp [wG] at h
def DP (g:Gh) (t:Ty) (x:t.den) (cs:p7) (toks:p5):Prop:=
 ∀o k,(o,k)∈toks->∃(u:Ty) (l:List u.den) (v:pC),qZ (.list u) t x o=some l/\cs[o]? =some v/\g.cur k l.length=some v
def aIc (w:pB) (p:Pl) (n:Nat):Prop:=w.there p.1 p.2 n/\(0<n->∀s,p.3=some s->w.shape? p.1=some s)
theorem zV {w:pB}{b:Nat}{s:TypeId×Nat}(h:w.shape? b=some s):b<w.heap.size:=by
 unfold World.shape? at h;cases hb:w.heap[b]? with
 |none=>rw[hb] at h;cases h
 |some x=>exact(aQ1.1 hb).1
theorem zW {w w':pB}{b:Nat}(h:w'.heap[b]? =w.heap[b]?):w'.shape? b=w.shape? b:=by
 unfold World.shape?;rw[h]
def xW (g:Gh) (w:pB) (i:Nat):pM->Prop
 | .cells t x toks=> ∃p cs,g.J i=some p/\Rd g w t x cs/\w.rangeAt p.1 p.2 cs/\aIc w p t.cells/\(∀j,j<t.cells->¬g.S p.1 (p.2+j))/\DP g t x cs toks
 | .grow e c n=> ∃v xs,g.cur i n=some v/\w.ownsRow 0 e c v n xs/\(∀m,n<m->g.cur i m=none)/\∀b,v.ownBlock=some b->∀o,g.S b o->o<n*c
 | .row e t l n=>l.length=n/\∃v xs,g.cur i n=some v/\w.ownsRow 0 e t.cells v n xs/\sQ (Rd g w t) t.cells l xs/\(∀m,n<m->g.cur i m=none)/\∀b,v.ownBlock=some b->∀o,¬g.S b o
 | .map k v l=> ∃p es clock,g.J i=some p/\p.2=0/\w.heap[p.1]? =some (.map es clock)/\BB g w k v l es.toList/\∀o,¬g.S p.1 o
 | .iter s n=> ∃p,g.J i=some p/\p.2=0/\w.heap[p.1]? =some (.stringIter ⟨s.toArray⟩ n)/\∀o,¬g.S p.1 o
 | .dead=>True
def rK (g:Gh) (i:Nat):pM->Nat->Nat->Prop
 | .cells t _ _,b,o=> ∃p,g.J i=some p/\b=p.1/\p.2<=o/\o<p.2+t.cells
 | .grow _ _ n,b,_=> ∃v,g.cur i n=some v/\v.ownBlock=some b
 | .row _ _ _ n,b,_=> ∃v,g.cur i n=some v/\v.ownBlock=some b
 | .map _ _ _,b,_=> ∃p,g.J i=some p/\b=p.1
 | .iter _ _,b,_=> ∃p,g.J i=some p/\b=p.1
 | .dead,_,_=>False
structure rR (g:Gh) (w:pB) (H:rH):Prop where
 blk: ∀i b,pQ H i=some b->xW g w i b
 dis: ∀i j bi bj b o,i≠j->pQ H i=some bi->pQ H j=some bj->rK g i bi b o->rK g j bj b o->False
 sl: ∀b o,g.S b o->b<w.heap.size
 tab:AE w/\∀i blk b o,pQ H i=some blk->rK g i blk b o->NG<=b
def s6 (g:Gh) (H:rH) (ids:pA) (b o:Nat):Prop:= ∃i blk,i∈ids/\pQ H i=some blk/\rK g i blk b o
structure Fr (A:Nat->Nat->Prop) (w w':pB) (S S':Nat->Nat->Prop):Prop where
 os:w'.os=w.os
 tape:w'.tape=w.tape
 output:w'.output=w.output
 size:w.heap.size<=w'.heap.size
 blk: ∀b,b<w.heap.size->(∀o,¬A b o)->w'.heap[b]? =w.heap[b]?
 cell: ∀b o,b<w.heap.size->¬A b o->w'.cell? ⟨b,o,none⟩=w.cell? ⟨b,o,none⟩/\w'.frozen? ⟨b,o,none⟩=w.frozen? ⟨b,o,none⟩
 new: ∀b o,S' b o->S b o\/w.heap.size<=b\/A b o
 shape: ∀b s,w.shape? b=some s->w'.shape? b=some s\/∀o,A b o
theorem Fr.refl (A:Nat->Nat->Prop) (w:pB) (S:Nat->Nat->Prop):Fr A w w S S:=
 ⟨rfl,rfl,rfl,aQ4 _,fun _ _ _=>rfl,fun _ _ _ _=>⟨rfl,rfl⟩,fun _ _ h=> .inl h,fun _ _ h=> .inl h⟩
theorem Fr.trans {A B:Nat->Nat->Prop}{w w' w'':pB}{S S' S'':Nat->Nat->Prop}(h:Fr A w w' S S') (k:Fr B w' w'' S' S'') (hB: ∀b o,B b o->w.heap.size<=b\/A b o):Fr A w w'' S S'':=by
 refine⟨k.os.trans h.os,k.tape.trans h.tape,k.output.trans h.output,aRs h.size k.size,fun b hb hA=> ?_,fun b o hb hA=> ?_,fun b o hs=> ?_,fun b s hs=> ?_⟩
 .refine(k.blk b (aRh hb h.size) fun o ho=> ?_).trans (h.blk b hb hA);rcases hB b o ho with h1|h1
  .omega
  .exact hA o h1
 .have h1:=h.cell b o hb hA;have h2:=k.cell b o (aRh hb h.size) (fun ho=>by
   rcases hB b o ho with h1|h1
   .omega
   .exact hA h1)
  exact⟨h2.1.trans h1.1,h2.2.trans h1.2⟩
 .rcases k.new b o hs with h1|h1|h1
  .exact h.new b o h1
  .exact .inr (.inl (aRs h.size h1))
  .exact .inr (hB b o h1)
 .rcases h.shape b s hs with h1|h1
  .rcases k.shape b s h1 with h2|h2
   .exact .inl h2
   .refine .inr fun o=>(hB b o (h2 o)).resolve_left ?_;have:=zV hs;omega
  .exact .inr h1
structure rL (g:Gh) (w:pB) (H:rH) (e:q9) (g':Gh) (w':pB) (v:pC):Prop where
 le:Le g w g' w'
 slot:rD g' w' e.slot v
 heap:rR g' w' (qH e.upd H)
 fr:Fr (s6 g H (pS e.upd)) w w' g.S g'.S
 perm: ∀i blk b o,i∈pS e.upd->pQ (qH e.upd H) i=some blk->rK g' i blk b o->w.heap.size<=b\/s6 g H (pS e.upd) b o
 gho: ∀i,i∉pS e.upd->g'.J i=g.J i/\g'.cur i=g.cur i
 ty: ∀i u y us,pQ (qH e.upd H) i=some (.cells u y us)->(∃x ts,pQ H i=some (.cells u x ts))\/(g.J i=none/\∀n,g.cur i n=none)
structure xG (g:Gh) (w:pB) (H:rH) (e:q9) (g':Gh) (w':pB) (v:pC):Prop where
 le:Le g w g' w'
 slot:rD g' w' e.slot v
 heap:rR g' w' (qH e.upd H)
 fr:Fr (s6 g H (pS e.upd)) w w' g.S g'.S
 perm: ∀i blk b o,i∈pS e.upd->pQ (qH e.upd H) i=some blk->rK g' i blk b o->w.heap.size<=b\/s6 g H (pS e.upd) b o
 gho: ∀i,i∉pS e.upd->g'.J i=g.J i/\g'.cur i=g.cur i
 ty:F3 e.rds=false->∀i u y us,pQ (qH e.upd H) i=some (.cells u y us)->(∃x ts,pQ H i=some (.cells u x ts))\/(g.J i=none/\∀n,g.cur i n=none)
theorem rL.w {g:Gh}{w:pB}{H:rH}{e:q9}{g':Gh}{w':pB}{v:pC}(h:rL g w H e g' w' v):xG g w H e g' w' v:=⟨h.le,h.slot,h.heap,h.fr,h.perm,h.gho,fun _=>h.ty⟩
theorem N0 {w:pB}{B:Nat}{e:TypeId}{c n:Nat}{v:pC}{xs:p7}(h:w.ownsRow B e c v n xs) {b:Nat}(hb:v.ownBlock=some b):b<w.heap.size:=(h.lt b hb).2
theorem S6 {w:pB}{b o:Nat}{v:pC}(h:w.cell? ⟨b,o,none⟩=some v):b<w.heap.size:=by
 have:=World.block_lt_of_cell? w ⟨b,o,none⟩ h;exact this
theorem HK {g:Gh}{w:pB}{i:Nat}{blk:pM}(h:xW g w i blk) {b o:Nat}(ho:rK g i blk b o):b<w.heap.size:=by
 cases blk with
 |cells t x toks=>
  obtain⟨p,cs,hp,_,_,ht,_⟩:=h;obtain⟨q,hq,rfl,h1,h2⟩:=ho;rw[hp] at hq;obtain rfl:=aQH hq;have:=(ht.1 (o-p.2) oW).1;obtain⟨v,hv⟩:=aQF.1 this;exact S6 hv
 |grow e c n=>
  obtain⟨v,xs,hv,hr,_⟩:=h;obtain⟨v',hv',hb⟩:=ho;rw[hv] at hv';obtain rfl:=aQH hv';exact N0 hr hb
 |row e t l n=>
  obtain⟨_,v,xs,hv,hr,_⟩:=h;obtain⟨v',hv',hb⟩:=ho;rw[hv] at hv';obtain rfl:=aQH hv';exact N0 hr hb
 |map k v l=>
  obtain⟨p,es,cl,hp,_,hh,_,_⟩:=h;obtain⟨q,hq,rfl⟩:=ho;rw[hp] at hq;obtain rfl:=aQH hq;exact(aQ1.1 hh).1
 |iter s n=>
  obtain⟨p,hp,_,hh,_⟩:=h;obtain⟨q,hq,rfl⟩:=ho;rw[hp] at hq;obtain rfl:=aQH hq;exact(aQ1.1 hh).1
 |dead=>exact ho.elim
theorem a9L {g g':Gh}(hc: ∀k n v,g.cur k n=some v->g'.cur k n=some v) {t:Ty}{x:t.den}{cs:p7}{toks:p5}(h:DP g t x cs toks):DP g' t x cs toks:=
 fun o k hm=>let ⟨u,l,v,h1,h2,h3⟩:=h o k hm;⟨u,l,v,h1,h2,hc _ _ _ h3⟩
theorem JX {g g':Gh}{w w':pB}{i:Nat}{blk:pM}(h:xW g w i blk) (le:Le g w g' w') (hJ:g'.J i=g.J i) (hcur:g'.cur i=g.cur i)
  (hc: ∀b o,rK g i blk b o->w'.cell? ⟨b,o,none⟩=w.cell? ⟨b,o,none⟩/\w'.frozen? ⟨b,o,none⟩=w.frozen? ⟨b,o,none⟩)
  (hb: ∀b,(∀o,rK g i blk b o)->w'.heap[b]? =w.heap[b]?) (hS: ∀b o,rK g i blk b o->g'.S b o->g.S b o) (hsh: ∀b o s,rK g i blk b o->w.shape? b=some s->w'.shape? b=some s):xW g' w' i blk:=by
 cases blk with
 |cells t x toks=>
  obtain⟨p,cs,hp,hr,hra,ht,hs,htk⟩:=h;have ho: ∀j,j<t.cells->rK g i (.cells t x toks) p.1 (p.2+j):=fun j hj=>⟨p,hp,rfl,oW,oW⟩;refine⟨p,cs,hJ.trans hp,vU le hr,fun j v hv=> ?_,⟨fun j hj=> ?_,fun h0 s hs3=>hsh _ _ _ (ho 0 h0) (ht.2 h0 s hs3)⟩,fun j hj hs'=>hs j hj (hS _ _ (ho j hj) hs'),a9L le.cur htk⟩
  .have hj:j<t.cells:=s3 hr▸(aQP.1 hv).1;rw[(hc _ _ (ho j hj)).1];exact hra j v hv
  .rw[(hc _ _ (ho j hj)).1,(hc _ _ (ho j hj)).2];exact ht.1 j hj
 |grow e c n=>
  obtain⟨v,xs,hv,hr,hn,hs⟩:=h;have hbl: ∀b,v.ownBlock=some b->∀o,rK g i (.grow e c n) b o:=fun b hb o=>⟨v,hv,hb⟩;refine⟨v,xs,by rw[hcur];exact hv,⟨hr.1,?_⟩,fun m hm=>by rw[hcur];exact hn m hm,fun b hvb o hs'=>hs b hvb o (hS _ _ (hbl b hvb o) hs')⟩;rcases hr.2 with h0|⟨q,cap,cur,e1,e2,e3,e4⟩
  .exact .inl h0
  .subst e1;exact .inr ⟨q,cap,cur,rfl,e2,by rw[hb q (hbl q rfl)];exact e3,e4⟩
 |row e t l n=>
  obtain⟨hl,v,xs,hv,hr,hF,hn,hs⟩:=h;have hbl: ∀b,v.ownBlock=some b->∀o,rK g i (.row e t l n) b o:=fun b hb o=>⟨v,hv,hb⟩;refine⟨hl,v,xs,by rw[hcur];exact hv,⟨hr.1,?_⟩,AJ (fun _ _ h=>vU le h) hF,fun m hm=>by rw[hcur];exact hn m hm,fun b hvb o hs'=>hs b hvb o (hS _ _ (hbl b hvb o) hs')⟩;rcases hr.2 with h0|⟨q,cap,cur,e1,e2,e3,e4⟩
  .exact .inl h0
  .subst e1;exact .inr ⟨q,cap,cur,rfl,e2,by rw[hb q (hbl q rfl)];exact e3,e4⟩
 |map k v l=>
  obtain⟨p,es,cl,hp,h0,hh,hM,hs⟩:=h;have hbl: ∀o,rK g i (.map k v l) p.1 o:=fun o=>⟨p,hp,rfl⟩;exact⟨p,es,cl,hJ.trans hp,h0,(hb _ hbl).trans hh,WN le hM,fun o hs'=>hs o (hS _ _ (hbl o) hs')⟩
 |iter s n=>
  obtain⟨p,hp,h0,hh,hs⟩:=h;have hbl: ∀o,rK g i (.iter s n) p.1 o:=fun o=>⟨p,hp,rfl⟩;exact⟨p,hJ.trans hp,h0,(hb _ hbl).trans hh,fun o hs'=>hs o (hS _ _ (hbl o) hs')⟩
 |dead=>trivial
theorem xH {g g':Gh}{i:Nat}{blk:pM}(hJ:g'.J i=g.J i) (hcur:g'.cur i=g.cur i) {b o:Nat}:rK g' i blk b o↔rK g i blk b o:=by
 cases blk<;>simp [rK,hJ,hcur]
theorem zX {i:Nat}: ∀{u:List (Nat×pM)}{H:rH},i∉pS u->pQ (qH u H) i=pQ H i
 |[],_,_=>rfl
 |(k,b)::r,H,h=>by
  simp only[pS,aQV,not_or] at h;simp only[qH,pQ];rw[aQO (Ne.symm h.1)];exact zX h.2
theorem rR.upd {g g':Gh}{w w':pB}{H:rH}{u:List (Nat×pM)}(h:rR g w H) (le:Le g w g' w') (fr:Fr (s6 g H (pS u)) w w' g.S g'.S)
  (perm: ∀i blk b o,i∈pS u->pQ (qH u H) i=some blk->rK g' i blk b o->w.heap.size<=b\/s6 g H (pS u) b o)
  (gho: ∀i,i∉pS u->g'.J i=g.J i/\g'.cur i=g.cur i)
  (hb: ∀i blk,i∈pS u->pQ (qH u H) i=some blk->xW g' w' i blk)
  (hd: ∀i j bi bj b o,i∈pS u->j∈pS u->i≠j->pQ (qH u H) i=some bi->pQ (qH u H) j=some bj->rK g' i bi b o->rK g' j bj b o->False)
  (sl: ∀b o,g'.S b o->b<w'.heap.size):rR g' w' (qH u H):=by
 have out: ∀i blk,i∉pS u->pQ H i=some blk->∀b o,rK g i blk b o->b<w.heap.size/\¬s6 g H (pS u) b o:=fun i blk hi hg b o ho=>
  ⟨HK (h.blk i blk hg) ho,fun⟨j,bj,hj,hgj,hoj⟩=>h.dis i j blk bj b o (fun e=>hi (e▸hj)) hg hgj ho hoj⟩
 refine⟨fun i blk hg=> ?_,fun i j bi bj b o hij hgi hgj hoi hoj=> ?_,sl,GX h.tab.1 fr.size (fun b hb=>fr.blk b (aRh hb h.tab.1.1) (fun o ⟨j,bj,_,k1,k2⟩=>Nat.not_lt.2 (h.tab.2 j bj b o k1 k2) hb)),fun i blk b o hg ho=> ?_⟩
 rotate_right
 .by_cases hi:i∈pS u
  .rcases perm i blk b o hi hg ho with h1|⟨j,bj,_,k1,k2⟩
   .exact aRs h.tab.1.1 h1
   .exact h.tab.2 j bj b o k1 k2
  .exact h.tab.2 i blk b o ((zX hi).symm.trans hg) ((xH (gho i hi).1 (gho i hi).2).1 ho)
 .by_cases hi:i∈pS u
  .exact hb i blk hi hg
  .have hg0:=(zX hi).symm.trans hg;have hk:=gho i hi;refine JX (h.blk i blk hg0) le hk.1 hk.2 (fun b o ho=> ?_) (fun b ho=> ?_) (fun b o ho hs=> ?_) (fun b o s ho hs=>(fr.shape b s hs).resolve_right fun h1=>(out i blk hi hg0 b o ho).2 (h1 o))
   .exact fr.cell b o (out i blk hi hg0 b o ho).1 (out i blk hi hg0 b o ho).2
   .exact fr.blk b (out i blk hi hg0 b 0 (ho 0)).1 (fun o=>(out i blk hi hg0 b o (ho o)).2)
   .rcases fr.new b o hs with h1|h1|h1
    .exact h1
    .have:=(out i blk hi hg0 b o ho).1;omega
    .exact absurd h1 (out i blk hi hg0 b o ho).2
 .by_cases hi:i∈pS u<;>by_cases hj:j∈pS u
  .exact hd i j bi bj b o hi hj hij hgi hgj hoi hoj
  .have hg0:=(zX hj).symm.trans hgj;have ho0:=(xH (gho j hj).1 (gho j hj).2).1 hoj;rcases perm i bi b o hi hgi hoi with h1|h1
   .have:=(out j bj hj hg0 b o ho0).1;omega
   .exact(out j bj hj hg0 b o ho0).2 h1
  .have hg0:=(zX hi).symm.trans hgi;have ho0:=(xH (gho i hi).1 (gho i hi).2).1 hoi;rcases perm j bj b o hj hgj hoj with h1|h1
   .have:=(out i bi hi hg0 b o ho0).1;omega
   .exact(out i bi hi hg0 b o ho0).2 h1
  .exact h.dis i j bi bj b o hij ((zX hi).symm.trans hgi) ((zX hj).symm.trans hgj) ((xH (gho i hi).1 (gho i hi).2).1 hoi) ((xH (gho j hj).1 (gho j hj).2).1 hoj)
theorem rL.pure {g:Gh}{w:pB}{H:rH}{side:List Prop}{s:pN}{rds:pA}{v:pC}(h:rR g w H) (hs:rD g w s v):rL g w H ⟨side,s,[],rds⟩ g w v:=
 ⟨.refl _ _,hs,h,.refl _ _ _,fun _ _ _ _ hi=>(by cases hi),fun _ _=>⟨rfl,rfl⟩,fun _ _ y us h=> .inl ⟨y,us,h⟩⟩
theorem xG.pure {g:Gh}{w:pB}{H:rH}{side:List Prop}{s:pN}{rds:pA}{v:pC}(h:rR g w H) (hs:rD g w s v):xG g w H ⟨side,s,[],rds⟩ g w v:=(rL.pure h hs).w
def sX:Ty->p7
 | .bool=>[.bool false]
 | .int k=>[.int k 0]
 | .str=>[.string ⟨#[]⟩]
 | .list _=>[.slice none 0 0]
 | .unit=>[]
 | .pair a b=>sX a++sX b
 | .ref=>[.pointer none]
 | .clo=>[.nilFunc]
 | .mp=>[.map none]
 | .rl _ _=>[.slice none 0 0]
 | .fn=>[.nilFunc]
 | .mref=>[.pointer none]
def uS (t:Ty):pC:=if t.isRow then .agg (sX t).toArray else(sX t).headD undef
def JY (P:Program):Ty->Nat->List Field->Prop
 | .unit,_,[]=>True
 | .pair a b,o,f::r=>f.offset=o/\(P.info? f.type).map (·.size)=some a.cells/\(P.underlying f.type).map (·.isRow)=some a.isRow/\JY P b (o+a.cells) r
 |_,_,_=>False
def N1 (P:Program) (e:TypeId):Ty->Nat->Prop
 | .unit,0=>True
 | .pair a b,n+1=>(P.info? e).map (·.size)=some a.cells/\(P.underlying e).map (·.isRow)=some a.isRow/\N1 P e b n
 |_,_=>False
inductive WO where
 |ty (t:TypeId) |fs (o:Nat) (l:List Field) |el (e:TypeId) (i m:Nat)
inductive wR (P:Program):Nat->WO->Ty->Prop
 |bool {h t}:P.underlying t=some .bool->wR P h (.ty t) .bool
 |int {h t k}:P.underlying t=some (.int k)->wR P h (.ty t) (.int k)
 |str {h t}:P.underlying t=some .string->wR P h (.ty t) .str
 |struct {h t fs ty}:ty.isRow=true->P.underlying t=some (.struct fs)->P.stoodInHeld t=false->wR P h (.fs 0 fs.toList) ty->wR P (h+1) (.ty t) ty
 |arr {h t e n ty}:ty.isRow=true->P.underlying t=some (.array n e)->(P.info? e).isSome=true->wR P h (.el e 0 n) ty->wR P (h+1) (.ty t) ty
 |nil {h o}:wR P h (.fs o []) .unit
 |cons {h o}{f:Field}{r a b}:f.name≠ "_" ->f.offset=o->(P.info? f.type).map (·.size)=some a.cells->(P.underlying f.type).map (·.isRow)=some a.isRow->wR P h (.ty f.type) a->wR P h (.fs (o+a.cells) r) b->wR P h (.fs o (f::r)) (.pair a b)
 |anil {h e i}:wR P h (.el e i 0) .unit
 |acons {h e i m a b}:(P.info? e).map (·.size)=some a.cells->(P.underlying e).map (·.isRow)=some a.isRow->wR P h (.ty e) a->wR P h (.el e (i+1) m) b->wR P h (.el e i (m+1)) (.pair a b)
def wJ (P:Program) (t:TypeId) (ti:TI):Prop:=
 match ti.ty with
 | .bool=>P.underlying t=some .bool
 | .int k=>P.underlying t=some (.int k)
 | .str=>P.underlying t=some .string
 | .ref=> ∃e,P.underlying t=some (.pointer e)
 | .clo=> ∃a b c,P.underlying t=some (.func a b c)
 | .mp=>P.underlying t=some (.map ti.elem ti.bytes)
 | .rl _ _=> ∃e,P.underlying t=some (.slice e)
 | .fn=> ∃a b c,P.underlying t=some (.func a b c)
 | .mref=> ∃e,P.underlying t=some (.pointer e)
 | .list u=>P.underlying t=some (.slice ti.elem)/\(P.info? ti.elem).map (fun i=>(i.size,i.bytes,i.zero))=some (u.cells,ti.bytes,some (uS u))/\(P.underlying ti.elem).map (·.isRow)=some u.isRow
 |ty=>((ti.arr=false/\∃fs,P.underlying t=some (.struct fs)/\JY P ty 0 fs.toList)\/(ti.arr=true/\∃n e,P.underlying t=some (.array n e)/\N1 P e ty n/\(P.info? e).isSome=true))/\(ti.bytes=1->P.eqGuardType P.depth t=false/\∃h,h<9000/\wR P h (.ty t) ty)
def sO (P:Program) (t:TypeId) (ti:TI):Prop:=(P.info? t).map (fun i=>(i.size,i.zero))=some (ti.ty.cells,some (uS ti.ty))/\wJ P t ti
def vK (P:Program):rW->Prop
 |[]=>True
 |(t,ti)::r=>sO P t ti/\vK P r
theorem sI {P:Program}: ∀{T:rW},vK P T->∀{t:TypeId}{ti:TI},rE T t=some ti->sO P t ti
 |[],_,_,_,h=>by simp [rE] at h
 |(k,ti)::r,hT,t,ti',h=>by
  simp only[rE] at h;by_cases hk:k=t
  .rw[aQI hk] at h;subst hk;rw[<-aQH h];exact hT.1
  .rw[aQO hk] at h;exact sI hT.2 h
theorem BD (g:Gh) (w:pB): ∀t:Ty,Rd g w t t.zero (sX t)
 | .bool=>rfl
 | .int _=>rfl
 | .str=>rfl
 | .list _=>⟨none,0,rfl,aQ4 _,.inl rfl⟩
 | .unit=>rfl
 | .pair a b=>⟨_,_,rfl,BD g w a,BD g w b⟩
 | .ref=>rfl
 | .clo=>rfl
 | .mp=>rfl
 | .rl _ _=>rfl
 | .fn=>rfl
 | .mref=>rfl
theorem HL (g:Gh) (w:pB) (t:Ty):sM g w t t.zero (uS t):=by
 unfold sM uS;by_cases h:t.isRow=true
 .left;rw[aQI h];exact⟨h,_,rfl,BD g w t⟩
 .right;rw[aQO h];refine⟨by simpa using h,?_⟩;cases t<;>first|exact BD g w _|(simp [Ty.isRow] at h)
theorem CI {g:Gh}{w:pB}{t:Ty}{x:t.den}{v:pC}(h:sM g w t x v):Rd g w t x v.cells.toList:=by
 rcases h with⟨_,cs,rfl,r⟩ |⟨hr,r⟩
 .simpa[Value.cells] using r
 .have h1:=yH r v oY;have:v.cells= #[v]:=by cases v<;>first|rfl|(simp [Value.oneCell'] at h1)
  rw[this];exact r
theorem yI {g:Gh}{w:pB}{t:Ty}{x:t.den}{v:pC}(hr:t.isRow=false) (h:sM g w t x v):Rd g w t x [v]:=by
 rcases h with⟨h1,_⟩ |⟨_,r⟩
 .rw[hr] at h1;cases h1
 .exact r
theorem uT {g:Gh}{w:pB}{k:IntKind}{n:Int}{v:pC}(h:sM g w (.int k) n v):v= .int k n:=by
 have:=yI rfl h;simp only[Rd,aRq,and_true] at this;exact this
theorem uI {g:Gh}{w:pB}{n:Bool}{v:pC}(h:sM g w .bool n v):v= .bool n:=by
 have:=yI rfl h;simp only[Rd,aRq,and_true] at this;exact this
theorem uZ {g:Gh}{w:pB}{l:oT}{v:pC}(h:sM g w .str l v):v= .string ⟨l.toArray⟩:=by
 have:=yI rfl h;simp only[Rd,aRq,and_true] at this;exact this
theorem AK {g:Gh}{w:pB}{t:Ty}{l:List t.den}{v:pC}(h:sM g w (.list t) l v): ∃a cap,v= .slice a l.length cap/\l.length<=cap/\(l=[]\/∃b o,a=some ⟨b,o,none⟩/\wQ (Rd g w t) w g.S t.cells b o l):=by
 have:=yI rfl h;obtain⟨a,cap,e,h1,h2⟩:=this;simp only[aRq,and_true] at e;exact⟨a,cap,e,h1,h2⟩
theorem xI {g:Gh}{w:pB}{i o:Nat}{v:pC}(h:sM g w .ref (some (i,o)) v): ∃p,g.J i=some p/\v= .pointer (some ⟨p.1,p.2+o,none⟩):=by
 have:=yI rfl h;obtain⟨p,h1,e⟩:=this;simp only[aRq,and_true] at e;exact⟨p,h1,e⟩
theorem HM {g:Gh}{w:pB}{t:Ty}{x:t.den}{v:pC}(hr:t.isRow=true) (h:sM g w t x v): ∃cs:p7,v= .agg cs.toArray/\Rd g w t x cs:=by
 rcases h with⟨_,r⟩ |⟨h1,_⟩
 .exact r
 .rw[hr] at h1;cases h1
theorem uU (g:Gh) (w:pB) (k:IntKind) (n:Int):sM g w (.int k) n (.int k n):= .inr ⟨rfl,rfl⟩
theorem v6 (g:Gh) (w:pB) (b:Bool):sM g w .bool b (.bool b):= .inr ⟨rfl,rfl⟩
theorem yX (g:Gh) (w:pB) (l:oT):sM g w .str l (.string ⟨l.toArray⟩):= .inr ⟨rfl,rfl⟩
def r7 (P:Program) (o:Oper) (a:Act) (g:Gh) (w:pB) (H:rH) (e:q9):Prop:=
 ∀(K:Act->pB->Prop) (Q:Exit->Act->pB->Prop),(∀g' w' v,xG g w H e g' w' v->K (a.put o.dst v) w')->o.wp P a w K Q
theorem r7.valueW {P:Program}{o:Oper}{a:Act}{g g':Gh}{w w':pB}{H:rH}{e:q9}{v:pC}(hr:(execOp a.eval o).run P w= .ok (.value v) w') (h:xG g w H e g' w' v):r7 P o a g w H e:=by
 intro K Q hK;unfold Oper.wp;rw[hr];exact hK g' w' v h
theorem r7.skipW {P:Program}{o:Oper}{a:Act}{g g':Gh}{w w':pB}{H:rH}{e:q9}(hr:(execOp a.eval o).run P w= .ok .skip w') (h:xG g w H e g' w' undef):r7 P o a g w H e:=by
 intro K Q hK;unfold Oper.wp;rw[hr];exact hK g' w' undef h
theorem r7.value {P:Program}{o:Oper}{a:Act}{g g':Gh}{w w':pB}{H:rH}{e:q9}{v:pC}(hr:(execOp a.eval o).run P w= .ok (.value v) w') (h:rL g w H e g' w' v):r7 P o a g w H e:= .valueW hr h.w
theorem r7.skip {P:Program}{o:Oper}{a:Act}{g g':Gh}{w w':pB}{H:rH}{e:q9}(hr:(execOp a.eval o).run P w= .ok .skip w') (h:rL g w H e g' w' undef):r7 P o a g w H e:= .skipW hr h.w
theorem r7.pure {P:Program}{o:Oper}{a:Act}{g:Gh}{w:pB}{H:rH}{side:List Prop}{d:DV}{rds:pA}{v:pC}(hH:rR g w H) (hr:(execOp a.eval o).run P w= .ok (.value v) w) (h:xV g w d v):
  r7 P o a g w H ⟨side,(d,none),[],rds⟩:= .value hr (.pure hH ⟨h,trivial⟩)
section
variable {P:Program}{o:Oper}{a:Act}{g:Gh}{w:pB}{H:rH}
theorem S7 {g:Gh}{w:pB}{k:IntKind}(q:Int) (hq: ∀p∈(GY k q).1,p):xV g w (GY k q).2 (.int k (k.wrap q)):=by
 cases k<;>simp only[GY] at hq|- <;>first|exact uU _ _ _ _|skip
 have h0:=hq _ (aQ2.2 rfl);rw[show IntKind.i64.wrap q=q from IntWalk.i64_in q oW];exact uU _ _ _ _
theorem aId (g:Gh) {op:BinOp}{xt:TypeId}{x y:Operand}{k:IntKind}{m n:Int}{r:List Prop×DV}(hr:V4 k m n op=some r) (hs: ∀p∈r.1,p):
  ∃v,(do eqGuard op xt x y (.int k m) (.int k n);Go.binOp op xt (.int k m) (.int k n):Sem pC).run P w= .ok v w/\xV g w r.2 v:=by
 cases op<;>simp only[V4,aQE,reduceCtorEq] at hr
 all_goals subst hr
 case add=>exact⟨.int k (k.wrap _),by simp [eqGuard,Go.binOp,Op.intArith],S7 _ hs⟩
 case sub=>exact⟨.int k (k.wrap _),by simp [eqGuard,Go.binOp,Op.intArith],S7 _ hs⟩
 case mul=>exact⟨.int k (k.wrap _),by simp [eqGuard,Go.binOp,Op.intArith],S7 _ hs⟩
 case eql=>exact⟨.bool (decide (m=n)),by simp [eqGuard,Go.binOp,Op.intCmp];rfl,v6 _ _ _⟩
 case neq=>exact⟨.bool (!decide (m=n)),by simp [eqGuard,Go.binOp,Op.intCmp,bne];rfl,v6 _ _ _⟩
 case lss=>exact⟨.bool (decide _),by simp [eqGuard,Go.binOp,Op.intCmp],v6 _ _ _⟩
 case leq=>exact⟨.bool (decide _),by simp [eqGuard,Go.binOp,Op.intCmp],v6 _ _ _⟩
 case gtr=>exact⟨.bool (decide (n<m)),by simp [eqGuard,Go.binOp,Op.intCmp],v6 _ _ _⟩
 case geq=>exact⟨.bool (decide (n<=m)),by simp [eqGuard,Go.binOp,Op.intCmp],v6 _ _ _⟩
 case quo=>
  have h0:=hs _ (aQ2.2 rfl);exact⟨.int k (k.wrap (Int.tdiv m n)),by simp [eqGuard,Go.binOp,Op.intDiv,h0],uU _ _ _ _⟩
 case rem=>
  have h0:=hs _ (aQ2.2 rfl);exact⟨.int k (Int.tmod m n),by simp [eqGuard,Go.binOp,Op.intDiv,h0],uU _ _ _ _⟩
 case and=>exact⟨.int k (bits .and k m n),by simp [eqGuard,Go.binOp,intBits_and],uU _ _ _ _⟩
 case or=>exact⟨.int k (bits .or k m n),by simp [eqGuard,Go.binOp,intBits_or],uU _ _ _ _⟩
 case xor=>exact⟨.int k (bits .xor k m n),by simp [eqGuard,Go.binOp,intBits_xor],uU _ _ _ _⟩
 case andNot=>exact⟨.int k (bits .andNot k m n),by simp [eqGuard,Go.binOp,intBits_andNot],uU _ _ _ _⟩
theorem N2 (m n:oT):(m==n)=decide (m=n):=by rw[aR7];simp
theorem aIe (g:Gh) {op:BinOp}{xt:TypeId}{x y:Operand}{m n:oT}{r:List Prop×DV}(hr:V6 m n op=some r) (hs: ∀p∈r.1,p):
  ∃v,(do eqGuard op xt x y (.string ⟨m.toArray⟩) (.string ⟨n.toArray⟩);Go.binOp op xt (.string ⟨m.toArray⟩) (.string ⟨n.toArray⟩):Sem pC).run P w= .ok v w/\xV g w r.2 v:=by
 have hl: ∀l:oT,(⟨l.toArray⟩:ByteArray).size=l.length:=fun l=>by simp [ByteArray.size]
 cases op<;>simp only[V6,aQE,reduceCtorEq] at hr
 all_goals subst hr
 case add=>
  have h0:=hs _ (aQ2.2 rfl);refine⟨.string ⟨(m++n).toArray⟩,?_,yX _ _ _⟩;rw[aQG] at h0;have h1: ¬(((⟨m.toArray⟩:ByteArray).size+(⟨n.toArray⟩:ByteArray).size:Nat):Int) >IntKind.i64.max:=by rw[hl,hl,show IntKind.i64.max=9223372036854775807 from by decide];omega
  simp only[eqGuard,Go.binOp,Op.stringOp,aQS,aQO h1];simp;rfl
 case eql=>exact⟨.bool (decide (m=n)),by simp [eqGuard,Go.binOp,Op.stringOp,N2],v6 _ _ _⟩
 case neq=>exact⟨.bool (!decide (m=n)),by simp [eqGuard,Go.binOp,Op.stringOp,N2],v6 _ _ _⟩
 case lss=>exact⟨.bool (Op.bytesLess m n),by simp [eqGuard,Go.binOp,Op.stringOp],v6 _ _ _⟩
 case leq=>exact⟨.bool (Op.bytesLess m n||decide (m=n)),by simp [eqGuard,Go.binOp,Op.stringOp,N2],v6 _ _ _⟩
 case gtr=>exact⟨.bool (!(Op.bytesLess m n||decide (m=n))),by simp [eqGuard,Go.binOp,Op.stringOp,N2],v6 _ _ _⟩
 case geq=>exact⟨.bool (!Op.bytesLess m n),by simp [eqGuard,Go.binOp,Op.stringOp],v6 _ _ _⟩
theorem FH {r:Option (List Prop×DV)}{e:q9}(h:yA r=some e): ∃q,r=some q/\e=⟨q.1,(q.2,none),[],[]⟩:=by
 cases r with
 |none=>cases h
 |some q=>obtain⟨p,d⟩:=q;exact⟨(p,d),rfl,(aQH h).symm⟩
theorem aIf (hH:rR g w H) {op:BinOp}{xt yt:TypeId}{x y:Operand}(ho:o.op= .binOp op xt x y yt) {sx sy:pN}(hx:rD g w sx (a.eval x)) (hy:rD g w sy (a.eval y)) {e:q9}
  (hr:yA (QK op sx sy)=some e) (hs: ∀p∈e.side,p):r7 P o a g w H e:=by
 obtain⟨q,hq,rfl⟩:=FH hr;have go: ∀{u v:pC},a.eval x=u->a.eval y=v->(∃z,(do eqGuard op xt x y u v;Go.binOp op xt u v:Sem pC).run P w= .ok z w/\xV g w q.2 z)->r7 P o a g w H ⟨q.1,(q.2,none),[],[]⟩:=by
  rintro u v rfl rfl ⟨z,hz,hd⟩;refine r7.pure hH (v:=z) ?_ hd;unfold execOp;rw[ho];simp only[aQS,aQ6] at hz|-;rw[hz];rfl
 obtain⟨dx,kx⟩:=sx;obtain⟨dy,ky⟩:=sy;replace hx:=hx.1;replace hy:=hy.1;unfold QK at hq;split at hq
 .rename_i k m k1 k' n k2 e1 e2;simp only[aRc] at e1 e2;obtain⟨rfl,-⟩:=e1;obtain⟨rfl,-⟩:=e2;unfold a8W at hq;split at hq
  .cases hq;have h0:=hs _ (aQ2.2 rfl);exact go (uT hx) (uT hy) ⟨.int k (V5 k m n),by simp [eqGuard,Go.binOp,Op.shift,V5,Int.not_lt.2 h0],uU _ _ _ _⟩
  .cases hq;have h0:=hs _ (aQ2.2 rfl);exact go (uT hx) (uT hy) ⟨.int k (yB k m n),by simp [eqGuard,Go.binOp,Op.shift,yB,Int.not_lt.2 h0],uU _ _ _ _⟩
  .by_cases hk:k=k'
   .subst hk;rw[aQI rfl] at hq;exact go (uT hx) (uT hy) (aId g hq hs)
   .rw[aQO hk] at hq;cases hq
 .rename_i m k1 n k2 e1 e2;simp only[aRc] at e1 e2;obtain⟨rfl,-⟩:=e1;obtain⟨rfl,-⟩:=e2;exact go (uZ hx) (uZ hy) (aIe g hq hs)
 .cases hq
theorem aIg (hH:rR g w H) {op:BinOp}{xt yt:TypeId}{x y:Operand}(ho:o.op= .binOp op xt x y yt) {ti:Option TI}{sx sy:pN}(hx:rD g w sx (a.eval x)) (hy:rD g w sy (a.eval y)) {e:q9}
  (hr:yA (QL op ti sx sy)=some e):r7 P o a g w H e:=by
 obtain⟨q,hq,rfl⟩:=FH hr;unfold QL at hq;split at hq
 .rename_i k m _ k' n _;by_cases hk:k=k'
  .subst hk;rw[aQI rfl] at hq;have hx1:=uT hx.1;have hy1:=uT hy.1;cases op<;>simp only[a8Y,aQE,reduceCtorEq] at hq
   all_goals subst hq
   all_goals refine r7.pure hH (v:= .int k (k.wrap _)) ?_ (uU _ _ _ _)
   all_goals
    unfold execOp;rw[ho];simp [hx1,hy1,eqGuard,Go.binOp,Op.intArith]
  .rw[aQO hk] at hq;cases hq
 .cases hq
theorem aIh (hH:rR g w H) {op:UnOp}{xt:TypeId}{x:Operand}(ho:o.op= .unOp op xt x) {sx:pN}(hx:rD g w sx (a.eval x)) {e:q9}
  (hr:yA (V9 op sx)=some e) (hs: ∀p∈e.side,p):r7 P o a g w H e:=by
 obtain⟨q,hq,rfl⟩:=FH hr;replace hx:=hx.1;unfold V9 at hq;split at hq
 .have:=uI hx;cases hq;refine r7.pure hH (v:= .bool _) ?_ (v6 _ _ _);simp [execOp,ho,this,Op.unary]
 .rename_i k n _;have:=uT hx;cases hq;refine r7.pure hH (v:= .int k (k.wrap (-n))) ?_ (S7 _ hs);simp [execOp,ho,this,Op.unary,Op.intArith]
 .cases hq
theorem S8 {t:TypeId}{ti:TI}(h:sO P t ti): ∃d,P.underlying t=some d/\d.isRow=ti.ty.isRow:=by
 have h2:=h.2;unfold wJ at h2;obtain⟨ty,el,by',ar,ls⟩:=ti;cases ty<;>simp only at h2
 case bool=>exact⟨_,h2,rfl⟩
 case int=>exact⟨_,h2,rfl⟩
 case str=>exact⟨_,h2,rfl⟩
 case list=>exact⟨_,h2.1,rfl⟩
 case ref=>obtain⟨e,h⟩:=h2;exact⟨_,h,rfl⟩
 case clo=>obtain⟨a,b,c,h⟩:=h2;exact⟨_,h,rfl⟩
 case mp=>exact⟨_,h2,rfl⟩
 case rl=>obtain⟨e,h⟩:=h2;exact⟨_,h,rfl⟩
 case fn=>obtain⟨a,b,c,h⟩:=h2;exact⟨_,h,rfl⟩
 case mref=>obtain⟨e,h⟩:=h2;exact⟨_,h,rfl⟩
 all_goals
  rcases h2.1 with⟨_,fs,h,_⟩ |⟨_,n,e,h,_⟩
  .exact⟨_,h,rfl⟩
  .exact⟨_,h,rfl⟩
theorem BE {t:TypeId}{ti:TI}(h:sO P t ti): ∃i,P.info? t=some i/\i.size=ti.ty.cells/\i.zero=some (uS ti.ty):=by
 obtain⟨i,hi,he⟩:=aQQ.1 h.1;simp only[aRc] at he;exact⟨i,hi,he.1,he.2⟩
theorem aIi {T:rW}(hT:vK P T) (hH:rR g w H) {st dt:TypeId}{x:Operand}(ho:o.op= .convert st dt x) {sx:pN}(hx:rD g w sx (a.eval x)) {e:q9}
  (hr:yA (QN (rE T st) (rE T dt) sx)=some e):r7 P o a g w H e:=by
 obtain⟨q,hq,rfl⟩:=FH hr;replace hx:=hx.1;generalize hs:rE T st=os at hq;generalize hd:rE T dt=od at hq;unfold QN at hq;split at hq
 .rename_i k' k _ _ _ _ k0 n _;obtain⟨d,hd1,_⟩:=S8 (sI hT hs);have hd2:=(sI hT hd).2;simp only[wJ] at hd2;have:=uT hx;cases hq;refine r7.pure hH (v:= .int k (k.wrap n)) ?_ (uU _ _ _ _);simp [execOp,ho,this,Go.convert,aQX hd1,aQX hd2,Conv.intToInt]
 .rename_i k' _ _ _ _ s _;obtain⟨d,hd1,_⟩:=S8 (sI hT hs);have hd2:=(sI hT hd).2;simp only[wJ] at hd2;have:=uZ hx;cases hq;refine r7.pure hH (v:= .string ⟨List.toArray s⟩) ?_ (yX _ _ _);simp [execOp,ho,this,Go.convert,aQX hd1,aQX hd2]
 .cases hq
theorem JZ {α:Type}{R:α->p7->Prop}{w:pB}{S:Nat->Nat->Prop}{c b:Nat}: ∀{l:List α}{o i:Nat}{x:α},wQ R w S c b o l->l[i]? =some x->
  ∃cs,cs.length=c/\w.rangeAt b (o+i*c) cs/\(∀j,j<c->S b (o+i*c+j))/\R x cs
 |y::l,o,0,x,⟨⟨cs,h1,h2,h3,h4⟩,_⟩,h=>by
  simp only[aQ8,aQE] at h;subst h;exact⟨cs,h1,by simpa using h2,by simpa using h3,h4⟩
 |y::l,o,i+1,x,⟨_,h5⟩,h=>by
  simp only[aRi] at h;obtain⟨cs,h1,h2,h3,h4⟩:=JZ h5 h;have e:o+c+i*c=o+(i+1)*c:=by rw[aRB];omega
  exact⟨cs,h1,by rw[<-e];exact h2,by rw[<-e];exact h3,h4⟩
theorem a9M {α:Type}{R:α->p7->Prop}{w:pB}{S:Nat->Nat->Prop}{c b:Nat}: ∀{l:List α}{o:Nat}(i:Nat),wQ R w S c b o l->i<=l.length->wQ R w S c b (o+i*c) (l.drop i)
 |_,o,0,h,_=>by simpa using h
 |[],o,i+1,_,h=>by simp at h
 |y::l,o,i+1,⟨_,h5⟩,h=>by
  have:=a9M i h5 (by simpa using h);have e:o+c+i*c=o+(i+1)*c:=by rw[aRB];omega
  rw[<-e];simpa using this
theorem a9N {α:Type}{R:α->p7->Prop}{w:pB}{S:Nat->Nat->Prop}{c b:Nat}: ∀{l:List α}{o:Nat}(i:Nat),wQ R w S c b o l->wQ R w S c b o (l.take i)
 |_,_,0,_=>by simp [wQ]
 |[],_,_+1,_=>by simp [wQ]
 |_::_,_,i+1,⟨h,h5⟩=>by simpa[wQ] using⟨h,a9N i h5⟩
theorem WP {g:Gh}{w:pB}: ∀{t:Ty}{x:t.den}{cs:p7}{f:Nat}{u:Ty}{y:u.den},Rd g w t x cs->t.proj x f=some ⟨u,y⟩->
  ∃o c1 c2 c3,t.offs f=some o/\t.fld f=some u/\cs=c1++c2++c3/\c1.length=o/\Rd g w u y c2:=by
 intro t
 induction t with
 |pair a b _ ihb=>
  intro x cs f u y r h;obtain⟨c1,c2,e,r1,r2⟩:=r;cases f with
  |zero=>
   simp only[Ty.proj,aQE,Sigma.mk.injEq] at h;obtain⟨rfl,h2⟩:=h;obtain rfl:=eq_of_heq h2;exact⟨0,[],c1,c2,rfl,rfl,by simpa using e,rfl,r1⟩
  |succ f=>
   simp only[Ty.proj] at h;obtain⟨o,d1,d2,d3,h1,h2,h3,h4,h5⟩:=ihb r2 h;refine⟨a.cells+o,c1++d1,d2,d3,by simp [Ty.offs,h1],by simpa[Ty.fld] using h2,by rw[e,h3];simp,?_,h5⟩;rw[aQG,h4,s3 r1]
 |_=>intro x cs f u y r h;cases f<;>simp [Ty.proj] at h
theorem WQ {P:Program}: ∀{ty:Ty}{off:Nat}{fs:List Field}{f o:Nat}{u:Ty},JY P ty off fs->ty.offs f=some o->ty.fld f=some u->
  ∃fd,fs[f]? =some fd/\fd.offset=off+o/\(P.info? fd.type).map (·.size)=some u.cells/\(P.underlying fd.type).map (·.isRow)=some u.isRow:=by
 intro ty
 induction ty with
 |pair a b _ ihb=>
  intro off fs f o u h ho hu;cases fs with
  |nil=>exact h.elim
  |cons fd fs=>
   obtain⟨h1,h2,h3,h4⟩:=h;cases f with
   |zero=>
    simp only[Ty.offs,aQE] at ho;simp only[Ty.fld,aQE] at hu;subst ho;subst hu;exact⟨fd,rfl,oW,h2,h3⟩
   |succ f=>
    simp only[Ty.offs,aQQ] at ho;obtain⟨o',ho',rfl⟩:=ho;obtain⟨fd',k1,k2,k3,k4⟩:=ihb h4 ho' hu;exact⟨fd',by simpa using k1,oW,k3,k4⟩
 |_=>intro off fs f o u h ho hu;cases f<;>simp [Ty.offs] at ho
theorem WR {P:Program}{e:TypeId}: ∀{ty:Ty}{n f o:Nat}{u:Ty},N1 P e ty n->ty.offs f=some o->ty.fld f=some u->
  f<n/\(P.info? e).map (·.size)=some u.cells/\(P.underlying e).map (·.isRow)=some u.isRow/\o=f*u.cells:=by
 intro ty
 induction ty with
 |pair a b _ ihb=>
  intro n f o u h ho hu;cases n with
  |zero=>exact h.elim
  |succ n=>
   obtain⟨h2,h3,h4⟩:=h;cases f with
   |zero=>
    simp only[Ty.offs,aQE] at ho;simp only[Ty.fld,aQE] at hu;subst ho;subst hu;exact⟨oW,h2,h3,by simp⟩
   |succ f=>
    simp only[Ty.offs,aQQ] at ho;obtain⟨o',ho',rfl⟩:=ho;obtain⟨k1,k2,k3,k4⟩:=ihb h4 ho' hu;rw[h2] at k2;have hc:a.cells=u.cells:=aQH k2;exact⟨oW,by rw[h2,hc],k3,by rw[k4,hc,aRB];omega⟩
 |_=>intro n f o u h ho hu;cases f<;>simp [Ty.offs] at ho
theorem N3 {t:TypeId}{u:Ty}(hi:(P.info? t).map (·.size)=some u.cells) (hr:(P.underlying t).map (·.isRow)=some u.isRow) {y:u.den}{c1 c2 c3:p7}(h:Rd g w u y c2):
  ∃v,(part t (c1++c2++c3).toArray c1.length).run P w= .ok v w/\sM g w u y v:=by
 obtain⟨i,hi,hsz⟩:=aQQ.1 hi;obtain⟨d,hd,hrow⟩:=aQQ.1 hr;have hl:=s3 h;by_cases hu:u.isRow=true
 .refine⟨.agg c2.toArray,?_,.inl ⟨hu,c2,rfl,h⟩⟩;have hagg:(isAgg t).run P w= .ok true w:=by
   unfold isAgg;rw[aQS,aQX hd w];rw[hu] at hrow;cases d<;>simp_all [TypeDesc.isRow]
  simp only[part,aQS,hagg,aQK,aR4,sizeOf,typeInfo,aRu,hi,hsz,aQ6];congr 2;apply aRA.1;simp [<-hl]
 .have hu':u.isRow=false:=by simpa using hu
  have h1:u.cells=1:=by cases u<;>first|rfl|(simp [Ty.isRow] at hu')
  obtain⟨v,rfl⟩: ∃v,c2=[v]:=by
   rw[h1] at hl;exact aRR.1 hl
  refine⟨v,?_,.inr ⟨hu',h⟩⟩;have hagg:(isAgg t).run P w= .ok false w:=by
   unfold isAgg;rw[aQS,aQX hd w];rw[hu'] at hrow;cases d<;>simp_all [TypeDesc.isRow]
  simp only[part,aQS,hagg,aQK];simp
theorem WS {t:TypeId}{ti:TI}(h:sO P t ti) (hr:ti.ty.isRow=true):
  (ti.arr=false/\∃fs,P.underlying t=some (.struct fs)/\JY P ti.ty 0 fs.toList)\/(ti.arr=true/\∃n e,P.underlying t=some (.array n e)/\N1 P e ti.ty n/\(P.info? e).isSome=true):=by
 have h2:=h.2;unfold wJ at h2;obtain⟨ty,el,by',ar,ls⟩:=ti;cases ty<;>simp only[Ty.isRow,aSg] at hr<;>exact h2.1
theorem a9O {t:TypeId}{ti:TI}(h:sO P t ti) (hr:ti.ty.isRow=true) (ha:ti.arr=false): ∃fs,P.underlying t=some (.struct fs)/\JY P ti.ty 0 fs.toList:=by
 rcases WS h hr with⟨_,h⟩ |⟨h,_⟩
 .exact h
 .rw[ha] at h;cases h
theorem a9P {t:TypeId}{ti:TI}(h:sO P t ti) (hr:ti.ty.isRow=true) (ha:ti.arr=true): ∃n e,P.underlying t=some (.array n e)/\N1 P e ti.ty n/\(P.info? e).isSome=true:=by
 rcases WS h hr with⟨h,_⟩ |⟨_,h⟩
 .rw[ha] at h;cases h
 .exact h
theorem aIj {t:Ty}{x:t.den}{f:Nat}{q: Σ u:Ty,u.den}(h:t.proj x f=some q):t.isRow=true:=by
 cases t<;>first|rfl|(cases f<;>simp [Ty.proj] at h)
theorem aIk {t:Ty}{f o:Nat}(h:t.offs f=some o):t.isRow=true:=by
 cases t<;>first|rfl|(cases f<;>simp [Ty.offs] at h)
end
theorem aIl (l:oT) (n:Nat) (h:n<l.length):(⟨l.toArray⟩:ByteArray)[n]? =some l[n]:=by
 have:n<(⟨l.toArray⟩:ByteArray).size:=by simpa[ByteArray.size] using h
 rw[getElem?_pos (⟨l.toArray⟩:ByteArray) n this];rfl
theorem xJ {i:Int}{n:Nat}(h0:0<=i) (h1:i<n):i.toNat<n:=by omega
theorem a9Q {i:Int}{n:Nat}(h0:0<=i) (h1:i.toNat<n):i<n:=by omega
section
variable {P:Program}{o:Oper}{a:Act}{g:Gh}{w:pB}{H:rH}{T:rW}(hT:vK P T) (hH:rR g w H)
include hT hH
theorem aIm {t:TypeId}{x:Operand}{f:Nat}(ho:o.op= .field t x f) {sx:pN}(hx:rD g w sx (a.eval x)) {e:q9}(hr:W5 f (rE T t) sx=some e):r7 P o a g w H e:=by
 generalize hs:rE T t=ot at hr;replace hx:=hx.1;unfold W5 at hr;split at hr
 .rename_i ty el by' ls_ u y _;split at hr
  .rename_i hu;subst hu;have hty:=sI hT hs;generalize hp:u.proj y f=q at hr;cases q with
   |none=>cases hr
   |some q=>
    obtain⟨u,z⟩:=q;cases hr;have hrow:=aIj hp;obtain⟨cs,hv,hR⟩:=HM hrow hx;obtain⟨oo,c1,c2,c3,h1,h2,rfl,rfl,h5⟩:=WP hR hp;obtain⟨fs,hfs,hfe⟩:=a9O hty hrow rfl;obtain⟨fd,k1,k2,k3,k4⟩:=WQ hfe h1 h2;obtain⟨v,hv1,hv2⟩:=N3 k3 k4 (P:=P) (c1:=c1) (c3:=c3) h5;refine r7.pure hH (v:=v) ?_ hv2;have k1':fs[f]? =some fd:=by simpa using k1
    simp only[execOp,ho,hv,Instr.field,aQS,aQX hfs,aQK,k1',asAgg,aQ6,k2,aRf,hv1]
  .cases hr
 .cases hr
theorem WT {t:TypeId}{ti:TI}(hty:sO P t ti) (har:ti.arr=false) {f oo:Nat}{u:Ty}(h1:ti.ty.offs f=some oo) (h2:ti.ty.fld f=some u) (hpos:0<u.cells) (b off:Nat):
  (Instr.fieldAt t (.pointer (some ⟨b,off,none⟩)) f).run P w= .ok (.pointer (some ⟨b,off+oo,none⟩)) w:=by
 obtain⟨fs,hfs,hfe⟩:=a9O hty (aIk h1) har;obtain⟨fd,k1,k2,k3,k4⟩:=WQ hfe h1 h2;obtain⟨i,hi,hsz⟩:=aQQ.1 k3;have k1':fs[f]? =some fd:=by simpa using k1
 have hne: ¬(u.cells=0):=by omega
 simp only[Instr.fieldAt,aQS,aQX hfs,aQK,k1',Instr.sureAddr,aQ6,fieldPlace,sizeOf,typeInfo,aRu,hi,hsz,aQO hne,k2,aRf,aRN]
theorem aIn {t:TypeId}{x:Operand}{f:Nat}(ho:o.op= .fieldAddr t x f) {sx:pN}(hx:rD g w sx (a.eval x)) {e:q9}(hr:W4 f (rE T t) sx=some e):r7 P o a g w H e:=by
 generalize hs:rE T t=ot at hr;replace hx:=hx.1;unfold W4 at hr;split at hr
 .rename_i ty el by' ls_ k n c i o' _;have hty:=sI hT hs;generalize h1:ty.offs f=o1 at hr;generalize h2:ty.fld f=o2 at hr;unfold a9n at hr;split at hr
  .split at hr
   .rename_i oo u hpos;cases hr;obtain⟨b,cap,hc,hi0,hi1,hv⟩:=hx;refine r7.pure hH (v:= .pointer (some ⟨b,i.toNat*c+o'+oo,none⟩)) ?_ ⟨b,cap,hc,hi0,hi1,by rw[aRm]⟩;simp only[execOp,ho,hv,aQS,WT hT hH hty rfl h1 h2 hpos,aQK,aQ6]
   .cases hr
  .cases hr
 .rename_i ty el by' ls_ u y _;split at hr
  .rename_i hu;subst hu;have hty:=sI hT hs;generalize hp:u.proj y f=q at hr;cases q with
   |none=>cases hr
   |some q=>
    obtain⟨u,z⟩:=q;simp only[RF] at hr;split at hr
    .rename_i hpos;cases hr;obtain⟨b,off,cs,hv,hra,hS,hR⟩:=hx;obtain⟨oo,c1,c2,c3,h1,h2,rfl,rfl,h5⟩:=WP hR hp;refine r7.pure hH (v:= .pointer (some ⟨b,off+c1.length,none⟩)) ?_ ⟨b,off+c1.length,c2,rfl,fun j v hj=> ?_,fun j hj=> ?_,h5⟩
     .simp only[execOp,ho,hv,aQS,WT hT hH hty rfl h1 h2 hpos,aQK,aQ6]
     .have:=hra (c1.length+j) v (by
       have hj':=(aQP.1 hj).1;rw[aQR,aQN oW,aRr,aQT hj'];exact hj)
      rw[aRm];exact this
     .have:=hS (c1.length+j) (by
       have:=s3 hR;have h6:=s3 h5;simp only[aQG] at this;omega)
      rw[aRm];exact this
    .cases hr
  .cases hr
 .rename_i ty el by' ls_ i off _;have hty:=sI hT hs;generalize h1:ty.offs f=o1 at hr;generalize h2:ty.fld f=o2 at hr;unfold RG at hr;split at hr
  .split at hr
   .rename_i oo u hpos;cases hr;obtain⟨p,hp,hv⟩:=xI hx;refine r7.pure hH (v:= .pointer (some ⟨p.1,p.2+off+oo,none⟩)) ?_ (.inr ⟨rfl,p,hp,by rw[aRm]⟩);simp only[execOp,ho,hv,aQS,WT hT hH hty rfl h1 h2 hpos,aQK,aQ6]
   .cases hr
  .cases hr
 .cases hr
theorem aIo {x:Operand}{i:Nat}(ho:o.op= .extract x i) {sx:pN}(hx:rD g w sx (a.eval x)) {e:q9}(hr:W8 i sx=some e) (hs: ∀p∈e.side,p):r7 P o a g w H e:=by
 replace hx:=hx.1;unfold W8 at hr;split at hr
 rotate_left
 .rename_i b p c _;have run: ∀(v:pC) (vs:Array pC),a.eval x= .tuple vs->vs[i]? =some v->(execOp a.eval o).run P w= .ok (.value v) w:=by
   intro v vs h1 h2;simp [execOp,ho,h1,Instr.extract,h2]
  obtain⟨h1,h2⟩:=hx;unfold a9o at hr;split at hr
  .cases hr;cases b with
   |true=>exact r7.pure hH (run (.bool true) _ (h1 rfl) rfl) (v6 _ _ _)
   |false=>exact r7.pure hH (run (.bool false) _ (h2 rfl) rfl) (v6 _ _ _)
  .cases hr;have hb:=hs (b=true) oY;exact r7.pure hH (run (.int .i64 p) _ (h1 hb) rfl) (uU _ _ _ _)
  .cases hr;have hb:=hs (b=true) oY;exact r7.pure hH (run (.int .i32 c) _ (h1 hb) rfl) (uU _ _ _ _)
  .cases hr
 rotate_left
 .rename_i l _;obtain⟨vs,hv,hl⟩:=hx;have key: ∀(l:List ((Σ t:Ty,t.den)×p9)) (vs:p7) (i:Nat),JW g w l vs->RH l i=some e->∃v,vs[i]? =some v/\rD g w e.slot v/\e.upd=[]/\e.rds=[]:=by
   intro l
   induction l with
   |nil=>intro vs i _ h;cases i<;>cases h
   |cons q l ih=>
    obtain⟨⟨t,x⟩,k⟩:=q;rintro vs i ⟨v,vs',rfl,r1,r2,r3⟩ h;cases i with
    |zero=>
     simp only[RH,aQE] at h;subst h;refine⟨v,rfl,?_,rfl,rfl⟩;have gen:rD g w (.val t x,k) v:=⟨r1,by
      cases k with
      |none=>trivial
      |some k=>exact r2⟩
     cases t with
     |rl e u=>
      cases x with
      |none=>exact⟨r1,trivial⟩
      |some q=>
       obtain⟨k',n⟩:=q;obtain⟨v',h1,h2,h3⟩:=yI rfl r1;simp only[aRq,and_true] at h2;subst h2;exact⟨⟨h1,h3⟩,trivial⟩
     |_=>exact gen
    |succ i=>
     obtain⟨v',h1,h2,h3,h4⟩:=ih vs' i r3 h;exact⟨v',by simpa using h1,h2,h3,h4⟩
  obtain⟨v,h1,h2,h3,h4⟩:=key l vs i hl hr;obtain⟨side,slot,upd,rds⟩:=e;simp only at h2 h3 h4;subst h3;refine r7.value (v:=v) (g':=g) (w':=w) ?_ (.pure hH h2);have:vs.toArray[i]? =some v:=by simpa using h1
  simp [execOp,ho,hv,Instr.extract,this]
 .cases hr
theorem aIp {x:Operand}(ho:o.op= .nilCheck x) {sx:pN}(hx:rD g w sx (a.eval x)) {e:q9}(hr:W3 sx=some e):r7 P o a g w H e:=by
 replace hx:=hx.1;unfold W3 at hr;split at hr
 .rename_i p _;obtain⟨i,off⟩:=p;cases hr;obtain⟨p,hp,hv⟩:=xI hx;refine r7.pure hH (v:=a.eval x) ?_ hx;simp [execOp,ho,hv]
 .cases hr;obtain⟨b,off,cs,hv,h⟩:=hx;refine r7.pure hH (v:=a.eval x) ?_ ⟨b,off,cs,hv,h⟩;simp [execOp,ho,hv]
 .cases hr;obtain⟨b,cap,h1,h2,h3,hv⟩:=hx;refine r7.pure hH (v:=a.eval x) ?_ ⟨b,cap,h1,h2,h3,hv⟩;simp [execOp,ho,hv]
 .cases hr
theorem aIq {t:TypeId}{x ix:Operand}(ho:o.op= .index t x ix) {sx si:pN}(hx:rD g w sx (a.eval x)) (hi:rD g w si (a.eval ix)) {e:q9}(hr:W7 (rE T t) sx si=some e) (hs: ∀p∈e.side,p):r7 P o a g w H e:=by
 generalize hst:rE T t=ot at hr;replace hx:=hx.1;replace hi:=hi.1;unfold W7 at hr;split at hr
 .rename_i _ _ _ _ l _ k i _;cases hr;have hb:=hs _ (aQ2.2 rfl);have h2:=(sI hT hst).2;simp only[wJ] at h2;have hv:=uZ hx;have hvi:=uT hi;have hlt:(Int.toNat i)<List.length l:=xJ hb.1 hb.2;refine r7.pure hH (v:= .int .u8 (rP l i)) ?_ (uU _ _ _ _);have hget:(if (0:Int)<=i then(⟨List.toArray l⟩:ByteArray)[Int.toNat i]? else none)=some (l[Int.toNat i]):=by
   rw[aQI hb.1];exact aIl l _ hlt
  have hbyte:rP l i=((l[Int.toNat i]).toNat:Int):=by
   unfold rP;rw[aQ9,aQM hlt];rfl
  simp only[execOp,ho,hv,hvi,Instr.index,asIntOf,aQS,aQ6,aQK,aQX h2,hget,hbyte]
 .cases hr
theorem aIr {t:TypeId}{x ix:Operand}(ho:o.op= .indexAddr t x ix) {sx si:pN}(hx:rD g w sx (a.eval x)) (hi:rD g w si (a.eval ix)) {e:q9}(hr:W6 (rE T t) sx si=some e) (hs: ∀p∈e.side,p):r7 P o a g w H e:=by
 generalize hst:rE T t=ot at hr;replace hx:=hx.1;replace hi:=hi.1;unfold W6 at hr;split at hr
 .rename_i t' el by' ar ls_ k n _ k' i _;split at hr
  .rename_i hpos;cases hr;have hb:=hs _ (aQ2.2 rfl);obtain⟨h2,h3,_⟩:=(sI hT hst).2;obtain⟨ei,hei,hz⟩:=aQQ.1 h3;simp only[aRc] at hz;have hvi:=uT hi;obtain⟨hc,hv⟩:=hx;rcases hv with⟨_,rfl⟩ |⟨b,cap,hv,hcap⟩
   .exact absurd (Int.lt_of_le_of_lt hb.1 hb.2) (Int.lt_irrefl 0)
   refine r7.pure hH (v:= .pointer (some ⟨b,0+Int.toNat i*t'.cells,none⟩)) ?_ ⟨b,cap,by rw[<-hv];exact hc,hb.1,hb.2,by rw[aRf,aRL]⟩;simp only[execOp,ho,hv,hvi,Instr.indexAt,asIntOf,aQS,aQ6,aQK,aQX h2,sizeOf,typeInfo,aRu,hei,hz.1,aQI hb,aRN]
  .cases hr
 .rename_i t' el by' ar ls_ t1 l _ k i _;split at hr
  .rename_i htt;subst htt;cases hr;have hb:=hs _ (aQ2.2 rfl);obtain⟨h2,h3,_⟩:=(sI hT hst).2;obtain⟨ei,hei,hz⟩:=aQQ.1 h3;simp only[aRc] at hz;have hvi:=uT hi;obtain⟨ad,cap,hv,hle,hl⟩:=AK hx;have hlt:(Int.toNat i)<List.length l:=xJ hb.1 hb.2;rcases hl with rfl|⟨b,off,rfl,hL⟩
   .simp at hlt
   have hnth:l[Int.toNat i]? =some (qB t1 l i):=by
    unfold qB;rw[aQ9,aQM hlt];rfl
   obtain⟨cs,hc1,hc2,hc3,hc4⟩:=JZ hL hnth;refine r7.pure hH (v:= .pointer (some ⟨b,off+Int.toNat i*t1.cells,none⟩)) ?_ ⟨b,_,cs,rfl,hc2,hc3,hc4⟩;simp only[execOp,ho,hv,hvi,Instr.indexAt,asIntOf,aQS,aQ6,aQK,aQX h2,sizeOf,typeInfo,aRu,hei,hz.1,aQI hb,aRN]
  .cases hr
 .rename_i s u el by' ls_ i off _ k n _;have hty:=sI hT hst;generalize h1:(Ty.pair s u).offs (Int.toNat n)=o1 at hr;generalize h2:(Ty.pair s u).fld (Int.toNat n)=o2 at hr;unfold RG at hr;split at hr
  .split at hr
   .rename_i oo v hpos;cases hr;have hn0:=hs _ (aQ2.2 rfl);obtain⟨p,hp,hv⟩:=xI hx;have hvi:=uT hi;obtain⟨len,el',hu,hel,_⟩:=a9P hty rfl rfl;obtain⟨k1,k2,k3,k4⟩:=WR hel h1 h2;obtain⟨ei,hei,hz⟩:=aQQ.1 k2;have hb:(0:Int)<=n/\(n:Int)<(len:Int):=⟨hn0,a9Q hn0 k1⟩;refine r7.pure hH (v:= .pointer (some ⟨p.1,p.2+off+oo,none⟩)) ?_ (.inr ⟨rfl,p,hp,by rw[aRm]⟩);simp only[execOp,ho,hv,hvi,Instr.indexAt,Instr.sureAddr,asIntOf,aQS,aQ6,aQK,aQX hu,sizeOf,typeInfo,aRu,hei,hz,aQI hb,aRN,k4]
   .cases hr
  .cases hr
 .rename_i s u el by' ls_ u' y _ k n _;split at hr
  .rename_i hu';subst hu';have hty:=sI hT hst;generalize hp:(Ty.pair s u).proj y (Int.toNat n)=q at hr;cases q with
   |none=>cases hr
   |some q=>
    obtain⟨v,z⟩:=q;simp only[RF] at hr;split at hr
    .rename_i hpos;cases hr;have hn0:=hs _ (aQ2.2 rfl);obtain⟨b,off,cs,hv,hra,hS,hR⟩:=hx;have hvi:=uT hi;obtain⟨oo,c1,c2,c3,h1,h2,rfl,rfl,h5⟩:=WP hR hp;obtain⟨len,el',hu,hel,_⟩:=a9P hty rfl rfl;obtain⟨k1,k2,k3,k4⟩:=WR hel h1 h2;obtain⟨ei,hei,hz⟩:=aQQ.1 k2;have hb:(0:Int)<=n/\(n:Int)<(len:Int):=⟨hn0,a9Q hn0 k1⟩;refine r7.pure hH (v:= .pointer (some ⟨b,off+c1.length,none⟩)) ?_ ⟨b,off+c1.length,c2,rfl,fun j v hj=> ?_,fun j hj=> ?_,h5⟩
     .simp only[execOp,ho,hv,hvi,Instr.indexAt,Instr.sureAddr,asIntOf,aQS,aQ6,aQK,aQX hu,sizeOf,typeInfo,aRu,hei,hz,aQI hb,aRN,<-k4]
     .have:=hra (c1.length+j) v (by
       have hj':=(aQP.1 hj).1;rw[aQR,aQN oW,aRr,aQT hj'];exact hj)
      rw[aRm];exact this
     .have:=hS (c1.length+j) (by
       have:=s3 hR;have h6:=s3 h5;simp only[aQG] at this;omega)
      rw[aRm];exact this
    .cases hr
  .cases hr
 .cases hr
end
theorem a9R (off:Nat): ∀(vl:p7) (k:Nat) (cs:Array pC) (c1 c2 c3:p7),cs.toList=c1++c2++c3->c1.length=off+k->c2.length=vl.length->
  ((vl.zipIdx k).foldl (fun(cs:Array pC) (p:pC×Nat)=>cs.setIfInBounds (off+p.2) p.1) cs).toList=c1++vl++c3
 |[],_,cs,c1,c2,c3,h,_,h2=>by
  have:c2=[]:=aRe (by simpa using h2);subst this;simpa using h
 |v::vl,k,cs,c1,c2,c3,h,h1,h2=>by
  cases c2 with
  |nil=>simp at h2
  |cons u c2=>
   simp only[List.zipIdx_cons,List.foldl_cons];have:=a9R off vl (k+1) (cs.setIfInBounds (off+k) v) (c1++[v]) c2 c3 (by
    rw[Array.toList_setIfInBounds,h,<-h1];simp) oZ (by simpa using h2)
   rw[this];simp
theorem aIs (off:Nat) (vs cs:Array pC) (c1 c2 c3:p7) (h:cs.toList=c1++c2++c3) (h1:c1.length=off) (h2:c2.length=vs.size):
  (vs.zipIdx.foldl (fun(cs:Array pC) (x:pC×Nat)=>match x with|(c,j)=>cs.setIfInBounds (off+j) c) cs).toList=c1++vs.toList++c3:=by
 rw[<-aSi,Array.toList_zipIdx];exact a9R off vs.toList 0 cs c1 c2 c3 h oW (by simpa using h2)
theorem a9S {place:Nat->p8}{cells:Array pC}{i:Nat}{v:pC}{rest:List (Nat×pC)}{off size:Nat}{c1 c2 c3:p7}(hp:place i=some (off,size)) (hs:v.cells.size=size)
  (h:cells.toList=c1++c2++c3) (h1:c1.length=off) (h2:c2.length=size):
  Instr.fill place cells ((i,v)::rest)=Instr.fill place (c1++v.cells.toList++c3).toArray rest:=by
 have hsz:cells.size=c1.length+c2.length+c3.length:=by rw[<-aRb,h];simp;omega
 simp only[Instr.fill,hp];rw[aQO (by simp [hs];omega)];congr 1;apply aRA.1;rw[aIs off v.cells cells c1 c2 c3 h h1 oW]
theorem WU {k:Nat}: ∀{t:Ty}{o:Nat}{cs:p7},HB t=false->cs.length=t.cells->wA k t o cs
 | .bool,_,_,_,_=>trivial
 | .int _,_,_,_,_=>trivial
 | .str,_,_,_,_=>trivial
 | .unit,_,_,_,_=>trivial
 | .ref,_,_,_,_=>trivial
 | .clo,_,_,_,_=>trivial
 | .mp,_,_,_,_=>trivial
 | .rl _ _,_,_,_,_=>trivial
 | .fn,_,_,_,_=>trivial
 | .mref,_,_,_,_=>trivial
 | .list _,_,_,h,_=>by simp [HB] at h
 | .pair a b,_,cs,h,hl=>by
  simp only[HB,aR5] at h;simp only[Ty.cells] at hl;exact⟨cs.take a.cells,cs.drop a.cells,by simp,by rw[aRd];omega,WU h.1 (by rw[aRd];omega),WU h.2 (by rw[aRg];omega)⟩
theorem WV: ∀t:Ty,(sX t).length=t.cells
 | .bool=>rfl
 | .int _=>rfl
 | .str=>rfl
 | .unit=>rfl
 | .ref=>rfl
 | .clo=>rfl
 | .mp=>rfl
 | .rl _ _=>rfl
 | .fn=>rfl
 | .mref=>rfl
 | .list _=>rfl
 | .pair a b=>by simp only[sX,aQG,WV a,WV b,Ty.cells]
theorem S9 {k:Nat}: ∀(t:Ty) (o:Nat),wA k t o (sX t)
 | .bool,_=>trivial
 | .int _,_=>trivial
 | .str,_=>trivial
 | .unit,_=>trivial
 | .ref,_=>trivial
 | .clo,_=>trivial
 | .mp,_=>trivial
 | .rl _ _,_=>trivial
 | .fn,_=>trivial
 | .mref,_=>trivial
 | .list _,_=> .inr rfl
 | .pair a b,_=>⟨sX a,sX b,rfl,WV a,S9 a _,S9 b _⟩
theorem a9T {g:Gh}{w:pB}{k:Nat}: ∀{t:Ty}{x:t.den}{cs:p7}{off o:Nat},wA k t off cs->Rd g w t x cs->CD t o=true->off+o+1≠k->∃(u:Ty),qZ (.list u) t x o=some []/\cs[o]? =some (.slice none 0 0):=by
 intro t
 induction t with
 |pair a b iha ihb=>
  intro x cs off o hn hr hl hk;obtain⟨c1,c2,e,h1,h2,h3⟩:=hn;obtain⟨d1,d2,e',r1,r2⟩:=hr;have hd:c1=d1/\c2=d2:=aSx (e.symm.trans e') (by rw[h1,s3 r1]);obtain⟨rfl,rfl⟩:=hd;have key: ∀(u:Ty) q,qZ (.list u) (.pair a b) x q=if q<a.cells then qZ (.list u) a x.1 q else qZ (.list u) b x.2 (q-a.cells):=by
   intro u q;cases q with
   |zero=>
    conv=>lhs;unfold qZ
    rw[aSe (by intro e;cases e),Nat.zero_sub]
   |succ q=>simp [qZ]
  have hl':(if o<a.cells then CD a o else CD b (o-a.cells))=true:=by
   cases o<;>simpa[CD] using hl
  by_cases ho:o<a.cells
  .rw[aQI ho] at hl';obtain⟨u,k1,k2⟩:=iha h2 r1 hl' hk;exact⟨u,by rw[key,aQI ho];exact k1,by rw[e,aQT oW];exact k2⟩
  .rw[aQO ho] at hl';obtain⟨u,k1,k2⟩:=ihb h3 r2 hl' oW;exact⟨u,by rw[key,aQO ho];exact k1,by rw[e,aQN oW,h1];exact k2⟩
 |list u=>
  intro x cs off o hn hr hl hk;cases o with
  |succ o=>simp [CD] at hl
  |zero=>
   obtain⟨a,cap,e,_,_⟩:=hr;have hn':cs=[.slice none 0 0]:=hn.resolve_left (by simpa using hk);rw[hn'] at e;simp only[aRq,aSy,and_true] at e;have:(x:List u.den)=[]:=aRe e.2.1.symm;subst this;exact⟨u,by unfold qZ;simp [tI],by rw[hn'];rfl⟩
 |_=>intro x cs off o hn hr hl;cases o<;>simp [CD] at hl
theorem aIt {g:Gh}{w:pB}{u:Ty}{y:u.den}{cy:p7}(hy:Rd g w u y cy): ∀{t:Ty}{x z:t.den}{cs:p7}{f:Nat},Rd g w t x cs->Ty.setPart u y t x f=some z->
  ∃o c1 c2 c3,t.offs f=some o/\t.fld f=some u/\cs=c1++c2++c3/\c1.length=o/\c2.length=u.cells/\Rd g w t z (c1++cy++c3)/\(∀k off,wA k t off cs->wA k u (off+o) cy->wA k t off (c1++cy++c3)):=by
 intro t
 induction t with
 |pair a b _ ihb=>
  intro x z cs f r h;obtain⟨c1,c2,e,r1,r2⟩:=r;cases f with
  |zero=>
   simp only[Ty.setPart] at h;split at h
   .rename_i hu;subst hu;simp only[tI,aQE] at h;subst h;refine⟨0,[],c1,c2,rfl,rfl,by simpa using e,rfl,s3 r1,⟨cy,c2,by simp,hy,r2⟩,fun k off ⟨d1,d2,e',k1,_,k3⟩ hcy=> ?_⟩;obtain⟨rfl,rfl⟩:=aSx (e'.symm.trans e) (by rw[k1,s3 r1]);exact⟨cy,d2,by simp,s3 hy,hcy,k3⟩
   .cases h
  |succ f=>
   simp only[Ty.setPart,aQQ] at h;obtain⟨q,hq,rfl⟩:=h;obtain⟨o,d1,d2,d3,h1,h2,h3,h4,h5,h6,h7⟩:=ihb r2 hq;refine⟨a.cells+o,c1++d1,d2,d3,by simp [Ty.offs,h1],by simpa[Ty.fld] using h2,by rw[e,h3];simp,?_,h5,⟨c1,d1++cy++d3,by simp,r1,h6⟩,fun k off ⟨k1,k2,e',k3,k4,k5⟩ hcy=>by
    obtain⟨rfl,rfl⟩:=aSx (e'.symm.trans e) (by rw[k3,s3 r1]);exact⟨k1,d1++cy++d3,by simp,k3,k4,h7 k _ k5 (by rw[aRm];exact hcy)⟩⟩
   rw[aQG,h4,s3 r1]
 |_=>intro x z cs f r h;cases f<;>simp [Ty.setPart] at h
theorem WW {g:Gh}{w:pB}{t:Ty}{ev:Operand->pC}{ρ:Operand->pN}{place:Nat->p8}(hp: ∀f o u,t.offs f=some o->t.fld f=some u->place f=some (o,u.cells)):
  ∀(ps:List (Nat×Operand)) (x z:t.den) (cs:p7),Rd g w t x cs->(∀q∈ps,rD g w (ρ q.2) (ev q.2))->yC t (some x) (tJ ρ ps)=some z->
  ∃cs',Instr.fill place cs.toArray (ps.map fun q=>(q.1,ev q.2))=some cs'.toArray/\Rd g w t z cs'/\(∀m k,yF t (tJ ρ ps)=some m->m=0\/m=k->wA k t 0 cs->wA k t 0 cs')
 |[],x,z,cs,r,_,h=>by
  simp only[tJ,yC,aQE] at h;subst h;exact⟨cs,rfl,r,fun _ _ _ _ h=>h⟩
 |(i,q)::ps,x,z,cs,r,hq,h=>by
  have h0:=hq (i,q) oY;have step: ∀{u:Ty}{y:u.den}{z1:t.den},sM g w u y (ev q)->Ty.setPart u y t x i=some z1->yC t (some z1) (tJ ρ ps)=some z->(∀m k,yF t (tJ ρ ((i,q)::ps))=some m->m=0\/m=k->(∀o,t.offs i=some o->wA k u o (ev q).cells.toList)/\∃m',yF t (tJ ρ ps)=some m'/\(m'=0\/m'=k))->
    ∃cs',Instr.fill place cs.toArray (((i,q)::ps).map fun q=>(q.1,ev q.2))=some cs'.toArray/\Rd g w t z cs'/\(∀m k,yF t (tJ ρ ((i,q)::ps))=some m->m=0\/m=k->wA k t 0 cs->wA k t 0 cs'):=by
   intro u y z1 hv hset h hpl;obtain⟨o,c1,c2,c3,h1,h2,rfl,h4,h5,h6,h7⟩:=aIt (CI hv) r hset;obtain⟨cs',hf,hr,hn⟩:=WW hp ps z1 z _ h6 (fun q hq'=>hq q (by simp [hq'])) h;refine⟨cs',?_,hr,fun m k hpp hm hcs=> ?_⟩
   rotate_left
   .obtain⟨q1,m',q2,q3⟩:=hpl m k hpp hm;exact hn m' k q2 q3 (h7 k 0 hcs (by rw[aRf];exact q1 o h1))
   simp only[aRP];rw[a9S (hp i o u h1 h2) (by have:=s3 (CI hv);simpa using this) (c1:=c1) (c2:=c2) (c3:=c3) oY h4 h5];exact hf
  generalize hs:ρ q=s at h0;simp only[tJ,hs] at h;obtain⟨d,k⟩:=s;cases d with
  |val u y=>
   simp only[yC] at h;generalize hset:Ty.setPart u y t x i=o1 at h;cases o1 with
   |none=>cases ps with
    |nil=>simp [tJ,yC] at h
    |cons p ps=>simp [tJ,yC] at h
   |some z1=>
    have hpl: ∀m k,yF t (tJ ρ ((i,q)::ps))=some m->m=0\/m=k->(∀o,t.offs i=some o->wA k u o (ev q).cells.toList)/\∃m',yF t (tJ ρ ps)=some m'/\(m'=0\/m'=k):=by
     intro m k hpp hm;simp only[tJ,hs,yF] at hpp;cases hu:HB u with
     |false=>
      rw[hu] at hpp;simp only[R3] at hpp;exact⟨fun o _=>WU hu (s3 (CI h0.1)),m,hpp,hm⟩
     |true=>
      rw[hu] at hpp;cases hu2:VN u with
      |false=>rw[hu2] at hpp;simp [R3] at hpp
      |true=>
       rw[hu2] at hpp;simp only[R3] at hpp;cases ho:t.offs i with
       |none=>rw[ho] at hpp;simp [R2] at hpp
       |some o=>
        rw[ho] at hpp;cases hm2:yF t (tJ ρ ps) with
        |none=>rw[hm2] at hpp;simp [R2] at hpp
        |some m'=>
         rw[hm2] at hpp;simp only[R2] at hpp;split at hpp
         .rename_i hm0;subst hm0;simp only[aQE] at hpp;refine⟨fun o' ho'=> ?_,0,rfl,.inl rfl⟩;obtain rfl:=aQH ho';cases u with
          |list u=>exact .inl oW
          |_=>simp [VN] at hu2
         .cases hpp
    obtain⟨cs',k1,k2,k3⟩:=step h0.1 hset h hpl;exact⟨cs',k1,k2,k3⟩
  |nilS=>
   simp only[yC] at h;generalize hfl:t.fld i=fl at h;cases fl with
   |none=>cases ps<;>simp [QP,tJ,yC] at h
   |some u=>
    cases u with
    |list u=>
     simp only[QP] at h;generalize hset:Ty.setPart (.list u) [] t x i=o1 at h;cases o1 with
     |none=>cases ps<;>simp [tJ,yC] at h
     |some z1=>
      have hev:ev q= .slice none 0 0:=h0.1;refine step (u:= .list u) (y:=[]) ?_ hset h (fun m k hpp hm=> ?_)
      .rw[hev];exact .inr ⟨rfl,none,0,rfl,aQ4 _,.inl rfl⟩
      .simp only[tJ,hs,yF] at hpp;exact⟨fun o _=>by rw[hev];exact .inr rfl,m,hpp,hm⟩
    |_=>cases ps<;>simp [QP,tJ,yC] at h
  |_=>simp [yC] at h
section
variable {P:Program}{o:Oper}{a:Act}{g:Gh}{w:pB}{H:rH}{T:rW}(hT:vK P T) (hH:rR g w H)
include hT hH
theorem a9U {P:Program}(w:pB): ∀(fs:List Field),(∀f∈fs,∃n,(P.info? f.type).map (·.size)=some n)->
  (fs.mapM (fun f=>do pure (f.offset,<-sizeOf f.type):Field->Sem (Nat×Nat))).run P w= .ok (fs.map fun f=>(f.offset,((P.info? f.type).map (·.size)).getD 0)) w
 |[],_=>rfl
 |f::fs,h=>by
  obtain⟨n,hn⟩:=h f oY;obtain⟨i,hi,hsz⟩:=aQQ.1 hn;rw[List.mapM_cons];simp only[aQS,sizeOf,typeInfo,aRu,hi,aQK,aQ6];have:=a9U w fs (fun f hf=>h f (by simp [hf]));simp only[sizeOf,typeInfo,aQS,aRu] at this;rw[this];simp [hi]
theorem aIu {P:Program}: ∀{ty:Ty}{off:Nat}{fs:List Field},JY P ty off fs->∀f∈fs,∃n,(P.info? f.type).map (·.size)=some n:=by
 intro ty
 induction ty with
 |pair a b _ ihb=>
  intro off fs h f hf;cases fs with
  |nil=>cases hf
  |cons fd fs=>
   obtain⟨_,h2,_,h4⟩:=h;rcases aQV.1 hf with rfl|hf
   .exact⟨_,h2⟩
   .exact ihb h4 f hf
 |unit=>intro off fs h f hf;cases fs with|nil=>cases hf|cons=>exact h.elim
 |_=>intro off fs h f hf;cases fs<;>exact h.elim
omit hT hH in
theorem a9V {t:Ty}{x:t.den}{cs:p7}{ps:List (Nat×pN)}(h: ∀m k,yF t ps=some m->m=0\/m=k->wA k t 0 (sX t)->wA k t 0 cs):match ((DV.val t x,VO t (yF t ps)):pN) with
  |(_,none)=>True
  |(.val t x,some k)=>AI g t x (.agg cs.toArray) (some k)
  |(_,some _)=>False:=by
 cases hp:yF t ps with
 |none=>cases t<;>trivial
 |some m=>
  cases t with
  |pair a b=>
   have:=h m m hp (.inr rfl) (S9 _ _);simpa[VO,AI,Value.cells] using this
  |_=>trivial
omit hT in
theorem r7.pureS {s:pN}{v:pC}(hr:(execOp a.eval o).run P w= .ok (.value v) w) (hs:rD g w s v):r7 P o a g w H ⟨[],s,[],[]⟩:=
 r7.value hr (.pure hH hs)
theorem aIv {t:TypeId}{ps:Array (Nat×Operand)}(ho:o.op= .build t ps) {ρ:Operand->pN}(hρ: ∀q∈ps.toList,rD g w (ρ q.2) (a.eval q.2)) {e:q9}(hr:VP (tJ ρ ps.toList) (rE T t)=some e):r7 P o a g w H e:=by
 generalize hs:rE T t=ot at hr;cases ot with
 |none=>cases hr
 |some ti=>
  have hty:=sI hT hs;simp only[VP] at hr;by_cases hrow:ti.ty.isRow=true
  case neg=>rw[aQO hrow] at hr;cases hr
  rw[aQI hrow] at hr;generalize hb:yC ti.ty (some ti.ty.zero) (tJ ρ ps.toList)=ox at hr;cases ox with
  |none=>cases hr
  |some x=>
   cases hr;obtain⟨i,hi,hsz,hz⟩:=BE hty;have hzv:uS ti.ty= .agg (sX ti.ty).toArray:=by unfold uS;rw[aQI hrow]
   have hzr: ∀w,(zeroValue t).run P w= .ok (.agg (sX ti.ty).toArray) w:=by
    intro w;simp [zeroValue,typeInfo,hi,hz,hzv]
   have hmap:(ps.map fun(q:Nat×Operand)=>(q.1,a.eval q.2)).toList=ps.toList.map fun q=>(q.1,a.eval q.2):=by simp
   rcases WS hty hrow with⟨har,fs,hfs,hfe⟩ |⟨har,n,el,hu,hel,hsome⟩
   .have hpl:=a9U (P:=P) hT hH w fs.toList (aIu hT hH hfe);obtain⟨cs',hf,hR,hN⟩:=WW (g:=g) (w:=w) (ev:=a.eval) (ρ:=ρ) (t:=ti.ty) (place:=fun j=>((fs.map fun f=>(f.offset,((P.info? f.type).map (·.size)).getD 0))[j]?)) (fun f oo u h1 h2=>by
     obtain⟨fd,k1,k2,k3,_⟩:=WQ hfe h1 h2;have k1':fs[f]? =some fd:=by simpa using k1
     simp [k1',k2,k3]) ps.toList ti.ty.zero x (sX ti.ty) (BD g w ti.ty) hρ hb
    refine r7.pureS hH (v:= .agg cs'.toArray) ?_ ⟨.inl ⟨hrow,cs',rfl,hR⟩,a9V hN⟩;have hmp:(fs.mapM (fun f=>do pure (f.offset,<-sizeOf f.type):Field->Sem (Nat×Nat))).run P w= .ok (fs.map fun f=>(f.offset,((P.info? f.type).map (·.size)).getD 0)) w:=by
     rw[Array.mapM_eq_mapM_toList,Sem.run_map,hpl];simp only[aQK];congr 1;apply aRA.1;simp
    simp only[execOp,ho,Instr.build,aQS,hzr,aQK,aQX hfs,hmp,Value.cells];rw[hmap,hf];rfl
   .obtain⟨cs',hf,hR,hN⟩:=WW (g:=g) (w:=w) (ev:=a.eval) (ρ:=ρ) (t:=ti.ty) (place:=fun j=>some (j*((P.info? el).map (·.size)).getD 0,((P.info? el).map (·.size)).getD 0)) (fun f oo u h1 h2=>by
     obtain⟨k1,k2,k3,k4⟩:=WR hel h1 h2;simp [k2,k4]) ps.toList ti.ty.zero x (sX ti.ty) (BD g w ti.ty) hρ hb
    refine r7.pureS hH (v:= .agg cs'.toArray) ?_ ⟨.inl ⟨hrow,cs',rfl,hR⟩,a9V hN⟩;obtain⟨ei,hei⟩:=aQF.1 hsome;simp only[hei,Option.map_some,aSD] at hf;simp only[execOp,ho,Instr.build,aQS,hzr,aQK,aQX hu,sizeOf,typeInfo,aRu,hei,aQ6,Value.cells];rw[hmap,hf];rfl
theorem WX {ρ:Operand->pN}{ev:Operand->pC}: ∀{xs:List Operand}{ss:List pN},(∀x∈xs,rD g w (ρ x) (ev x))->uH ρ xs=ss->∃vs,xs.map ev=vs/\vs.length=ss.length/\∀(i:Nat) (s:pN) (v:pC),ss[i]? =some s->vs[i]? =some v->rD g w s v
 |[],_,_,h=>⟨[],rfl,by rw[<-h];rfl,fun i s v _ hv=>by simp at hv⟩
 |x::xs,ss,hx,h=>by
  subst h;obtain⟨vs,h1,h2,h3⟩:=WX (fun y hy=>hx y (by simp [hy])) rfl (xs:=xs);refine⟨ev x::vs,by simp [h1],by simp [uH,h2],fun i s v hs hv=> ?_⟩;cases i with
  |zero=>
   simp only[uH,aQ8,aQE] at hs hv;subst hs;subst hv;exact hx x oY
  |succ i=>
   simp only[uH,aRi] at hs hv;exact h3 i s v hs hv
theorem SA {ρ:Operand->pN}{ev:Operand->pC}{args:Array Operand}{s:pN}(hρ: ∀x∈args.toList,rD g w (ρ x) (ev x)) (h:uH ρ args.toList=[s]): ∃v,args.map ev= #[v]/\rD g w s v:=by
 obtain⟨vs,h1,h2,h3⟩:=WX hT hH hρ h;obtain⟨v,rfl⟩:=aRR.1 h2;exact⟨v,by apply aRA.1;simpa using h1,h3 0 s v rfl rfl⟩
theorem SB {ρ:Operand->pN}{ev:Operand->pC}{args:Array Operand}{s t:pN}(hρ: ∀x∈args.toList,rD g w (ρ x) (ev x)) (h:uH ρ args.toList=[s,t]): ∃v u,args.map ev= #[v,u]/\rD g w s v/\rD g w t u:=by
 obtain⟨vs,h1,h2,h3⟩:=WX hT hH hρ h
 match vs,h2 with
 |[v,u],_=>exact⟨v,u,by apply aRA.1;simpa using h1,h3 0 s v rfl rfl,h3 1 t u rfl rfl⟩
theorem DQ {b:Builtin}{args:Array Operand}{tys:Array TypeId}(ho:o.op= .call ⟨.builtin b,args,tys⟩):
  ∃cs,execOp a.eval o=builtin b tys o.type cs (args.map a.eval):=by
 refine⟨args.map fun| .const _=>true|_=>false,?_⟩
 unfold execOp;rw[ho];rfl
theorem aIw (x y:Int):(if y<x then y else x)=min x y:=by rw[Int.min_def];split<;>split<;>omega
theorem aIx (x y:Int):(if y>x then y else x)=max x y:=by rw[Int.max_def];split<;>split<;>omega
theorem aIy {args:Array Operand}{tys:Array TypeId}(ho:o.op= .call ⟨.builtin .len,args,tys⟩) {ρ:Operand->pN}(hρ: ∀x∈args.toList,rD g w (ρ x) (a.eval x)) {e:q9}
  (hr:RO T H (uH ρ args.toList) tys.toList=some e):r7 P o a g w H e:=by
 obtain⟨t0,tr,htl⟩: ∃t0 tr,tys.toList=t0::tr:=by cases h:tys.toList with|nil=>(rw[h] at hr;cases hr) |cons t r=>exact⟨t,r,rfl⟩
 have ht0:tys[0]? =some t0:=by rw[<-aRx,htl];rfl
 rw[htl] at hr;simp only[RO] at hr;generalize hst:rE T t0=ot at hr;generalize hss:uH ρ args.toList=ss at hr;unfold W9 at hr;split at hr
 .rename_i el fl ar ls_ i k;generalize hb:pQ H i=ob at hr;unfold RI at hr;split at hr
  .rename_i kt vt l;cases hr;obtain⟨v,hv,hs⟩:=SA hT hH hρ hss;have h2:=(sI hT hst).2;simp only[wJ] at h2;obtain⟨p,es,cl,hp,hp0,hh,hM,hS⟩:=hH.blk i _ hb;obtain⟨p',hp',hxv⟩: ∃p,g.J i=some p/\v= .map (some p.1):=by
    rcases hs.1 with⟨h1,_⟩ |⟨_,p,h3,h4⟩
    .cases h1
    .simp only[aRq,and_true] at h4;exact⟨p,h3,h4⟩
   rw[hp] at hp';obtain rfl:=aQH hp';have hlen: ∀{l:List (kt.den×vt.den)}{es:List MapEntry},BB g w kt vt l es->es.length=l.length:=by
    intro l
    induction l with
    |nil=>intro es h;rw[show es=[] from h];rfl
    |cons q l ih=>intro es h;obtain⟨e,es',rfl,_,_,h5⟩:=h;simp [ih h5]
   refine r7.pure hH (v:= .int .i64 (List.length l:Int)) ?_ (uU _ _ _ _);obtain⟨cs,hx⟩:=DQ (a:=a) hT hH ho;rw[hx,hv,hxv];have harg:(#[Value.map (some p.1)]:Array pC)[0]? =some (.map (some p.1)):=rfl;have hobj:(getObj p.1).run P w= .ok (.map es cl) w:=by simp [getObj,Sem.run,hh]
   simp only[builtin,Builtin.len_,ht0,harg,aQS,aQX h2,aQK,aQ6,goInt,hobj];rw[<-hlen hM,aRb]
  .cases hr
 .rename_i el by' ar ls_ l k;cases hr;obtain⟨v,hv,hs⟩:=SA hT hH hρ hss;have h2:=(sI hT hst).2;simp only[wJ] at h2;have hv':=uZ hs.1;refine r7.pure hH (v:= .int .i64 (List.length l:Int)) ?_ (uU _ _ _ _);subst hv';obtain⟨cs,hx⟩:=DQ (a:=a) hT hH ho;rw[hx,hv];have harg:(#[Value.string ⟨List.toArray l⟩]:Array pC)[0]? =some (.string ⟨List.toArray l⟩):=rfl;simp only[builtin,Builtin.len_,ht0,harg,aQS,aQX h2,aQK,aQ6,goInt];rfl
 .rename_i u el by' ar ls_ t l k;cases hr;obtain⟨v,hv,hs⟩:=SA hT hH hρ hss;have h2:=(sI hT hst).2.1;obtain⟨ad,cap,rfl,_⟩:=AK hs.1;refine r7.pure hH (v:= .int .i64 (List.length l:Int)) ?_ (uU _ _ _ _);obtain⟨cs,hx⟩:=DQ (a:=a) hT hH ho;rw[hx,hv];have harg:(#[Value.slice ad (List.length l) cap]:Array pC)[0]? =some (.slice ad (List.length l) cap):=rfl;simp only[builtin,Builtin.len_,ht0,harg,aQS,aQX h2,aQK,aQ6,goInt]
 .rename_i u el by' ar ls_ ko n k;cases hr;obtain⟨v,hv,hs⟩:=SA hT hH hρ hss;have h2:=(sI hT hst).2.1;obtain⟨ad,cap,rfl⟩: ∃ad cap,v= .slice ad n cap:=by
   rcases hs.1.2 with⟨h,rfl⟩ |⟨b,cap,h,_⟩
   .exact⟨_,_,h⟩
   .exact⟨_,_,h⟩
  refine r7.pure hH (v:= .int .i64 (n:Int)) ?_ (uU _ _ _ _);obtain⟨cs,hx⟩:=DQ (a:=a) hT hH ho;rw[hx,hv];have harg:(#[Value.slice ad n cap]:Array pC)[0]? =some (.slice ad n cap):=rfl;simp only[builtin,Builtin.len_,ht0,harg,aQS,aQX h2,aQK,aQ6,goInt]
 .cases hr
theorem a9W {args:Array Operand}{tys:Array TypeId}{mx:Bool}(ho:o.op= .call ⟨.builtin (if mx then .max else .min),args,tys⟩) {ρ:Operand->pN}(hρ: ∀x∈args.toList,rD g w (ρ x) (a.eval x)) {e:q9}
  (hr:yA (RM mx (uH ρ args.toList))=some e):r7 P o a g w H e:=by
 obtain⟨q,hq,rfl⟩:=FH hr;generalize hss:uH ρ args.toList=ss at hq;unfold RM at hq;split at hq
 .rename_i k x k1 k' y k2;split at hq
  .rename_i hk;subst hk;cases hq;obtain⟨v,u,hv,hs1,hs2⟩:=SB hT hH hρ hss;have e1:=uT hs1.1;have e2:=uT hs2.1;subst e1;subst e2;cases mx
   .refine r7.pure hH (v:= .int k (min (x:Int) y)) ?_ (uU _ _ _ _);obtain⟨cs,hx⟩:=DQ (a:=a) hT hH ho;rw[hx,hv];have:=aIw hT hH x y;simp [builtin,Builtin.min_,Builtin.min2,this]
   .refine r7.pure hH (v:= .int k (max (x:Int) y)) ?_ (uU _ _ _ _);obtain⟨cs,hx⟩:=DQ (a:=a) hT hH ho;rw[hx,hv];have:=aIx hT hH x y;simp [builtin,Builtin.max_,Builtin.max2,this]
  .cases hq
 .cases hq
theorem aIz {f:FuncId}{caps:Array Operand}(ho:o.op= .makeFunc (.func f) #[] caps) {ρ:Operand->pN}(hρ: ∀x∈caps.toList,rD g w (ρ x) (a.eval x)) {e:q9}
  (hr:a9m f (GZ (uH ρ caps.toList))=some e):r7 P o a g w H e:=by
 generalize hc:GZ (uH ρ caps.toList)=oc at hr;cases oc with
 |none=>cases hr
 |some l=>
  cases hr;have key: ∀(xs:List Operand) (l:p5),(∀x∈xs,rD g w (ρ x) (a.eval x))->GZ (uH ρ xs)=some l->wI g l (xs.map a.eval):=by
   intro xs
   induction xs with
   |nil=>intro l _ h;simp only[uH,GZ,aQE] at h;subst h;rfl
   |cons x xs ih=>
    intro l hx h;have h0:=hx x oY;generalize hs:ρ x=s at h0;simp only[uH,hs] at h;obtain⟨d,k⟩:=s;unfold GZ at h;split at h
    .cases ‹_=[]›
    .rename_i p k r heq;simp only[aRq,aRc] at heq;obtain⟨⟨rfl,rfl⟩,rfl⟩:=heq;obtain⟨l',hl',rfl⟩:=aQQ.1 h;obtain⟨i,off⟩:=p;obtain⟨p,hp,hv⟩:=xI h0.1;exact⟨p,_,hp,by rw[aRP,hv],ih l' (fun y hy=>hx y (by simp [hy])) hl'⟩
    .cases h
  refine r7.pure hH (v:= .func (.func f) #[] (caps.map a.eval)) ?_ (.inr ⟨rfl,caps.toList.map a.eval,key _ _ hρ hc,by congr 2;apply aRA.1;simp⟩);simp [execOp,ho,Instr.makeFunc]
end
theorem WY {α:Type}{l:List α}{m n:Int}(h0:0≤m) (h1:m≤n) (h2:n≤(l.length:Int)):(s0 l m n).length=n.toNat-m.toNat:=by
  unfold s0;rw[aRd,aRg];omega
theorem a9X {α:Type}{R:α→p7→Prop}{c:Nat}: ∀{l:List α}{cs:p7}{i:Nat}{x:α},sQ R c l cs→l[i]? =some x→∃c1 c2 c3,cs=c1++c2++c3∧c1.length=i*c∧c2.length=c∧R x c2
  | y::l,_,0,x,⟨c1,c2,e,h1,h2,h3⟩,h=>by
    simp only[aQ8,aQE] at h;subst h;exact⟨[],c1,c2,by simpa using e,by simp,h1,h2⟩
  | y::l,_,i+1,x,⟨c1,c2,e,h1,h2,h3⟩,h=>by
    simp only[aRi] at h;obtain⟨d1,d2,d3,e1,e2,e3,e4⟩:=a9X h3 h;exact⟨c1++d1,d2,d3,by rw[e,e1];simp,by rw[aQG,h1,e2,aRB];omega,e3,e4⟩
theorem aIA {t:Ty}{l:List t.den}{i:Int}(h0:0≤i) (h:i.toNat<l.length):l[i.toNat]? =some (qB t l i):=by
  unfold qB;rw[aQ9,aQM h];rfl
theorem K0 {α:Type}{R:α→p7→Prop}{w:pB}{S:Nat→Nat→Prop}{c b:Nat}: ∀{l:List α}{o:Nat}{cs:p7},sQ R c l cs→w.rangeAt b o cs→(∀j,j<l.length*c→S b (o+j))→wQ R w S c b o l
  |[],_,_,_,_,_=>trivial
  | x::l,o,cs,⟨c1,c2,e,h1,h2,h3⟩,hr,hS=>by
    subst e;refine⟨⟨c1,h1,fun j v hv=>hr j v (by rw[aQT (aQP.1 hv).1];exact hv),fun j hj=>hS j (by rw[aQJ,aRB];omega),h2⟩,K0 h3 (fun j v hv=> ?_) (fun j hj=> ?_)⟩
    · have:=hr (c+j) v (by rw[aQN oW,h1,aRr];exact hv)
      rwa [←aRm] at this
    · have:=hS (c+j) (by rw[aQJ,aRB];omega)
      rwa [←aRm] at this
theorem WZ {u0:Ty}{l:List u0.den}: ∀{t:Ty}{x:t.den}{q: Σ t:Ty,t.den},xD u0 l t x=some q→q.1.cells=t.cells:=by
  intro t
  induction t with
  | rl e u=>
    intro x q h;cases x with
    |none=>cases h
    | some p=>
      simp only[xD,VT] at h;split at h
      .cases h;rfl
      .cases h
  | pair a b iha ihb=>
    intro x q h;simp only[xD] at h;cases hf:yV a x.1 with
    | some p=>
      rw[hf] at h;cases hq:xD u0 l a x.1 with
      |none=>rw[hq] at h;cases h
      | some r=>
        obtain⟨a',x'⟩:=r;rw[hq] at h;simp only[HC,aQE] at h;subst h;have:=iha hq;simp only[Ty.cells] at this|-;omega
    | none=>
      rw[hf] at h;cases hq:xD u0 l b x.2 with
      |none=>rw[hq] at h;simp [HC] at h
      | some r=>
        obtain⟨b',y'⟩:=r;rw[hq] at h;simp only[HC,aQE] at h;subst h;have:=ihb hq;simp only[Ty.cells] at this|-;omega
  |_=>intro x q h;simp [xD] at h
theorem aIB {g:Gh}{w:pB}{k n:Nat}{u0:Ty}{l:List u0.den}(hk: ∀cs,CH g (some (k,n)) cs→Rd g w (.list u0) l cs): ∀{t:Ty}{x:t.den}{cs:p7}{q: Σ t:Ty,t.den},yV t x=some (k,n)→xD u0 l t x=some q→Rd g w t x cs→Rd g w q.1 q.2 cs:=by
  intro t
  induction t with
  | rl e u=>
    intro x cs q hf h r;simp only[yV] at hf;subst hf;simp only[xD,VT] at h;split at h
    · cases h
      exact hk _ r
    .cases h
  | pair a b iha ihb=>
    intro x cs q hf h r;obtain⟨c1,c2,e,r1,r2⟩:=r;simp only[yV] at hf;simp only[xD] at h;cases hfa:yV a x.1 with
    | some p=>
      rw[hfa] at h hf;simp only[VS,aQE] at hf;subst hf;cases hq:xD u0 l a x.1 with
      |none=>rw[hq] at h;cases h
      | some z=>
        obtain⟨a',x'⟩:=z;rw[hq] at h;simp only[HC,aQE] at h;subst h;exact⟨c1,c2,e,iha hfa hq r1,r2⟩
    | none=>
      rw[hfa] at h hf;simp only[VS] at hf;cases hq:xD u0 l b x.2 with
      |none=>rw[hq] at h;simp [HC] at h
      | some z=>
        obtain⟨b',y'⟩:=z;rw[hq] at h;simp only[HC,aQE] at h;subst h;exact⟨c1,c2,e,r1,ihb hf hq r2⟩
  |_=>intro x cs q hf;simp [yV] at hf
theorem aIC {g:Gh}{w:pB}{H:rH}(hH:rR g w H) {k i:Nat}{e:TypeId}{t:Ty}{l:List t.den}{n:Nat}(hk:pQ H k=some (.row e t l n)) {u:Ty}{x:u.den}{toks:p5}(hi:pQ H i=some (.cells u x toks)) (hfr:yV u x=some (k,n)) {q: Σ t:Ty,t.den}(hq:xD t l u x=some q):
    ∃ g',rR g' w (qH [(i,pM.cells q.1 q.2 []),(k,pM.grow e t.cells (List.length l))] H)∧g'.J=g.J∧
      ∀side s rds v,F3 rds=true→rD g' w s v→xG g w H ⟨side,s,[(i,pM.cells q.1 q.2 []),(k,pM.grow e t.cells (List.length l))],rds⟩ g' w v:=by
  obtain⟨hl,v,xs,hv,hown,hF,hnone,hseal⟩:=hH.blk k _ hk
  let g':Gh:={g with S:=fun b o=>g.S b o∨(v.ownBlock=some b∧o<n*t.cells)}
  have le:Le g w g' w:=⟨fun _ _ h=> .inl h,fun _ _ _=>rfl,fun _ _ h=>h,fun _ _ _ h=>h⟩;have hown2: ∀b,v.ownBlock=some b→∀o,rK g k (.row e t l n) b o:=fun b hb o=>⟨v,hv,hb⟩
  have hlist: ∀u,g.cur k n=some u→((u= .slice none 0 0∧n=0)∨∃b cap,u= .slice (some ⟨b,0,none⟩) n cap∧n≤cap)→sM g' w (.list t) l u:=by
    intro u hu hshape;rw[hv] at hu;obtain rfl:=aQH hu;rcases hshape with⟨rfl,h0⟩ |⟨b,cap,rfl,hcap⟩
    · have:l=[]:=aRe (by rw[hl,h0])
      subst this;exact .inr ⟨rfl,none,0,rfl,aQ4 _,.inl rfl⟩
    · refine .inr ⟨rfl,some ⟨b,0,none⟩,cap,by rw[hl],by rw[hl];exact hcap,.inr ⟨b,0,rfl,K0 (AJ (fun _ _ h=>vU le h) hF) (fun j u hu=> ?_) (fun j hj=> ?_)⟩⟩
      · have:=hown.cells (g:=b) rfl j u hu
        rwa [aRN] at this
      · right
        exact⟨rfl,by rw[hl] at hj;omega⟩
  have hik:i≠k:=fun e1=>by rw[e1,hk] at hi;cases hi
  obtain⟨p0,cs0,hp0,hR0,hra0,hth0,hns0,_⟩:=hH.blk i _ hi
  let b':pM:= .cells q.1 q.2 []
  let H':rH:=(i,b')::(k,pM.grow e t.cells (List.length l))::H
  have hget: ∀i' b,pQ H' i'=some b→(i'=i∧b=b')∨(i'=k∧b= .grow e t.cells (List.length l))∨(i'≠k∧i'≠i∧pQ H i'=some b):=by
    intro i' b hb;simp only[H',pQ] at hb;split at hb
    .rename_i e1;exact .inl ⟨e1.symm,(aQH hb).symm⟩
    · rename_i e1
      split at hb
      .rename_i e2;exact .inr (.inl ⟨e2.symm,(aQH hb).symm⟩)
      .rename_i e2;exact .inr (.inr ⟨Ne.symm e2,Ne.symm e1,hb⟩)
  have howns: ∀i' b bb o,pQ H' i'=some b→rK g' i' b bb o→∃b0,pQ H i'=some b0∧rK g i' b0 bb o:=by
    intro i' b bb o hb ho;rcases hget i' b hb with⟨rfl,rfl⟩ |⟨rfl,rfl⟩ |⟨_,_,h1⟩
    · obtain⟨p,hp,e1,e2,e3⟩:=ho
      rw[WZ hq] at e3;exact⟨_,hi,p,hp,e1,e2,e3⟩
    · obtain⟨u,hu,hub⟩:=ho
      have hu':g.cur i' (List.length l)=some u:=hu;rw[hl] at hu';exact⟨_,hk,u,hu',hub⟩
    .exact⟨b,h1,(xH (g':=g') (g:=g) rfl rfl).1 ho⟩
  have hheap:rR g' w H':=by
    refine⟨fun i' b hb=> ?_,fun i' j bi bj b o hij h1 h2 o1 o2=> ?_,fun b o hS=> ?_,hH.tab.1,fun i' b bb oo hb ho=>by
      obtain⟨c1,k1,k2⟩:=howns i' b bb oo hb ho;exact hH.tab.2 i' c1 bb oo k1 k2⟩
    · rcases hget i' b hb with⟨rfl,rfl⟩ |⟨rfl,rfl⟩ |⟨hne,_,h1⟩
      · have hk2: ∀cs,CH g' (some (k,n)) cs→Rd g' w (.list t) l cs:=by
          rintro cs ⟨v1,z1,z2,z3⟩;rw[z2];exact yI rfl (hlist v1 z1 z3)
        refine⟨p0,cs0,hp0,aIB (n:=n) hk2 hfr hq (vU le hR0),hra0,?_,?_,fun _ _ hm=>by cases hm⟩
        .rw[WZ hq];exact⟨hth0.1,hth0.2⟩
        · rw[WZ hq]
          intro j hj hS;rcases hS with hS|hS
          .exact hns0 j hj hS
          .exact hH.dis i' k _ _ p0.1 (p0.2+j) hik hi hk ⟨p0,hp0,rfl,oW,oW⟩ (hown2 _ hS.1 _)
      · refine⟨v,xs,by rw[hl];exact hv,by rw[hl];exact hown,fun m hm=>hnone m (by rw[hl] at hm;exact hm),fun b hb o hS=> ?_⟩
        rw[hl];rcases hS with hS|hS
        .exact absurd hS (hseal b hb o)
        .exact hS.2
      .exact JX (hH.blk i' b h1) le rfl rfl (fun _ _ _=>⟨rfl,rfl⟩) (fun _ _=>rfl) (fun bb o ho hS=>by
          rcases hS with hS|hS
          .exact hS
          .exact absurd (hown2 bb hS.1 o) (fun h5=>hH.dis i' k b _ bb o hne h1 hk ho h5)) (fun _ _ _ _ h=>h)
    · obtain⟨c1,k1,k2⟩:=howns i' bi b o h1 o1
      obtain⟨c2,k3,k4⟩:=howns j bj b o h2 o2;exact hH.dis i' j c1 c2 b o hij k1 k3 k2 k4
    · rcases hS with hS|hS
      .exact hH.sl b o hS
      .exact N0 hown hS.1
  refine⟨g',hheap,rfl,fun side s rds vv hre hs=>⟨le,hs,hheap,⟨rfl,rfl,rfl,aQ4 _,fun _ _ _=>rfl,fun _ _ _ _=>⟨rfl,rfl⟩,fun b o hS=> ?_,fun _ _ h=> .inl h⟩,fun i' blk b o hm hg ho=> ?_,fun _ _=>⟨rfl,rfl⟩,fun h=>by rw[hre] at h;cases h⟩⟩
  · rcases hS with hS|hS
    .exact .inl hS
    .exact .inr (.inr ⟨k,_,by simp [pS],hk,hown2 b hS.1 o⟩)
  · obtain⟨b0,k1,k2⟩:=howns i' blk b o hg ho
    exact .inr ⟨i',b0,hm,k1,k2⟩
section
variable {P:Program}{o:Oper}{a:Act}{g:Gh}{w:pB}{H:rH}{T:rW}(hT:vK P T) (hH:rR g w H)
include hT hH
theorem N4 {t:TypeId}{ti:TI}(hty:sO P t ti) {x:ti.ty.den}{b off:Nat}{cs:p7}(hra:w.rangeAt b off cs) (hR:Rd g w ti.ty x cs):
    ∃v,(Instr.loadAt t (.pointer (some ⟨b,off,none⟩))).run P w= .ok v w∧sM g w ti.ty x v∧v.cells.toList=cs:=by
  obtain⟨d,hd,hrow⟩:=S8 hty;obtain⟨i,hi,hsz,_⟩:=BE hty;have hl:=s3 hR;by_cases hr:ti.ty.isRow=true
  .refine⟨.agg cs.toArray,run_loadAt_mid w b off t cs d hra hd (by rw[hrow,hr]) (by rw[hi,Option.map_some,hsz,hl]),.inl ⟨hr,cs,rfl,hR⟩,by simp [Value.cells]⟩
  · have hr':ti.ty.isRow=false:=by simpa using hr
    have h1:ti.ty.cells=1:=by
      obtain⟨ty,el,by',ar,ls⟩:=ti;cases ty<;>first|rfl|(simp [Ty.isRow] at hr')
    obtain⟨v,rfl⟩: ∃v,cs=[v]:=by rw[h1] at hl;exact aRR.1 hl
    have hv1:=yH hR v oY;refine⟨v,?_,.inr ⟨hr',hR⟩,by cases v<;>first|rfl|(simp [Value.oneCell'] at hv1)⟩
    have hc:w.cell? ⟨b,off,none⟩=some v:=by simpa using hra 0 v rfl
    have hagg:(isAgg t).run P w= .ok false w:=by
      unfold isAgg;rw[aQS,aQX hd w];rw[hr'] at hrow;cases d<;>simp_all [TypeDesc.isRow]
    simp [Instr.loadAt,Instr.sureAddr,loadVar,aQS,hagg,hc]
theorem K1 {b off:Nat}{c1 c2 c3:p7}(h:w.rangeAt b off (c1++c2++c3)):w.rangeAt b (off+c1.length) c2:=fun j v hj=>by
  have:=h (c1.length+j) v (by
    have hj':=(aQP.1 hj).1;rw[aQR,aQN oW,aRr,aQT hj'];exact hj)
  rw[aRm];exact this
theorem a9Y {k n c:Nat}{i:Int}{o':Nat}{v:pC}(hx:xV g w (.elt k n c i o') v) {e:TypeId}{t:Ty}{l:List t.den}{m:Nat}(hk:pQ H k=some (.row e t l m)) (hnm:n=m) (hc:c=t.cells):
    ∃ b cap xs c1 c2 c3,v= .pointer (some ⟨b,i.toNat*c+o',none⟩)∧g.cur k m=some (.slice (some ⟨b,0,none⟩) m cap)∧w.ownsRow 0 e t.cells (.slice (some ⟨b,0,none⟩) m cap) m xs∧sQ (Rd g w t) t.cells l xs∧l.length=m∧i.toNat<l.length∧0≤i∧
      xs=c1++c2++c3∧c1.length=i.toNat*c∧c2.length=c∧Rd g w t (qB t l i) c2:=by
  subst hnm;subst hc;obtain⟨b,cap,h1,h2,h3,hv⟩:=hx;obtain⟨hl,v0,xs,hv0,hown,hF,hnone,hseal⟩:=hH.blk k _ hk;rw[h1] at hv0;obtain rfl:=aQH hv0;have hi:i.toNat<l.length:=by rw[hl];omega
  obtain⟨c1,c2,c3,e1,e2,e3,e4⟩:=a9X hF (aIA h2 hi);exact⟨b,cap,xs,c1,c2,c3,hv,h1,hown,hF,hl,hi,h2,e1,e2,e3,e4⟩
theorem aID {e:TypeId}{c n:Nat}{q cap:Nat}{xs:p7}(h:w.ownsRow 0 e c (.slice (some ⟨q,0,none⟩) n cap) n xs):w.rangeAt q 0 xs:=fun j u hu=>by
  have:=h.cells (g:=q) rfl j u hu;rwa [aRN] at this
theorem aIE {t:TypeId}{ti:TI}(hst:rE T t=some ti) {k n c:Nat}{i:Int}{o':Nat}{vx:pC}(hx:xV g w (.elt k n c i o') vx) {e:q9}(hr:MK ti.ty k n c i o' (pQ H k)=some e) (hs: ∀p∈e.side,p):
    ∃v,(Instr.loadAt t vx).run P w= .ok v w∧rD g w e.slot v∧e.upd=[]:=by
  generalize hk:pQ H k=ob at hr;unfold MK at hr;split at hr
  · rename_i e' t' l m
    split at hr
    · rename_i hc
      generalize hga:qZ ti.ty t' (qB t' l i) o'=oy at hr;cases oy with
      |none=>cases hr
      | some y=>
        cases hr;have hnm:=hs _ (aQ2.2 rfl);obtain⟨b,cap,xs,c1,c2,c3,hv,hcur,hown,hF,hl,hi,h0,e1,e2,e3,e4⟩:=a9Y hT hH hx hk hnm hc;obtain⟨d1,d2,d3,f1,f2,f3⟩:=BC e4 hga;have hra:=aID hT hH hown;rw[e1] at hra;have hra2:=K1 hT hH hra;rw[f1] at hra2;have hra3:=K1 hT hH hra2;rw[aRf,e2,f2] at hra3;obtain⟨v,h1,h2,_⟩:=N4 hT hH (sI hT hst) hra3 f3;exact⟨v,by rw[hv];exact h1,⟨h2,trivial⟩,rfl⟩
    .cases hr
  .cases hr
theorem X0: ∀{toks:p5}{q k:Nat},vR toks q=some k→(q,k)∈toks
  |[],_,_,h=>by simp [vR] at h
  | (q',k')::r,q,k,h=>by
    simp only[vR] at h;split at h
    · rename_i e
      subst e;simp only[aQE] at h;subst h;simp
    .exact aQZ _ (X0 h)
theorem a9Z {u v:Ty}: ∀{t:Ty}{x:t.den}{q:Nat}{l:List u.den}{y:v.den},qZ (.list u) t x q=some l→qZ v t x q=some y→v.isRow=false→∃h:v= .list u,tI h y=l:=by
  intro t
  induction t with
  | pair s t ihs iht=>
    intro x q l y h1 h2 hv
    have key: ∀q,(if q<s.cells then qZ (.list u) s x.1 q else qZ (.list u) t x.2 (q-s.cells))=some l→(if q<s.cells then qZ v s x.1 q else qZ v t x.2 (q-s.cells))=some y→∃h:v= .list u,tI h y=l:=by
      intro q h1 h2;by_cases hq:q<s.cells
      .rw[aQI hq] at h1 h2;exact ihs h1 h2 hv
      .rw[aQO hq] at h1 h2;exact iht h1 h2 hv
    cases q with
    | zero=>
      have e1:Ty.pair s t≠.list u:=by intro h;cases h
      have e2:Ty.pair s t≠v:=by intro h;subst h;simp [Ty.isRow] at hv
      unfold qZ at h1 h2;rw[aSe e1] at h1;rw[aSe e2] at h2;exact key 0 (by simpa using h1) (by simpa using h2)
    |succ q=>exact key (q+1) (by simpa[qZ] using h1) (by simpa[qZ] using h2)
  | _=>
    intro x q l y h1 h2 hv;cases q with
    | zero=>
      unfold qZ at h1 h2;split at h1
      · rename_i e1
        split at h2
        · rename_i e2
          first
          |(cases e1;done)
          | (subst e2
             injection e1 with e1'
             subst e1';simp only[tI,aQE] at h1 h2;subst h1;subst h2;exact⟨rfl,rfl⟩)
        .simp at h2
      .simp at h1
    |succ q=>simp [qZ] at h1
theorem aIF {t:TypeId}{ti:TI}(hty:sO P t ti) (hr:ti.ty.isRow=false) {b off:Nat}{v:pC}(hc:w.cell? ⟨b,off,none⟩=some v):
    (Instr.loadAt t (.pointer (some ⟨b,off,none⟩))).run P w= .ok v w:=by
  obtain⟨d,hd,hrow⟩:=S8 hty
  have hagg:(isAgg t).run P w= .ok false w:=by
    unfold isAgg;rw[aQS,aQX hd w];rw[hr] at hrow;cases d<;>simp_all [TypeDesc.isRow]
  simp [Instr.loadAt,Instr.sureAddr,loadVar,aQS,hagg,hc]
omit hT hH in
theorem a90 {a b:Option q9}{e:q9}(h:orE a b=some e):a=some e∨b=some e:=by
  cases a with
  |some r=>exact .inl h
  |none=>exact .inr h
omit hT hH in
theorem a91 {H:List (Nat×pM)}{t:Ty}{i off:Nat}{b:Option pM}{x:Option q9}{e:q9}(h:orS H t i off b x=some e):x=some e∨(x=none∧F8 H t i off b=some e):=by
  cases x with
  |some r=>exact .inl h
  |none=>exact .inr ⟨rfl,h⟩
theorem aIG {t:TypeId}{ti:TI}{x:Operand}(ho:o.op= .load t x) (hs:rE T t=some ti) {i off:Nat}(hx:sM g w .ref (some (i,off)) (a.eval x)) {e:q9}(hr:R5 i off ti (pQ H i)=some e):r7 P o a g w H e:=by
  have hty:=sI hT hs;generalize hb:pQ H i=ob at hr;unfold R5 at hr;split at hr
  · rename_i u el _ _ _ v x' toks
    generalize hga:qZ (.rl el u) v x' off=oy at hr;unfold VR at hr;split at hr
    · rename_i k n
      cases hr;obtain⟨p,hp,hv⟩:=xI hx;obtain⟨p',cs,hp',hR,hra,_⟩:=hH.blk i _ hb;rw[hp] at hp';obtain rfl:=aQH hp';obtain⟨c1,c2,c3,rfl,rfl,hR2⟩:=BC hR hga;obtain⟨v0,hcur,rfl,hsh⟩:=hR2;have hc:w.cell? ⟨p.1,p.2+c1.length,none⟩=some v0:=by simpa using K1 hT hH hra 0 _ rfl
      have h1:=aIF (P:=P) hT hH hty rfl hc;exact r7.value (v:=v0) (g':=g) (w':=w) (by simp only[execOp,ho,hv,aQS,h1,aQK,aQ6]) (.pure hH ⟨⟨hcur,hsh⟩,trivial⟩)
    .cases hr
  .cases hr
theorem aIH {t:TypeId}{ti:TI}{x:Operand}(ho:o.op= .load t x) (hs:rE T t=some ti) {i off:Nat}(hx:sM g w .ref (some (i,off)) (a.eval x)) {e:q9}(hr:F8 H ti.ty i off (pQ H i)=some e) (hside: ∀p∈e.side,p):r7 P o a g w H e:=by
  have hty:=sI hT hs;generalize hb:pQ H i=ob at hr;unfold F8 at hr;split at hr
  case h_2=>cases hr
  rename_i v z toks;generalize hf:yV v z=of at hr;cases of with
  |none=>cases hr
  | some kn=>
    obtain⟨k,n0⟩:=kn;simp only[R7] at hr;generalize hk:pQ H k=ok at hr;unfold R6 at hr;split at hr
    case h_2=>cases hr
    rename_i el u0 l m;generalize hz:xD u0 l v z=oq at hr;cases oq with
    |none=>cases hr
    |some q=>
    obtain⟨v',x'⟩:=q;simp only[VV] at hr;generalize hga:qZ ti.ty v' x' off=oy at hr;cases oy with
    |none=>cases hr
    | some y=>
      simp only[VU,aQE] at hr;subst hr;have hnm:n0=m:=hside _ (aQ2.2 rfl);subst hnm;obtain⟨g',hH',hJ,heff⟩:=aIC hH hk hb hf hz;obtain⟨p,hp,hv⟩:=xI hx;obtain⟨p',cs,hp',hR,hra,_,_,_⟩:=hH'.blk i (.cells v' x' []) (by simp [qH,pQ]);rw[hJ,hp] at hp';obtain rfl:=aQH hp';obtain⟨c1,c2,c3,rfl,rfl,hR2⟩:=BC hR hga;obtain⟨v0,h1,h2,_⟩:=N4 hT hH' hty (K1 hT hH' hra) hR2;exact r7.valueW (v:=v0) (g':=g') (w':=w) (by simp only[execOp,ho,hv,aQS,h1,aQK,aQ6]) (heff _ _ _ _ rfl ⟨h2,trivial⟩)
theorem aII {t:TypeId}{x:Operand}(ho:o.op= .load t x) {sx:pN}(hx:rD g w sx (a.eval x)) {e:q9}(hr:R8 H (rE T t) sx=some e) (hside: ∀p∈e.side,p):r7 P o a g w H e:=by
  generalize hs:rE T t=ot at hr;replace hx:=hx.1;unfold R8 at hr;split at hr
  · rename_i ti k n c i o' _
    obtain⟨v,h1,h2,h3⟩:=aIE hT hH hs hx hr hside;obtain⟨side,slot,upd,rds⟩:=e;simp only at h2 h3;subst h3;exact r7.value (v:=v) (g':=g) (w':=w) (by simp only[execOp,ho,aQS,h1,aQK,aQ6]) (.pure hH h2)
  · rename_i ti u y k
    split at hr
    · rename_i hu
      subst hu;cases hr;have hty:=sI hT hs;obtain⟨b,off,cs,hv,hra,hS,hR⟩:=hx;obtain⟨v,h1,h2,_⟩:=N4 hT hH hty hra hR;exact r7.pure hH (v:=v) (by simp only[execOp,ho,hv,aQS,h1,aQK,aQ6]) h2
    .cases hr
  · rename_i ti i off k
    rcases a91 hr with hr|⟨_,hr⟩
    case inr=>exact aIH hT hH ho hs hx hr hside
    rcases a90 hr with hr|hr
    case inr=>exact aIG hT hH ho hs hx hr
    have hty:=sI hT hs;generalize hb:pQ H i=ob at hr;unfold MJ at hr;split at hr
    · rename_i u z toks
      generalize hga:qZ ti.ty u z off=oy at hr;cases oy with
      |none=>cases hr
      | some y=>
        cases hr;obtain⟨p,hp,hv⟩:=xI hx;obtain⟨p',cs,hp',hR,hra,_,_,htk⟩:=hH.blk i _ hb;rw[hp] at hp';obtain rfl:=aQH hp';obtain⟨c1,c2,c3,rfl,rfl,hR2⟩:=BC hR hga;obtain⟨v,h1,h2,h3⟩:=N4 hT hH hty (K1 hT hH hra) hR2;refine r7.value (v:=v) (g':=g) (w':=w) (by simp only[execOp,ho,hv,aQS,h1,aQK,aQ6]) (.pure hH ⟨h2,?_⟩);obtain⟨ty,el,by',ar,ls⟩:=ti;cases ty with
        | list u'=>
          simp only[CB];generalize htt:vR toks c1.length=ok;cases ok with
          |none=>trivial
          | some k=>
            obtain⟨u2,l,v',g1,g2,g3⟩:=htk _ _ (X0 hT hH htt);obtain⟨heq,hl⟩:=a9Z hT hH g1 hga rfl;injection heq with heq'
            subst heq';have hlen:=s3 hR2;obtain⟨v2,rfl⟩:=aRR.1 hlen
            have e2:v'=v2:=by
              have e:(c1++[v2]++c3)[c1.length]? =some v2:=by simp
              rw[e] at g2;exact(aQH g2).symm
            have e3:v=v2:=by
              have h4:=yI rfl h2;have hone:=yH h4 v oY;have:v.cells= #[v]:=by cases v<;>first|rfl|(simp [Value.oneCell'] at hone)
              rw[this] at h3;simpa using h3
            subst e2;subst e3;have e4:(y:List u'.den)=l:=hl;subst e4;exact g3
        |_=>trivial
    .cases hr
  .cases hr
theorem SC {ρ:Operand→pN}{x:Option Operand}{n m:Int}(hρ: ∀y∈x.toList,rD g w (ρ y) (a.eval y)) (h:B5 (xE ρ x) n=some m):(x=none∧m=n)∨∃y k,x=some y∧a.eval y= .int k m:=by
  cases x with
  |none=>simp only[xE,B5,aQE] at h;exact .inl ⟨rfl,h.symm⟩
  | some y=>
    have h0:=hρ y oY;simp only[xE] at h;unfold B5 at h;split at h
    .cases ‹some _=none›
    · rename_i k q kk heq
      simp only[aQE] at heq h;rw[heq] at h0;subst h;exact .inr ⟨y,k,rfl,uT h0.1⟩
    .cases h
theorem a92 {isSlice:Bool}{len cap:Nat}{lo hi:Option Operand}{m n:Int}(hlo:(lo=none∧m=0)∨∃y k,lo=some y∧a.eval y= .int k m) (hhi:(hi=none∧n=(len:Int))∨∃y k,hi=some y∧a.eval y= .int k n)
    (h0:0≤m) (h1:m≤n) (h2:n≤(len:Int)) (h3:len≤cap):(Instr.sliceBounds isSlice len cap (lo.map a.eval) (hi.map a.eval) none).run P w= .ok (m.toNat,n.toNat,cap) w:=by
  have e1:(n.toNat:Int)=n:=Int.toNat_of_nonneg oW;rcases hlo with⟨rfl,rfl⟩ |⟨y,k,rfl,hy⟩<;>rcases hhi with⟨rfl,rfl⟩ |⟨z,k',rfl,hz⟩
  .simp [Instr.sliceBounds]
  .simp [Instr.sliceBounds,hz,run_sliceBound,(by omega:0≤n),(by omega:n≤(cap:Int))]
  .simp [Instr.sliceBounds,hy,run_sliceBound,h0,h1]
  .simp [Instr.sliceBounds,hy,hz,run_sliceBound,(by omega:0≤n),(by omega:n≤(cap:Int)),e1,h0,h1]
theorem aIJ {t:TypeId}{x:Operand}{lo hi:Option Operand}(ho:o.op= .slice t x lo hi none) {ρ:Operand→pN}(hx:rD g w (ρ x) (a.eval x)) (hlo: ∀y∈lo.toList,rD g w (ρ y) (a.eval y)) (hhi: ∀y∈hi.toList,rD g w (ρ y) (a.eval y)) {e:q9}
    (hr:yA (VB (rE T t) (ρ x) (xE ρ lo) (xE ρ hi))=some e) (hs: ∀p∈e.side,p):r7 P o a g w H e:=by
  obtain⟨q,hq,rfl⟩:=FH hr;replace hx:=hx.1;generalize hst:rE T t=ot at hq;generalize hsx:ρ x=sx at hq hx;unfold VB at hq;split at hq
  · rename_i el by' ar ls_ l k
    generalize hb1:B5 (xE ρ lo) 0=o1 at hq;generalize hb2:B5 (xE ρ hi) (List.length l)=o2 at hq;unfold QO at hq;split at hq
    · rename_i m n
      cases hq;obtain⟨k1,k2,k3⟩:=hs _ (aQ2.2 rfl);have h2:=(sI hT hst).2;simp only[wJ] at h2;have hv:=uZ hx;have hbd:=a92 (P:=P) (isSlice:=false) (cap:=List.length l) hT hH (SC hT hH hlo hb1) (SC hT hH hhi hb2) k1 k2 k3 (aQ4 _);refine r7.pure hH (v:= .string ⟨(s0 l m n).toArray⟩) ?_ (yX _ _ _);have hsz:(⟨List.toArray l⟩:ByteArray).size=List.length l:=by simp [ByteArray.size]
      have hext:(⟨List.toArray l⟩:ByteArray).extract m.toNat n.toNat=⟨(s0 l m n).toArray⟩:=by
        apply ByteArray.ext;apply aRA.1;simp [s0]
      simp only[execOp,ho,hv,Option.map_none,Instr.sliceAt,Instr.slice,aQS,aQX h2,aQK,Option.isSome_none,aSg,aSF,hsz,hbd,hext,aQ6]
    .cases hq
  · rename_i u el by' ar ls_ t1 l k
    split at hq
    · rename_i htu
      subst htu;generalize hb1:B5 (xE ρ lo) 0=o1 at hq;generalize hb2:B5 (xE ρ hi) (List.length l)=o2 at hq;unfold QO at hq;split at hq
      · rename_i m n
        cases hq;obtain⟨k1,k2,k3⟩:=hs _ (aQ2.2 rfl);obtain⟨h2,h3,_⟩:=(sI hT hst).2;obtain⟨ei,hei,hz⟩:=aQQ.1 h3;simp only[aRc] at hz;obtain⟨ad,cap,hv,hle,hl⟩:=AK hx;have hbd:=a92 (P:=P) (isSlice:=true) (cap:=cap) hT hH (SC hT hH hlo hb1) (SC hT hH hhi hb2) k1 k2 k3 hle;refine r7.pure hH (v:= .slice (if cap=m.toNat then ad else ad.map (·.add (m.toNat*t1.cells))) (n.toNat-m.toNat) (cap-m.toNat)) ?_ (.inr ⟨rfl,(if cap=m.toNat then ad else ad.map (·.add (m.toNat*t1.cells))),cap-m.toNat,?_,?_,?_⟩)
        .simp only[execOp,ho,hv,Option.map_none,Instr.sliceAt,Instr.slice,aQS,aQX h2,aQK,hbd,sizeOf,typeInfo,aRu,hei,hz.1,aQ6]
        .rw[WY k1 k2 k3]
        .rw[WY k1 k2 k3];omega
        · rcases hl with rfl|⟨b,off,rfl,hL⟩
          .exact .inl (by simp [s0])
          · by_cases hc:cap=m.toNat
            · left
              apply aRe;rw[WY k1 k2 k3];omega
            · right
              rw[aQO hc];refine⟨b,off+m.toNat*t1.cells,by simp [aRN],?_⟩;exact a9N _ (a9M _ hL oW)
      .cases hq
    .cases hq
  .cases hq
end
theorem N5 {α:Type}{R:α->p7->Prop}{c:Nat}(hR: ∀x cs,R x cs->∀v∈cs,v.oneCell'=true): ∀{l:List α}{cs:p7},sQ R c l cs->∀v∈cs,v.oneCell'=true
 |[],_,h=>by rw[h];simp
 |_::_,_,⟨c1,c2,e,_,h2,h3⟩=>by
  subst e;intro v hv;rcases aRF.1 hv with h|h
  .exact hR _ _ h2 v h
  .exact N5 hR h3 v h
theorem X1 {α:Type}{R:α->p7->Prop}{c:Nat}: ∀{l:List α}{cs cy:p7}{i:Nat}{y:α},sQ R c l cs->R y cy->cy.length=c->i<l.length->
  ∃c1 c2 c3,cs=c1++c2++c3/\c1.length=i*c/\c2.length=c/\sQ R c (l.set i y) (c1++cy++c3)
 |[],_,_,_,_,_,_,_,h=>by simp at h
 |_::l,_,cy,0,y,⟨c1,c2,e,h1,_,h3⟩,hy,hc,_=>⟨[],c1,c2,by simpa using e,by simp,h1,⟨cy,c2,by simp,hc,hy,h3⟩⟩
 |x::l,_,cy,i+1,y,⟨c1,c2,e,h1,h2,h3⟩,hy,hc,hi=>by
  obtain⟨d1,d2,d3,e1,e2,e3,e4⟩:=X1 h3 hy hc (by simpa using hi);refine⟨c1++d1,d2,d3,by rw[e,e1];simp,by rw[aQG,h1,e2,aRB];omega,e3,⟨c1,d1++cy++d3,by simp,h1,h2,e4⟩⟩
theorem K2 {α:Type}{R:α->p7->Prop}{w:pB}{S:Nat->Nat->Prop}{c b:Nat}: ∀{l:List α}{o:Nat},wQ R w S c b o l->∃cs,sQ R c l cs/\w.rangeAt b o cs/\∀j,j<l.length*c->S b (o+j)
 |[],o,_=>⟨[],rfl,fun j v h=>by simp at h,fun j h=>by simp at h⟩
 |x::l,o,⟨⟨c1,h1,h2,h3,h4⟩,h5⟩=>by
  obtain⟨c2,k1,k2,k3⟩:=K2 h5;refine⟨c1++c2,⟨c1,c2,rfl,h1,h4,k1⟩,fun j v hv=> ?_,fun j hj=> ?_⟩
  .by_cases hj:j<c
   .exact h2 j v (by rwa [aQT oW] at hv)
   .have:=k2 (j-c) v (by rw[aQN oW,h1] at hv;exact hv);rwa [show o+c+(j-c)=o+j from by omega] at this
  .by_cases hj':j<c
   .exact h3 j hj'
   .have:=k3 (j-c) (by rw[aQJ,aRB] at hj;omega);rwa [show o+c+(j-c)=o+j from by omega] at this
theorem a93 {g:Gh}{w:pB}{t:Ty}: ∀n,sQ (Rd g w t) t.cells (AF t n) (List.flatten (List.replicate n (sX t)))
 |0=>rfl
 |n+1=>⟨sX t,_,rfl,s3 (BD g w t),BD g w t,a93 n⟩
theorem a94 (t:Ty): ∀n,(AF t n).length=n
 |0=>rfl
 |n+1=>by simp [AF,a94 t n]
def Gh.tok (g:Gh) (k n:Nat) (v:pC):Gh:={g with cur:=fun k' n'=>if k'=k/\n'=n then some v else g.cur k' n'}
def Gh.var (g:Gh) (i b:Nat) (k:Option (TypeId×Nat)):Gh:={g with J:=fun i'=>if i'=i then some ⟨b,0,k⟩ else g.J i'}
def Gh.shut (g:Gh) (b m:Nat):Gh:={g with S:=fun b' o=>g.S b' o\/(b'=b/\o<m)}
section
variable {g:Gh}{w:pB}{H:rH}(hH:rR g w H)
include hH
theorem rL.nilTok {side:List Prop}{d:DV}{rds:pA}{base e c:Nat}{u:Ty}(hd:d= .val (.list u) []) (hf: ∀n,g.cur base n=none):
  rL g w H ⟨side,(d,some base),[(base,.grow e c 0)],rds⟩ (g.tok base 0 (.slice none 0 0)) w (.slice none 0 0):=by
 have le:Le g w (g.tok base 0 (.slice none 0 0)) w:=⟨fun _ _ h=>h,fun _ _ _=>rfl,fun _ _ h=>h,fun k n v h=>by
  show (if k=base/\n=0 then _ else _)=_;rw[aQO (fun⟨e1,_⟩=>by rw[e1,hf] at h;cases h)];exact h⟩
 have fr:Fr (s6 g H (pS [(base,pM.grow e c 0)])) w w g.S (g.tok base 0 (.slice none 0 0)).S:= .refl _ _ _;have gho: ∀i,i∉pS [(base,pM.grow e c 0)]->(g.tok base 0 (.slice none 0 0)).J i=g.J i/\(g.tok base 0 (.slice none 0 0)).cur i=g.cur i:=fun i hi=>⟨rfl,by
  funext n;show (if i=base/\n=0 then _ else _)=_;rw[aQO (fun⟨e1,_⟩=>hi (by simp [pS,e1]))]⟩
 have cur0:(g.tok base 0 (.slice none 0 0)).cur base 0=some (.slice none 0 0):=by simp [Gh.tok]
 have own: ∀i blk b o,i∈pS [(base,pM.grow e c 0)]->pQ (qH [(base,pM.grow e c 0)] H) i=some blk->¬rK (g.tok base 0 (.slice none 0 0)) i blk b o:=by
  intro i blk b o hi hg ho;simp only[pS,aQ2] at hi;subst hi;simp only[qH,pQ,aR4,aQE] at hg;subst hg;obtain⟨v,hv,hb⟩:=ho;rw[cur0] at hv;obtain rfl:=aQH hv;cases hb
 subst hd;refine⟨le,⟨.inr ⟨rfl,none,0,rfl,aQ4 _,.inl rfl⟩,cur0⟩,hH.upd le fr (fun i blk b o h1 h2 h3=>absurd h3 (own i blk b o h1 h2)) gho (fun i blk hi hg=> ?_) (fun i j bi bj b o hi hj hij hgi hgj hoi hoj=>own i bi b o hi hgi hoi) hH.sl,fr,fun i blk b o h1 h2 h3=>absurd h3 (own i blk b o h1 h2),gho,fun i u' y us h=>by
  simp only[qH,pQ] at h;split at h
  .cases h
  .exact .inl ⟨y,us,h⟩⟩
 simp only[pS,aQ2] at hi;subst hi;simp only[qH,pQ,aR4,aQE] at hg;subst hg;refine⟨.slice none 0 0,[],cur0,World.ownsRow_nil w 0 e c,fun m hm=> ?_,fun b hb=>by cases hb⟩;show (if i=i/\m=0 then _ else _)=_;rw[aQO oW];exact hf m
theorem rL.row {side:List Prop}{rds:pA}{s:pN}{val:pC}{k:Nat}{e:TypeId}{t:Ty}{l:List t.den}{n:Nat}{v:pC}{xs:p7}{w':pB}
  (hl:l.length=n) (hown:w'.ownsRow 0 e t.cells v n xs) (hF:sQ (Rd g w t) t.cells l xs) (hnone: ∀m,n<m->g.cur k m=none) (hcur: ∀u,g.cur k n=some u->u=v)
  (hg:w.grownBy w' (v.ownBlock)\/∃q,w.grownBy w' q/\∀b,q=some b->∀o,s6 g H [k] b o)
  (hcell: ∀b o,g.S b o->w'.cell? ⟨b,o,none⟩=w.cell? ⟨b,o,none⟩)
  (hseal: ∀b,v.ownBlock=some b->∀o,¬g.S b o)
  (hperm: ∀b,v.ownBlock=some b->w.heap.size<=b\/∀o,s6 g H [k] b o)
  (hslot:rD (g.tok k n v) w' s val):rL g w H ⟨side,s,[(k,.row e t l n)],rds⟩ (g.tok k n v) w' val:=by
 have le:Le g w (g.tok k n v) w':=⟨fun _ _ h=>h,fun b o h=>hcell b o h,fun _ _ h=>h,fun k' n' v' h=>by
  show (if k'=k/\n'=n then _ else _)=_;by_cases hk:k'=k/\n'=n
  .obtain⟨rfl,rfl⟩:=hk;rw[aQI ⟨rfl,rfl⟩,hcur _ h]
  .rw[aQO hk];exact h⟩
 have cur1:(g.tok k n v).cur k n=some v:=by simp [Gh.tok]
 have hblk: ∀b,b<w.heap.size->(∀o,¬s6 g H (pS [(k,pM.row e t l n)]) b o)->w'.heap[b]? =w.heap[b]? :=by
  intro b hb hno;rcases hg with hg|⟨q,hg,hq⟩
  .refine hg.block b hb (fun e1=> ?_);rcases hperm b e1.symm with h|h
   .omega
   .exact hno 0 (h 0)
  .exact hg.block b hb (fun e1=>hno 0 (hq b e1.symm 0))
 have hgo:w'.os=w.os/\w'.tape=w.tape/\w'.output=w.output/\w.heap.size<=w'.heap.size:=by
  rcases hg with hg|⟨q,hg,_⟩
  .exact⟨hg.os,hg.tape,hg.output,hg.size⟩
  .exact⟨hg.os,hg.tape,hg.output,hg.size⟩
 have hall: ∀b o,s6 g H (pS [(k,pM.row e t l n)]) b o->True:=fun _ _ _=>trivial;have hcell2: ∀b o,b<w.heap.size->¬s6 g H (pS [(k,pM.row e t l n)]) b o->(w'.cell? ⟨b,o,none⟩=w.cell? ⟨b,o,none⟩/\w'.frozen? ⟨b,o,none⟩=w.frozen? ⟨b,o,none⟩):=by
  intro b o hb hno;have:w'.heap[b]? =w.heap[b]? :=by
   rcases hg with hg|⟨q,hg,hq⟩
   .refine hg.block b hb (fun e1=> ?_);rcases hperm b e1.symm with h|h
    .omega
    .exact hno (h o)
   .exact hg.block b hb (fun e1=>hno (hq b e1.symm o))
  exact⟨aQ5 (a:=⟨b,o,none⟩) this,aRp (a:=⟨b,o,none⟩) this⟩
 have hshape: ∀b s,w.shape? b=some s->w'.shape? b=some s\/∀o,s6 g H (pS [(k,pM.row e t l n)]) b o:=by
  intro b s hs;rcases hg with hg|⟨q,hg,hq⟩
  .by_cases e1:v.ownBlock=some b
   .rcases hperm b e1 with h|h
    .have:=zV hs;omega
    .exact .inr h
   .exact .inl ((zW (hg.block b (zV hs) (fun h=>e1 h.symm))).trans hs)
  .by_cases e1:q=some b
   .exact .inr (hq b e1)
   .exact .inl ((zW (hg.block b (zV hs) (fun h=>e1 h.symm))).trans hs)
 have fr:Fr (s6 g H (pS [(k,pM.row e t l n)])) w w' g.S (g.tok k n v).S:=⟨hgo.1,hgo.2.1,hgo.2.2.1,hgo.2.2.2,hblk,hcell2,fun b o h=> .inl h,hshape⟩;have gho: ∀i,i∉pS [(k,pM.row e t l n)]->(g.tok k n v).J i=g.J i/\(g.tok k n v).cur i=g.cur i:=fun i hi=>⟨rfl,by
  funext n';show (if i=k/\n'=n then _ else _)=_;rw[aQO (fun⟨e1,_⟩=>hi (by simp [pS,e1]))]⟩
 have get: ∀i blk,i∈pS [(k,pM.row e t l n)]->pQ (qH [(k,pM.row e t l n)] H) i=some blk->i=k/\blk= .row e t l n:=by
  intro i blk hi hg;simp only[pS,aQ2] at hi;subst hi;simp only[qH,pQ,aR4,aQE] at hg;exact⟨rfl,hg.symm⟩
 have perm: ∀i blk b o,i∈pS [(k,pM.row e t l n)]->pQ (qH [(k,pM.row e t l n)] H) i=some blk->rK (g.tok k n v) i blk b o->w.heap.size<=b\/s6 g H (pS [(k,pM.row e t l n)]) b o:=by
  intro i blk b o hi hgt ho;obtain⟨rfl,rfl⟩:=get i blk hi hgt;obtain⟨v',hv',hb⟩:=ho;rw[cur1] at hv';obtain rfl:=aQH hv';exact(hperm b hb).imp id (fun h=>h o)
 refine⟨le,hslot,hH.upd le fr perm gho (fun i blk hi hgt=> ?_) (fun i j bi bj b o hi hj hij hgi hgj _ _=>hij ((get i bi hi hgi).1.trans (get j bj hj hgj).1.symm)) (fun b o h=>aRh (hH.sl b o h) hgo.2.2.2),fr,perm,gho,fun i u' y us h=>by
  simp only[qH,pQ] at h;split at h
  .cases h
  .exact .inl ⟨y,us,h⟩⟩
 obtain⟨rfl,rfl⟩:=get i blk hi hgt;refine⟨hl,v,xs,cur1,hown,AJ (fun _ _ h=>vU le h) hF,fun m hm=> ?_,hseal⟩;show (if i=i/\m=n then _ else _)=_;rw[aQO oW];exact hnone m hm
theorem rL.newVarJ {side:List Prop}{rds:pA}{base:Nat}{t:Ty}{x:t.den}{toks:p5}{cs:p7}{e:TypeId}(hR:Rd (g.var base w.heap.size (some (e,cs.length))) w t x cs) (htk:DP g t x cs toks) (hf:g.J base=none) (hc:g.cur base=fun _=>none):
  rL g w H ⟨side,(.val .ref (some (base,0)),none),[(base,.cells t x toks)],rds⟩ (g.var base w.heap.size (some (e,cs.length))) (w.alloc (.cells cs.toArray e)) (.pointer (some ⟨w.heap.size,0,none⟩)):=by
 have hJ:(g.var base w.heap.size (some (e,cs.length))).J base=some ⟨w.heap.size,0,some (e,cs.length)⟩:=by simp [Gh.var]
 have le:Le g w (g.var base w.heap.size (some (e,cs.length))) (w.alloc (.cells cs.toArray e)):=⟨fun _ _ h=>h,fun b o h=>aQ5 (a:=⟨b,o,none⟩) (aRa _ _ _ (hH.sl b o h)),fun i p h=>by
  show (if i=base then _ else _)=_;rw[aQO (fun e1=>by rw[e1,hf] at h;cases h)];exact h,fun _ _ _ h=>h⟩
 have le2:Le (g.var base w.heap.size (some (e,cs.length))) w (g.var base w.heap.size (some (e,cs.length))) (w.alloc (.cells cs.toArray e)):=⟨fun _ _ h=>h,fun b o h=>aQ5 (a:=⟨b,o,none⟩) (aRa _ _ _ (hH.sl b o h)),fun _ _ h=>h,fun _ _ _ h=>h⟩;have fr:Fr (s6 g H (pS [(base,pM.cells t x toks)])) w (w.alloc (.cells cs.toArray e)) g.S (g.var base w.heap.size (some (e,cs.length))).S:=
  ⟨rfl,rfl,rfl,by simp,fun b hb _=>aRa _ _ _ hb,fun b o hb _=>⟨aQ5 (a:=⟨b,o,none⟩) (aRa _ _ _ hb),aRp (a:=⟨b,o,none⟩) (aRa _ _ _ hb)⟩,fun b o h=> .inl h,fun b s h=> .inl ((zW (aRa _ _ _ (zV h))).trans h)⟩
 have gho: ∀i,i∉pS [(base,pM.cells t x toks)]->(g.var base w.heap.size (some (e,cs.length))).J i=g.J i/\(g.var base w.heap.size (some (e,cs.length))).cur i=g.cur i:=fun i hi=>⟨by
  show (if i=base then _ else _)=_;rw[aQO (fun e1=>hi (by simp [pS,e1]))],rfl⟩
 have get: ∀i blk,i∈pS [(base,pM.cells t x toks)]->pQ (qH [(base,pM.cells t x toks)] H) i=some blk->i=base/\blk= .cells t x toks:=by
  intro i blk hi hg;simp only[pS,aQ2] at hi;subst hi;simp only[qH,pQ,aR4,aQE] at hg;exact⟨rfl,hg.symm⟩
 have perm: ∀i blk b o,i∈pS [(base,pM.cells t x toks)]->pQ (qH [(base,pM.cells t x toks)] H) i=some blk->rK (g.var base w.heap.size (some (e,cs.length))) i blk b o->w.heap.size<=b\/s6 g H (pS [(base,pM.cells t x toks)]) b o:=by
  intro i blk b o hi hg ho;obtain⟨rfl,rfl⟩:=get i blk hi hg;obtain⟨p,hp,h1,_⟩:=ho;rw[hJ] at hp;obtain rfl:=aQH hp;exact .inl (aR1 h1.symm)
 have hl:=s3 hR;refine⟨le,⟨.inr ⟨rfl,_,hJ,rfl⟩,trivial⟩,hH.upd le fr perm gho (fun i blk hi hg=> ?_) (fun i j bi bj b o hi hj hij hgi hgj _ _=>hij ((get i bi hi hgi).1.trans (get j bj hj hgj).1.symm)) (fun b o h=>aRh (hH.sl b o h) oY),fr,perm,gho,fun i u' y us h=>by
  simp only[qH,pQ] at h;split at h
  .rename_i e1;subst e1;exact .inr ⟨hf,fun n=>by rw[hc]⟩
  .exact .inl ⟨y,us,h⟩⟩
 obtain⟨rfl,rfl⟩:=get i blk hi hg;refine⟨_,cs,hJ,vU le2 hR,fun j v hv=> ?_,⟨fun j hj=> ?_,fun _ s hs=> ?_⟩,fun j _ hs=>aSk _ (hH.sl _ _ hs),a9L le.cur htk⟩
 .simp only[aRf];rw[aSB];simpa using hv
 .simp only[aRf];rw[aSB,World.frozen?_alloc_new];exact⟨by simp;omega,rfl⟩
 .cases hs;show (match (w.heap.push (.cells cs.toArray e))[w.heap.size]? with|some (.cells c elem _)=>some (elem,c.size) |_=>none)=_
  rw[aSv];simp only[aRo]
theorem rL.newVar {side:List Prop}{rds:pA}{base:Nat}{t:Ty}{x:t.den}{toks:p5}{cs:p7}{e:TypeId}(hR:Rd g w t x cs) (htk:DP g t x cs toks) (hf:g.J base=none) (hc:g.cur base=fun _=>none):
  rL g w H ⟨side,(.val .ref (some (base,0)),none),[(base,.cells t x toks)],rds⟩ (g.var base w.heap.size (some (e,cs.length))) (w.alloc (.cells cs.toArray e)) (.pointer (some ⟨w.heap.size,0,none⟩)):=
 rL.newVarJ hH (vU (g:=g) (g':=g.var base w.heap.size (some (e,cs.length))) (w:=w) (w':=w) ⟨fun _ _ h=>h,fun _ _ _=>rfl,fun i p h=>by
  show (if i=base then _ else _)=_;rw[aQO (fun e1=>by rw[e1,hf] at h;cases h)];exact h,fun _ _ _ h=>h⟩ hR) htk hf hc
end
theorem X2 {P:Program}(w:pB) (t ty e:TypeId) (i:TypeInfo) (z:pC) (size bytes:Nat) (ht:P.underlying t=some (.slice e)) (hi:P.info? e=some i) (hz:i.zero=some z)
  (hsize:i.size=size) (hby:i.bytes=bytes) (hzs:z.cells.size=size)
  (v:pC) (n:Nat) (xs:p7) (hown:w.ownsRow 0 e size v n xs)
  (a:Addr) (m c:Nat) (news:p7) (hl:news.length=m*size) (hnews: ∀j u,news[j]? =some u->w.cell? (a.add j)=some u) (h1: ∀u∈news,u.oneCell'=true) (hm:0<m)
  (h63:n+m<=maxLen) (hbytes:(n+m)*bytes<=140737488355328):
  ∃q cap w',(Builtin.append_ #[t,t] ty #[v,.slice (some a) m c]).run P w= .ok (.slice (some ⟨q,0,none⟩) (n+m) cap) w'/\w'.ownsRow 0 e size (.slice (some ⟨q,0,none⟩) (n+m) cap) (n+m) (xs++news)/\
   (q=w.heap.size\/v.ownBlock=some q)/\w.grownBy w' v.ownBlock/\n+m<=cap/\
   ∀b o,b<w.heap.size->(v.ownBlock=some b->o<n*size)->w'.cell? ⟨b,o,none⟩=w.cell? ⟨b,o,none⟩:=by
 subst hsize;subst hby;have hsmall:n+m<=9223372036854775807:=by simp only[maxLen] at h63;omega
 have hlen:(xs++news).length=(n+m)*i.size:=by rw[aQG,hown.1,hl,Nat.add_mul]
 have grown: ∀(old:Nat),old<n+m->∀(row:p9),
   (w.drew.alloc (.cells (xs.toArray++news.toArray++Builtin.zeroCells z.cells (grownCap w (n+m) old e- (n+m))) e)).ownsRow 0 e i.size
    (.slice (some ⟨w.heap.size,0,none⟩) (n+m) (grownCap w (n+m) old e)) (n+m) (xs++news)/\
   w.grownBy (w.drew.alloc (.cells (xs.toArray++news.toArray++Builtin.zeroCells z.cells (grownCap w (n+m) old e- (n+m))) e)) row/\n+m<=grownCap w (n+m) old e/\
   ∀b o,b<w.heap.size->(w.drew.alloc (.cells (xs.toArray++news.toArray++Builtin.zeroCells z.cells (grownCap w (n+m) old e- (n+m))) e)).cell? ⟨b,o,none⟩=w.cell? ⟨b,o,none⟩:=by
  intro old ho row;have hge:=grownCap_ge w (n+m) old e;have hcm:grownCap w (n+m) old e<=maxLen:=grownCap_le_maxLen w (n+m) old e h63;refine⟨⟨hlen,.inr ⟨w.heap.size,_,_,rfl,aRJ _,aSz w.drew _,hge,hcm,?_,?_⟩⟩,⟨rfl,rfl,rfl,by simp,fun k hk _=>aRa w.drew _ k hk⟩,hge,fun b o hb=>aQ5 (w:=w) (a:=⟨b,o,none⟩) (aRa w.drew _ b hb)⟩
  .simp only[aSm,aRo,size_zeroCells,hzs,hown.1,hl,<-Nat.add_mul];congr 1;omega
  .simp only[Array.toList_append,aQR];rw[<-aQR,<-hlen];exact aRZ
 rcases hown.2 with⟨rfl,rfl⟩ |⟨g,cap,cur,rfl,hbg,hg,hnc,hcm,hcs,htake⟩
 .have hx:xs=[]:=aRe (by simpa using hown.1);subst hx;have hr:=run_append_nil (P:=P) w t ty e i z ht hi hz a m c news hl hnews oW oW (by have hb:=hbytes;simp only[aRf] at hb;omega);have hgr:=grown 0 oW (Value.ownBlock (.slice none 0 0));simp only[aRf,List.nil_append,Array.empty_append] at hgr|-;exact⟨_,_,_,hr,hgr.1,.inl rfl,hgr.2.1,hgr.2.2.1,fun b o hb _=>hgr.2.2.2 b o hb⟩
 .by_cases hroom:n+m<=cap
  .have hfit:n*i.size+news.length<=cur.size:=by rw[hl,hcs,<-Nat.add_mul];exact aSo _ hroom
   have hr:=run_append_room (P:=P) w t ty e i ht hi g n cap cur hg a m c news hl hnews h1 hroom hfit;refine⟨_,_,_,hr,⟨hlen,.inr ⟨g,cap,_,rfl,hbg,aSs w g cur _ e _ hg,hroom,hcm,?_,?_⟩⟩,.inr rfl,⟨rfl,rfl,rfl,by simp,fun k _ hk=>aRY w g k _ (fun e=>hk (by simp [Value.ownBlock,e]))⟩,hroom,fun b o hb hso=> ?_⟩
   .simp only[aRo,aQG,aRd,aRg,aRb];omega
   .rw[htake,<-hlen];exact aRZ
   .by_cases hbg':b=g
    .subst hbg';have ho:=hso rfl;rw[cell_setRow_same w b o cur _ e _ hg,cell_of_row w b o cur e (0,0) hg];have hlt:o<(cur.toList.take (n*i.size)).length:=by rw[aRd,aRb];omega
     rw[aQR,List.getElem?_toArray,aQT hlt,aSf,aQI ho,aRx]
    .exact aQ5 (w:=w) (a:=⟨b,o,none⟩) (aRY w g b _ hbg')
  .have holds: ∀j u,xs[j]? =some u->w.cell? ((⟨g,0,none⟩:Addr).add j)=some u:=hown.cells (g:=g) rfl;have hr:=run_append_grow (P:=P) w t ty e i z ht hi hz ⟨g,0,none⟩ n cap xs hown.1 holds a m c news hl hnews oW oW (growslice_fits oW hbytes);have hgr:=grown cap oW (Value.ownBlock (.slice (some ⟨g,0,none⟩) n cap));exact⟨_,_,_,hr,hgr.1,.inl rfl,hgr.2.1,hgr.2.2.1,fun b o hb _=>hgr.2.2.2 b o hb⟩
theorem X3 {w:pB}{e:TypeId}{c n:Nat}{q cap:Nat}{xs:p7}(h:w.ownsRow 0 e c (.slice (some ⟨q,0,none⟩) n cap) n xs):w.rangeAt q 0 xs:=fun j u hu=>by
 have:=h.cells (g:=q) rfl j u hu;rwa [aRN] at this
theorem aIK (w:pB) (a:Addr) (v:pC) (b:Nat):(w.setCell a v).shape? b=w.shape? b:=by
 unfold World.shape? World.setCell;simp only[aRC];by_cases h:a.block=b
 .rw[aQI h];cases hb:w.heap[b]? with
  |none=>rfl
  |some x=>
   cases x with
   |cells c e f=>
    simp only[Option.map_some];split<;>simp
   |_=>rfl
 .rw[aQO h]
theorem N6 (b:Nat): ∀(l:p7) (o:Nat) (w:pB) (b':Nat),(w.setCells b o l).shape? b'=w.shape? b'
 |[],_,_,_=>rfl
 |v::l,o,w,b'=>by rw[World.setCells,N6 b l,aIK]
section
variable {g:Gh}{w:pB}{H:rH}(hH:rR g w H)
include hH
theorem rL.append {side:List Prop}{rds:pA}{k e c n:Nat}{u:Ty}{l r:List u.den}{w':pB}{q cap:Nat}{v:pC}{xs news:p7}(hk:pQ H k=some (.grow e c n)) (hc:c=u.cells)
  (hln:l.length=n) (hv:g.cur k n=some v) (hown:w.ownsRow 0 e c v n xs) (hnone: ∀m,n<m->g.cur k m=none) (hseal: ∀b,v.ownBlock=some b->∀o,g.S b o->o<n*c) (hl:sQ (Rd g w u) c l xs) (hr:sQ (Rd g w u) c r news) (hm:0<r.length)
  (ho:w'.ownsRow 0 e c (.slice (some ⟨q,0,none⟩) (n+r.length) cap) (n+r.length) (xs++news)) (hq:q=w.heap.size\/v.ownBlock=some q) (hg:w.grownBy w' v.ownBlock) (hcap:n+r.length<=cap)
  (hcell: ∀b o,b<w.heap.size->(v.ownBlock=some b->o<n*c)->w'.cell? ⟨b,o,none⟩=w.cell? ⟨b,o,none⟩):
  rL g w H ⟨side,(.val (.list u) (l++r),some k),[(k,.grow e c (n+r.length))],rds⟩ ((g.tok k (n+r.length) (.slice (some ⟨q,0,none⟩) (n+r.length) cap)).shut q ((n+r.length)*c)) w' (.slice (some ⟨q,0,none⟩) (n+r.length) cap):=by
 have hnb:=hnone (n+r.length) oW;have hownk: ∀o b,v.ownBlock=some b->s6 g H (pS [(k,pM.grow e c (n+r.length))]) b o:=fun o b hb=>⟨k,_,by simp [pS],hk,v,hv,hb⟩;have hqlt:q<w'.heap.size:=(ho.lt q rfl).2;have le:Le g w ((g.tok k (n+r.length) (.slice (some ⟨q,0,none⟩) (n+r.length) cap)).shut q ((n+r.length)*c)) w':=⟨fun _ _ h=> .inl h,fun b o h=>hcell b o (hH.sl b o h) (fun hb=>hseal b hb o h),fun _ _ h=>h,fun k' n' v' h=>by
  show (if k'=k/\n'=n+r.length then _ else _)=_;rw[aQO (fun⟨e1,e2⟩=>by rw[e1,e2,hnb] at h;cases h)];exact h⟩
 have fr:Fr (s6 g H (pS [(k,pM.grow e c (n+r.length))])) w w' g.S ((g.tok k (n+r.length) (.slice (some ⟨q,0,none⟩) (n+r.length) cap)).shut q ((n+r.length)*c)).S:=by
  have hbk: ∀b,b<w.heap.size->∀o,¬s6 g H (pS [(k,pM.grow e c (n+r.length))]) b o->w'.heap[b]? =w.heap[b]? :=fun b hb o hno=>hg.block b hb (fun e1=>hno (hownk o b e1.symm));refine⟨hg.os,hg.tape,hg.output,hg.size,fun b hb hno=>hbk b hb 0 (hno 0),fun b o hb hno=>⟨aQ5 (a:=⟨b,o,none⟩) (hbk b hb o hno),aRp (a:=⟨b,o,none⟩) (hbk b hb o hno)⟩,fun b o h=> ?_,fun b s hs=> ?_⟩
  rotate_left
  .by_cases e1:v.ownBlock=some b
   .exact .inr fun o=>hownk o b e1
   .exact .inl ((zW (hg.block b (zV hs) (fun h=>e1 h.symm))).trans hs)
  rcases h with h|⟨rfl,_⟩
  .exact .inl h
  .rcases hq with h|h
   .exact .inr (.inl (aR1 h.symm))
   .exact .inr (.inr (hownk o b h))
 have gho: ∀i,i∉pS [(k,pM.grow e c (n+r.length))]->((g.tok k (n+r.length) (.slice (some ⟨q,0,none⟩) (n+r.length) cap)).shut q ((n+r.length)*c)).J i=g.J i/\((g.tok k (n+r.length) (.slice (some ⟨q,0,none⟩) (n+r.length) cap)).shut q ((n+r.length)*c)).cur i=g.cur i:=fun i hi=>⟨rfl,by
  funext n';show (if i=k/\n'=n+r.length then _ else _)=_;rw[aQO (fun⟨e1,_⟩=>hi (by simp [pS,e1]))]⟩
 have cur1:((g.tok k (n+r.length) (.slice (some ⟨q,0,none⟩) (n+r.length) cap)).shut q ((n+r.length)*c)).cur k (n+r.length)=some (.slice (some ⟨q,0,none⟩) (n+r.length) cap):=by
  show (if k=k/\n+r.length=n+r.length then _ else _)=_;simp
 have get: ∀i blk,i∈pS [(k,pM.grow e c (n+r.length))]->pQ (qH [(k,pM.grow e c (n+r.length))] H) i=some blk->i=k/\blk= .grow e c (n+r.length):=by
  intro i blk hi hg;simp only[pS,aQ2] at hi;subst hi;simp only[qH,pQ,aR4,aQE] at hg;exact⟨rfl,hg.symm⟩
 have perm: ∀i blk b o,i∈pS [(k,pM.grow e c (n+r.length))]->pQ (qH [(k,pM.grow e c (n+r.length))] H) i=some blk->rK ((g.tok k (n+r.length) (.slice (some ⟨q,0,none⟩) (n+r.length) cap)).shut q ((n+r.length)*c)) i blk b o->w.heap.size<=b\/s6 g H (pS [(k,pM.grow e c (n+r.length))]) b o:=by
  intro i blk b o hi hgt ho';obtain⟨rfl,rfl⟩:=get i blk hi hgt;obtain⟨v',hv',hb⟩:=ho';rw[cur1] at hv';obtain rfl:=aQH hv';cases hb;rcases hq with h|h
  .exact .inl (aR1 h.symm)
  .exact .inr (hownk o _ h)
 have hF:sQ (Rd ((g.tok k (n+r.length) (.slice (some ⟨q,0,none⟩) (n+r.length) cap)).shut q ((n+r.length)*c)) w' u) u.cells (l++r) (xs++news):=hc▸AJ (fun _ _ h=>vU le h) (MZ hl hr);have hlr:(l++r).length=n+r.length:=by rw[aQG,hln]
 refine⟨le,⟨.inr ⟨rfl,some ⟨q,0,none⟩,cap,by rw[hlr],by rw[hlr];exact hcap,.inr ⟨q,0,rfl,K0 hF (X3 ho) (fun j hj=> ?_)⟩⟩,?_⟩,hH.upd le fr perm gho (fun i blk hi hgt=> ?_) (fun i j bi bj b o hi hj hij hgi hgj _ _=>hij ((get i bi hi hgi).1.trans (get j bj hj hgj).1.symm)) (fun b o h=> ?_),fr,perm,gho,fun i u' y us h=>by
  simp only[qH,pQ] at h;split at h
  .cases h
  .exact .inl ⟨y,us,h⟩⟩
 .right;rw[hlr] at hj;exact⟨rfl,by rw[hc];omega⟩
 .show _=_;rw[hlr];exact cur1
 .obtain⟨rfl,rfl⟩:=get i blk hi hgt;refine⟨_,_,cur1,ho,fun m hm'=> ?_,fun b hb o h=> ?_⟩
  .show (if i=i/\m=n+r.length then _ else _)=_;rw[aQO oW];exact hnone m oW
  .cases hb;rcases h with h|⟨_,h⟩
   .rcases hq with h2|h2
    .have:q<w.heap.size:=hH.sl _ _ h;omega
    .have:=hseal _ h2 o h;rw[Nat.add_mul];omega
   .exact h
 .rcases h with h|⟨rfl,_⟩
  .exact aRh (hH.sl b o h) hg.size
  .exact hqlt
theorem rL.lit {side:List Prop}{rds:pA}{base e c n:Nat}{u:Ty}{l:List u.den}{cs:p7}(hc:c=u.cells) (hln:l.length=n) (hl:sQ (Rd g w u) c l cs) (hn:n<=maxLen) (hf: ∀m,g.cur base m=none):
  rL g w H ⟨side,(.val (.list u) l,some base),[(base,.grow e c n)],rds⟩ ((g.tok base n (.slice (some ⟨w.heap.size,0,none⟩) n n)).shut w.heap.size (n*c)) (w.alloc (.cells cs.toArray e)) (.slice (some ⟨w.heap.size,0,none⟩) n n):=by
 have hlen:=FG hl;have le:Le g w ((g.tok base n (.slice (some ⟨w.heap.size,0,none⟩) n n)).shut w.heap.size (n*c)) (w.alloc (.cells cs.toArray e)):=⟨fun _ _ h=> .inl h,fun b o h=>aQ5 (a:=⟨b,o,none⟩) (aRa _ _ _ (hH.sl b o h)),fun _ _ h=>h,fun k' n' v' h=>by
  show (if k'=base/\n'=n then _ else _)=_;rw[aQO (fun⟨e1,e2⟩=>by rw[e1,hf] at h;cases h)];exact h⟩
 have fr:Fr (s6 g H (pS [(base,pM.grow e c n)])) w (w.alloc (.cells cs.toArray e)) g.S ((g.tok base n (.slice (some ⟨w.heap.size,0,none⟩) n n)).shut w.heap.size (n*c)).S:=
  ⟨rfl,rfl,rfl,by simp,fun b hb _=>aRa _ _ _ hb,fun b o hb _=>⟨aQ5 (a:=⟨b,o,none⟩) (aRa _ _ _ hb),aRp (a:=⟨b,o,none⟩) (aRa _ _ _ hb)⟩,fun b o h=>h.imp id fun h=> .inl (aR1 h.1.symm),fun b s h=> .inl ((zW (aRa _ _ _ (zV h))).trans h)⟩
 have gho: ∀i,i∉pS [(base,pM.grow e c n)]->((g.tok base n (.slice (some ⟨w.heap.size,0,none⟩) n n)).shut w.heap.size (n*c)).J i=g.J i/\((g.tok base n (.slice (some ⟨w.heap.size,0,none⟩) n n)).shut w.heap.size (n*c)).cur i=g.cur i:=fun i hi=>⟨rfl,by
  funext n';show (if i=base/\n'=n then _ else _)=_;rw[aQO (fun⟨e1,_⟩=>hi (by simp [pS,e1]))]⟩
 have cur1:((g.tok base n (.slice (some ⟨w.heap.size,0,none⟩) n n)).shut w.heap.size (n*c)).cur base n=some (.slice (some ⟨w.heap.size,0,none⟩) n n):=by
  show (if base=base/\n=n then _ else _)=_;simp
 have get: ∀i blk,i∈pS [(base,pM.grow e c n)]->pQ (qH [(base,pM.grow e c n)] H) i=some blk->i=base/\blk= .grow e c n:=by
  intro i blk hi hg;simp only[pS,aQ2] at hi;subst hi;simp only[qH,pQ,aR4,aQE] at hg;exact⟨rfl,hg.symm⟩
 have perm: ∀i blk b o,i∈pS [(base,pM.grow e c n)]->pQ (qH [(base,pM.grow e c n)] H) i=some blk->rK ((g.tok base n (.slice (some ⟨w.heap.size,0,none⟩) n n)).shut w.heap.size (n*c)) i blk b o->w.heap.size<=b\/s6 g H (pS [(base,pM.grow e c n)]) b o:=by
  intro i blk b o hi hgt ho';obtain⟨rfl,rfl⟩:=get i blk hi hgt;obtain⟨v',hv',hb⟩:=ho';rw[cur1] at hv';obtain rfl:=aQH hv';cases hb;exact .inl (aQ4 _)
 have hF:sQ (Rd ((g.tok base n (.slice (some ⟨w.heap.size,0,none⟩) n n)).shut w.heap.size (n*c)) (w.alloc (.cells cs.toArray e)) u) u.cells l cs:=hc▸AJ (fun _ _ h=>vU le h) hl;have hra:(w.alloc (.cells cs.toArray e)).rangeAt w.heap.size 0 cs:=fun j v hv=>by
  rw[aRf,aSB];simpa using hv
 refine⟨le,⟨.inr ⟨rfl,some ⟨w.heap.size,0,none⟩,n,by rw[hln],by rw[hln];exact aQ4 _,.inr ⟨w.heap.size,0,rfl,K0 hF hra (fun j hj=> ?_)⟩⟩,?_⟩,hH.upd le fr perm gho (fun i blk hi hgt=> ?_) (fun i j bi bj b o hi hj hij hgi hgj _ _=>hij ((get i bi hi hgi).1.trans (get j bj hj hgj).1.symm)) (fun b o h=> ?_),fr,perm,gho,fun i u' y us h=>by
  simp only[qH,pQ] at h;split at h
  .cases h
  .exact .inl ⟨y,us,h⟩⟩
 .right;rw[hln] at hj;exact⟨rfl,by rw[hc];omega⟩
 .show _=_;rw[hln];exact cur1
 .obtain⟨rfl,rfl⟩:=get i blk hi hgt;refine⟨_,cs,cur1,⟨by rw[hlen,hln],.inr ⟨w.heap.size,n,cs.toArray,rfl,aRJ _,aSz w _,aQ4 _,hn,by simp [hlen,hln],by simp [<-hln,<-hlen]⟩⟩,fun m hm'=> ?_,fun b hb o h=> ?_⟩
  .show (if i=i/\m=n then _ else _)=_;rw[aQO oW];exact hf m
  .cases hb;rcases h with h|⟨_,h⟩
   .exact absurd (hH.sl _ _ h) (aSk _)
   .exact h
 .rcases h with h|⟨rfl,_⟩
  .exact aRh (hH.sl b o h) oY
  .simp
theorem X4: ∀{toks:p5}{off n q k:Nat},(q,k)∈uG toks off n->(q,k)∈toks/\¬(off<=q/\q<off+n)
 |[],_,_,_,_,h=>by simp [uG] at h
 |(q',k')::r,off,n,q,k,h=>by
  simp only[uG] at h;split at h
  .obtain⟨h1,h2⟩:=X4 h;exact⟨aQZ _ h1,h2⟩
  .rename_i hn;rcases aQV.1 h with h|h
   .cases h;exact⟨by simp,hn⟩
   .obtain⟨h1,h2⟩:=X4 h;exact⟨aQZ _ h1,h2⟩
theorem aIL {u:Ty}{y:u.den}: ∀{t:Ty}{x z:t.den}{o:Nat},u.isRow=false->rZ u y t x o=some z->qZ u t z o=some y:=by
 intro t
 induction t with
 |pair a b iha ihb=>
  intro x z o hu h;have hne:u≠.pair a b:=by intro e;rw[e] at hu;cases hu
  have key: ∀o,(if o<a.cells then(rZ u y a x.1 o).map (fun q=>(q,x.2)) else(rZ u y b x.2 (o-a.cells)).map (fun q=>(x.1,q)))=some z->
    (if o<a.cells then qZ u a z.1 o else qZ u b z.2 (o-a.cells))=some y:=by
   intro o h;by_cases ho:o<a.cells
   .rw[aQI ho] at h|-;obtain⟨q,hq,rfl⟩:=aQQ.1 h;exact iha hu hq
   .rw[aQO ho] at h|-;obtain⟨q,hq,rfl⟩:=aQQ.1 h;exact ihb hu hq
  cases o with
  |zero=>
   unfold rZ at h;unfold qZ;rw[aSe hne] at h;rw[aSe (Ne.symm hne)];have:=key 0 (by simpa using h);simpa using this
  |succ o=>
   have:=key (o+1) (by simpa[rZ] using h);simpa[qZ] using this
 |_=>
  intro x z o hu h;cases o with
  |zero=>
   unfold rZ at h;split at h
   .rename_i e;subst e;simp only[tI,aQE] at h
    try subst h
    unfold qZ;simp [tI]
   .simp at h
  |succ o=>simp [rZ] at h
theorem a95 {u v:Ty}{y:u.den}: ∀{t:Ty}{x z:t.den}{o q:Nat}{l:(Ty.list v).den},rZ u y t x o=some z->qZ (.list v) t x q=some l->¬(o<=q/\q<o+u.cells)->qZ (.list v) t z q=some l:=by
 intro t
 induction t with
 |pair a b iha ihb=>
  intro x z o q l h g hq;by_cases hu:o=0/\u= .pair a b
  .obtain⟨rfl,rfl⟩:=hu;exfalso;apply hq;have: ∀(t:Ty) (x:t.den) (q:Nat) (l:(Ty.list v).den),qZ (.list v) t x q=some l->q<t.cells:=by
    intro t
    induction t with
    |pair s t ihs iht=>
     intro x q l g;have key: ∀q,(if q<s.cells then qZ (.list v) s x.1 q else qZ (.list v) t x.2 (q-s.cells))=some l->q<s.cells+t.cells:=by
      intro q g;by_cases h:q<s.cells
      .omega
      .rw[aQO h] at g;have:=iht _ _ _ g;omega
     cases q with
     |zero=>
      unfold qZ at g;rw[aSe (by intro e;cases e)] at g;exact key 0 (by simpa using g)
     |succ q=>exact key (q+1) (by simpa[qZ] using g)
    |_=>
     intro x q l g;cases q with
     |zero=>first|(simp [Ty.cells];done) |(unfold qZ at g;simp at g)
     |succ q=>simp [qZ] at g
   exact⟨aRJ _,by simpa using this _ _ _ _ g⟩
  .have keyh:(if o<a.cells then(rZ u y a x.1 o).map (fun q=>(q,x.2)) else(rZ u y b x.2 (o-a.cells)).map (fun q=>(x.1,q)))=some z:=by
    cases o with
    |zero=>
     unfold rZ at h;rw[aSe (fun e=>hu ⟨rfl,e⟩)] at h;simpa using h
    |succ o=>simpa[rZ] using h
   have keyg: ∀x:(Ty.pair a b).den,qZ (.list v) (.pair a b) x q=(if q<a.cells then qZ (.list v) a x.1 q else qZ (.list v) b x.2 (q-a.cells)):=by
    intro x;cases q with
    |zero=>
     conv=>lhs;unfold qZ
     rw[aSe (by intro e;cases e),Nat.zero_sub]
    |succ q=>simp [qZ]
   rw[keyg] at g|-;by_cases ho:o<a.cells
   .rw[aQI ho] at keyh;obtain⟨z',hz',rfl⟩:=aQQ.1 keyh;by_cases hqa:q<a.cells
    .rw[aQI hqa] at g|-;exact iha hz' g hq
    .rw[aQO hqa] at g|-;exact g
   .rw[aQO ho] at keyh;obtain⟨z',hz',rfl⟩:=aQQ.1 keyh;by_cases hqa:q<a.cells
    .rw[aQI hqa] at g|-;exact g
    .rw[aQO hqa] at g|-;exact ihb hz' g oW
 |unit=>
  intro x z o q l h g hq;cases q with
  |zero=>
   unfold qZ at g;rw[aSe (by intro e;cases e)] at g;cases g
  |succ q=>simp [qZ] at g
 |_=>
  intro x z o q l h g hq;cases o with
  |zero=>
   unfold rZ at h;split at h
   .rename_i e;subst e;cases q with
    |zero=>exact absurd ⟨aQ4 _,Nat.zero_lt_one⟩ hq
    |succ q=>simp [qZ] at g
   .simp at h
  |succ o=>simp [rZ] at h
theorem rL.store {side:List Prop}{rds:pA}{i:Nat}{u t:Ty}{x z:u.den}{y:t.den}{off:Nat}{toks:p5}{k:p9}{p:Pl}{cy:p7}{v:pC}(hb:pQ H i=some (.cells u x toks)) (hp:g.J i=some p)
  (hset:rZ t y u x off=some z) (hy:Rd g w t y cy) (hk:AI g t y v k) (hk2: ∀a b,t= .pair a b->k=none) (hv:t.isRow=false->cy=[v]):
  rL g w H ⟨side,(.any,none),[(i,.cells u z (qH (w5 k off) (uG toks off t.cells)))],rds⟩ g (w.setCells p.1 (p.2+off) cy) undef/\w.there p.1 (p.2+off) cy.length:=by
 obtain⟨p',cs,hp',hR,hra,hth,hns,htk⟩:=hH.blk i _ hb;rw[hp] at hp';obtain rfl:=aQH hp';obtain⟨c1,c2,c3,hcs,hl1,hl2,hz⟩:=S5 hy hR hset;subst hcs;subst hl1;have hcl:=s3 hR;have hyl:=s3 hy;simp only[aQG] at hcl;have hthere:w.there p.1 (p.2+c1.length) cy.length:=fun j hj=>by
  have:=hth.1 (c1.length+j) oW;rwa [<-aRm] at this
 have hout: ∀b o,(b=p.1->o<p.2+c1.length\/p.2+c1.length+cy.length<=o)->(w.setCells p.1 (p.2+c1.length) cy).cell? ⟨b,o,none⟩=w.cell? ⟨b,o,none⟩:=fun b o h=>World.cell?_setCells_out p.1 cy _ w ⟨b,o,none⟩ (fun e _=>h e);have hin: ∀b o,b=p.1->p.2+c1.length<=o->o<p.2+c1.length+cy.length->rK g i (.cells u x toks) b o:=fun b o e h1 h2=>⟨p,hp,e,oW,oW⟩;have hsz:(w.setCells p.1 (p.2+c1.length) cy).heap.size=w.heap.size:=by
  have: ∀(l:p7) (o:Nat) (w:pB),(w.setCells p.1 o l).heap.size=w.heap.size:=by
   intro l
   induction l with
   |nil=>intro o w;rfl
   |cons v l ih=>intro o w;rw[World.setCells,ih];simp [World.setCell]
  exact this _ _ _
 have hbk: ∀b,b≠p.1->(w.setCells p.1 (p.2+c1.length) cy).heap[b]? =w.heap[b]? :=by
  intro b hb;have: ∀(l:p7) (o:Nat) (w:pB),(w.setCells p.1 o l).heap[b]? =w.heap[b]? :=by
   intro l
   induction l with
   |nil=>intro o w;rfl
   |cons v l ih=>intro o w;rw[World.setCells,ih];exact Below.heap_setCell _ _ _ _ hb
  exact this _ _ _
 have hos:(w.setCells p.1 (p.2+c1.length) cy).os=w.os/\(w.setCells p.1 (p.2+c1.length) cy).tape=w.tape/\(w.setCells p.1 (p.2+c1.length) cy).output=w.output:=by
  have: ∀(l:p7) (o:Nat) (w:pB),(w.setCells p.1 o l).os=w.os/\(w.setCells p.1 o l).tape=w.tape/\(w.setCells p.1 o l).output=w.output:=by
   intro l
   induction l with
   |nil=>intro o w;exact⟨rfl,rfl,rfl⟩
   |cons v l ih=>intro o w;rw[World.setCells];exact ih _ _
  exact this _ _ _
 have hiS: ∀b o,g.S b o->¬(b=p.1/\p.2<=o/\o<p.2+u.cells):=fun b o hs ⟨e,h1,h2⟩=>hns (o-p.2) oW (by rw[show p.2+(o-p.2)=o from by omega,<-e];exact hs);have le:Le g w g (w.setCells p.1 (p.2+c1.length) cy):=⟨fun _ _ h=>h,fun b o h=>hout b o (fun e=>by
  have:=hiS b o h;rcases aRw o (p.2+c1.length) with h1|h1
  .exact .inl h1
  .rcases aRw o (p.2+c1.length+cy.length) with h2|h2
   .exact absurd ⟨e,oW,oW⟩ this
   .exact .inr h2),fun _ _ h=>h,fun _ _ _ h=>h⟩
 have hofI: ∀b o,rK g i (.cells u x toks) b o->s6 g H (pS [(i,pM.cells u z (qH (w5 k c1.length) (uG toks c1.length t.cells)))]) b o:=fun b o h=>⟨i,_,by simp [pS],hb,h⟩;have fr:Fr (s6 g H (pS [(i,pM.cells u z (qH (w5 k c1.length) (uG toks c1.length t.cells)))])) w (w.setCells p.1 (p.2+c1.length) cy) g.S g.S:=by
  refine⟨hos.1,hos.2.1,hos.2.2,aR1 hsz.symm,fun b hb' hno=> ?_,fun b o hb' hno=>⟨hout b o (fun e=> ?_),World.frozen?_setCells _ _ _ _ _⟩,fun b o h=> .inl h,fun b s hs=> .inl ((N6 _ _ _ _ _).trans hs)⟩
  .by_cases e:b=p.1
   .cases hcy:cy with
    |nil=>rfl
    |cons q l=>exact absurd (hofI b (p.2+c1.length) (hin b _ e (aQ4 _) (by rw[hcy];simp))) (hno _)
   .exact hbk b e
  .rcases aRw o (p.2+c1.length) with h1|h1
   .exact .inl h1
   .rcases aRw o (p.2+c1.length+cy.length) with h2|h2
    .exact absurd (hofI b o (hin b o e h1 h2)) hno
    .exact .inr h2
 have gho: ∀j,j∉pS [(i,pM.cells u z (qH (w5 k c1.length) (uG toks c1.length t.cells)))]->g.J j=g.J j/\g.cur j=g.cur j:=fun _ _=>⟨rfl,rfl⟩;have get: ∀j blk,j∈pS [(i,pM.cells u z (qH (w5 k c1.length) (uG toks c1.length t.cells)))]->pQ (qH [(i,pM.cells u z (qH (w5 k c1.length) (uG toks c1.length t.cells)))] H) j=some blk->j=i/\blk= .cells u z (qH (w5 k c1.length) (uG toks c1.length t.cells)):=by
  intro j blk hi hg;simp only[pS,aQ2] at hi;subst hi;simp only[qH,pQ,aR4,aQE] at hg;exact⟨rfl,hg.symm⟩
 have perm: ∀j blk b o,j∈pS [(i,pM.cells u z (qH (w5 k c1.length) (uG toks c1.length t.cells)))]->pQ (qH [(i,pM.cells u z (qH (w5 k c1.length) (uG toks c1.length t.cells)))] H) j=some blk->rK g j blk b o->w.heap.size<=b\/s6 g H (pS [(i,pM.cells u z (qH (w5 k c1.length) (uG toks c1.length t.cells)))]) b o:=by
  intro j blk b o hi hg ho;obtain⟨rfl,rfl⟩:=get j blk hi hg;exact .inr (hofI b o ho)
 refine⟨⟨le,⟨trivial,trivial⟩,hH.upd le fr perm gho (fun j blk hi hg=> ?_) (fun i j bi bj b o hi hj hij hgi hgj _ _=>hij ((get i bi hi hgi).1.trans (get j bj hj hgj).1.symm)) (fun b o h=>by rw[hsz];exact hH.sl b o h),fr,perm,gho,fun j u' y' us h=>by
  simp only[qH,pQ] at h;split at h
  .rename_i e1;subst e1;simp only[aQE,pM.cells.injEq] at h;obtain⟨rfl,_⟩:=h;exact .inl ⟨x,toks,hb⟩
  .exact .inl ⟨y',us,h⟩⟩,hthere⟩
 obtain⟨rfl,rfl⟩:=get j blk hi hg;refine⟨p,_,hp,vU le hz,fun q v hq=> ?_,⟨fun q hq=> ?_,fun h0 s hs=>(N6 _ _ _ _ _).trans (hth.2 h0 s hs)⟩,hns,?_⟩
 .by_cases h1:q<c1.length
  .rw[hout _ _ (fun _=> .inl oW)];refine hra q v ?_;rw[aQR,aQT h1] at hq|-;exact hq
  .by_cases h2:q<c1.length+cy.length
   .have:=aRX p.1 cy (p.2+c1.length) w (fun j hj=>(hthere j hj).1) (q-c1.length) oW;rw[show p.2+c1.length+(q-c1.length)=p.2+q from by omega] at this;rw[this];rw[aQR,aQN oW,aQT oW] at hq;rw[<-hq,aQM oW]
   .rw[hout _ _ (fun _=> .inr oW)];refine hra q v ?_;rw[aQR,aQN oW,aQN oW] at hq|-;rw[hl2];rw[hyl] at hq;exact hq
 .have hh:=hth.1 q hq;refine⟨?_,by rw[World.frozen?_setCells];exact hh.2⟩;by_cases h1:q<c1.length\/c1.length+cy.length<=q
  .rw[hout _ _ (fun _=>by omega)];exact hh.1
  .have:=aRX p.1 cy (p.2+c1.length) w (fun j hj=>(hthere j hj).1) (q-c1.length) oW;rw[show p.2+c1.length+(q-c1.length)=p.2+q from by omega] at this;rw[this];rfl
 .intro q kk hm;have hsplit:(q,kk)∈w5 k c1.length\/(q,kk)∈uG toks c1.length t.cells:=by
   cases k with
   |none=>exact .inr (by simpa[w5,qH] using hm)
   |some k=>
    simp only[w5,qH,aQV] at hm;rcases hm with hm|hm
    .exact .inl (by simp [w5,hm])
    .exact .inr hm
  rcases hsplit with hm|hm
  .cases k with
   |none=>simp [w5] at hm
   |some k=>
    simp only[w5,aQ2,aRc] at hm;obtain⟨rfl,rfl⟩:=hm;cases t with
    |list t=>
     obtain rfl:=hv rfl;exact⟨t,y,v,aIL hH rfl hset,by simp,hk⟩
    |pair a b=>cases hk2 a b rfl
    |_=>exact hk.elim
  .obtain⟨h1,h2⟩:=X4 hH hm;obtain⟨v',l,v1,g1,g2,g3⟩:=htk q kk h1;refine⟨v',l,v1,a95 hH hset g1 h2,?_,g3⟩;rcases aRw q c1.length with h3|h3
   .rw[aQR,aQT h3] at g2|-;exact g2
   .have h4:c1.length+t.cells<=q:=by omega
    rw[aQR,aQN oW,aQN oW] at g2|-;rw[hyl];rw[hl2] at g2;exact g2
theorem xG.openS {side:List Prop}{rds:pA}{i:Nat}{u u0:Ty}{el:Nat}{kn:p8}{x:u.den}{z: Σ t:Ty,t.den}{off:Nat}{toks:p5}{p:Pl}{cy:p7}(hb:pQ H i=some (.cells u x toks)) (hp:g.J i=some p)
  (hset:wG el u0 kn u x off=some z) (hy:CH g kn cy) (hyl:cy.length=1) (hre:F3 rds=true):
  xG g w H ⟨side,(.any,none),[(i,.cells z.1 z.2 [])],rds⟩ g (w.setCells p.1 (p.2+off) cy) undef/\w.there p.1 (p.2+off) cy.length:=by
 obtain⟨p',cs,hp',hR,hra,hth,hns,htk⟩:=hH.blk i _ hb;rw[hp] at hp';obtain rfl:=aQH hp';obtain⟨c1,c2,c3,hcs,hl1,hl2,hz⟩:=aIb hy hR hset;subst hcs;subst hl1;have hcl:=s3 hR;have hcz:=aIa hset;simp only[aQG] at hcl;have hthere:w.there p.1 (p.2+c1.length) cy.length:=fun j hj=>by
  have:=hth.1 (c1.length+j) oW;rwa [<-aRm] at this
 have hout: ∀b o,(b=p.1->o<p.2+c1.length\/p.2+c1.length+cy.length<=o)->(w.setCells p.1 (p.2+c1.length) cy).cell? ⟨b,o,none⟩=w.cell? ⟨b,o,none⟩:=fun b o h=>World.cell?_setCells_out p.1 cy _ w ⟨b,o,none⟩ (fun e _=>h e);have hin: ∀b o,b=p.1->p.2+c1.length<=o->o<p.2+c1.length+cy.length->rK g i (.cells u x toks) b o:=fun b o e h1 h2=>⟨p,hp,e,oW,oW⟩;have hsz:(w.setCells p.1 (p.2+c1.length) cy).heap.size=w.heap.size:=by
  have: ∀(l:p7) (o:Nat) (w:pB),(w.setCells p.1 o l).heap.size=w.heap.size:=by
   intro l
   induction l with
   |nil=>intro o w;rfl
   |cons v l ih=>intro o w;rw[World.setCells,ih];simp [World.setCell]
  exact this _ _ _
 have hbk: ∀b,b≠p.1->(w.setCells p.1 (p.2+c1.length) cy).heap[b]? =w.heap[b]? :=by
  intro b hb;have: ∀(l:p7) (o:Nat) (w:pB),(w.setCells p.1 o l).heap[b]? =w.heap[b]? :=by
   intro l
   induction l with
   |nil=>intro o w;rfl
   |cons v l ih=>intro o w;rw[World.setCells,ih];exact Below.heap_setCell _ _ _ _ hb
  exact this _ _ _
 have hos:(w.setCells p.1 (p.2+c1.length) cy).os=w.os/\(w.setCells p.1 (p.2+c1.length) cy).tape=w.tape/\(w.setCells p.1 (p.2+c1.length) cy).output=w.output:=by
  have: ∀(l:p7) (o:Nat) (w:pB),(w.setCells p.1 o l).os=w.os/\(w.setCells p.1 o l).tape=w.tape/\(w.setCells p.1 o l).output=w.output:=by
   intro l
   induction l with
   |nil=>intro o w;exact⟨rfl,rfl,rfl⟩
   |cons v l ih=>intro o w;rw[World.setCells];exact ih _ _
  exact this _ _ _
 have hiS: ∀b o,g.S b o->¬(b=p.1/\p.2<=o/\o<p.2+u.cells):=fun b o hs ⟨e,h1,h2⟩=>hns (o-p.2) oW (by rw[show p.2+(o-p.2)=o from by omega,<-e];exact hs);have le:Le g w g (w.setCells p.1 (p.2+c1.length) cy):=⟨fun _ _ h=>h,fun b o h=>hout b o (fun e=>by
  have:=hiS b o h;rcases aRw o (p.2+c1.length) with h1|h1
  .exact .inl h1
  .rcases aRw o (p.2+c1.length+cy.length) with h2|h2
   .exact absurd ⟨e,oW,oW⟩ this
   .exact .inr h2),fun _ _ h=>h,fun _ _ _ h=>h⟩
 have hofI: ∀b o,rK g i (.cells u x toks) b o->s6 g H (pS [(i,pM.cells z.1 z.2 [])]) b o:=fun b o h=>⟨i,_,by simp [pS],hb,h⟩;have fr:Fr (s6 g H (pS [(i,pM.cells z.1 z.2 [])])) w (w.setCells p.1 (p.2+c1.length) cy) g.S g.S:=by
  refine⟨hos.1,hos.2.1,hos.2.2,aR1 hsz.symm,fun b hb' hno=> ?_,fun b o hb' hno=>⟨hout b o (fun e=> ?_),World.frozen?_setCells _ _ _ _ _⟩,fun b o h=> .inl h,fun b s hs=> .inl ((N6 _ _ _ _ _).trans hs)⟩
  .by_cases e:b=p.1
   .cases hcy:cy with
    |nil=>rfl
    |cons q l=>exact absurd (hofI b (p.2+c1.length) (hin b _ e (aQ4 _) (by rw[hcy];simp))) (hno _)
   .exact hbk b e
  .rcases aRw o (p.2+c1.length) with h1|h1
   .exact .inl h1
   .rcases aRw o (p.2+c1.length+cy.length) with h2|h2
    .exact absurd (hofI b o (hin b o e h1 h2)) hno
    .exact .inr h2
 have gho: ∀j,j∉pS [(i,pM.cells z.1 z.2 [])]->g.J j=g.J j/\g.cur j=g.cur j:=fun _ _=>⟨rfl,rfl⟩;have get: ∀j blk,j∈pS [(i,pM.cells z.1 z.2 [])]->pQ (qH [(i,pM.cells z.1 z.2 [])] H) j=some blk->j=i/\blk= .cells z.1 z.2 []:=by
  intro j blk hi hg;simp only[pS,aQ2] at hi;subst hi;simp only[qH,pQ,aR4,aQE] at hg;exact⟨rfl,hg.symm⟩
 have perm: ∀j blk b o,j∈pS [(i,pM.cells z.1 z.2 [])]->pQ (qH [(i,pM.cells z.1 z.2 [])] H) j=some blk->rK g j blk b o->w.heap.size<=b\/s6 g H (pS [(i,pM.cells z.1 z.2 [])]) b o:=by
  intro j blk b o hi hg ho;obtain⟨rfl,rfl⟩:=get j blk hi hg;obtain⟨q,hq,e1,e2,e3⟩:=ho;rw[hcz] at e3;exact .inr (hofI b o ⟨q,hq,e1,e2,e3⟩)
 refine⟨⟨le,⟨trivial,trivial⟩,hH.upd le fr perm gho (fun j blk hi hg=> ?_) (fun i j bi bj b o hi hj hij hgi hgj _ _=>hij ((get i bi hi hgi).1.trans (get j bj hj hgj).1.symm)) (fun b o h=>by rw[hsz];exact hH.sl b o h),fr,perm,gho,fun h=>by rw[hre] at h;cases h⟩,hthere⟩;obtain⟨rfl,rfl⟩:=get j blk hi hg;refine⟨p,_,hp,vU le hz,fun q v hq=> ?_,⟨fun q hq=> ?_,fun h0 s hs=>(N6 _ _ _ _ _).trans (hth.2 (by rw[<-hcz];exact h0) s hs)⟩,fun q hq=>hns q (by rw[<-hcz];exact hq),fun _ _ hm=>by cases hm⟩
 .by_cases h1:q<c1.length
  .rw[hout _ _ (fun _=> .inl oW)];refine hra q v ?_;rw[aQR,aQT h1] at hq|-;exact hq
  .by_cases h2:q<c1.length+cy.length
   .have:=aRX p.1 cy (p.2+c1.length) w (fun j hj=>(hthere j hj).1) (q-c1.length) oW;rw[show p.2+c1.length+(q-c1.length)=p.2+q from by omega] at this;rw[this];rw[aQR,aQN oW,aQT oW] at hq;rw[<-hq,aQM oW]
   .rw[hout _ _ (fun _=> .inr oW)];refine hra q v ?_;rw[aQR,aQN oW,aQN oW] at hq|-;rw[hl2];rw[hyl] at hq;exact hq
 .have hh:=hth.1 q (by rw[<-hcz];exact hq);refine⟨?_,by rw[World.frozen?_setCells];exact hh.2⟩;by_cases h1:q<c1.length\/c1.length+cy.length<=q
  .rw[hout _ _ (fun _=>by omega)];exact hh.1
  .have:=aRX p.1 cy (p.2+c1.length) w (fun j hj=>(hthere j hj).1) (q-c1.length) oW;rw[show p.2+c1.length+(q-c1.length)=p.2+q from by omega] at this;rw[this];rfl
end
def wS (g:Gh) (base:Nat) (e:q9):Prop:= ∀i,i∈pS e.upd->base<=i->g.J i=none/\∀n,g.cur i n=none
section
variable {P:Program}{o:Oper}{a:Act}{g:Gh}{w:pB}{H:rH}{T:rW}(hT:vK P T) (hH:rR g w H)
include hT hH
theorem a96 {x:Operand}(ho:o.op= .move x\/o.op= .assign x) {sx:pN}(hx:rD g w sx (a.eval x)) {base:Nat}{e:q9}(hr:VH base (rE T o.type) sx=some e) (hf:wS g base e):r7 P o a g w H e:=by
 have hrun:(execOp a.eval o).run P w= .ok (.value (a.eval x)) w:=by rcases ho with ho|ho<;>simp [execOp,ho]
 generalize hst:rE T o.type=ot at hr;unfold VH at hr;split at hr
 .cases hr;have hv:a.eval x= .slice none 0 0:=hx.1;have hfr:=(hf base (by simp [pS]) (aQ4 _)).2;refine r7.value (v:= .slice none 0 0) (by rw[hrun,hv]) (rL.row (v:= .slice none 0 0) (xs:=[]) hH rfl (World.ownsRow_nil w 0 _ _) rfl (fun m _=>hfr m) (fun u hu=>by rw[hfr] at hu;cases hu) (.inl ⟨rfl,rfl,rfl,aQ4 _,fun _ _ _=>rfl⟩) (fun _ _ _=>rfl) (fun b hb=>by cases hb) (fun b hb=>by cases hb) ⟨⟨by simp [Gh.tok],.inl ⟨rfl,rfl⟩⟩,trivial⟩)
 .cases hr;have hv:a.eval x= .slice none 0 0:=hx.1;refine r7.value (v:= .slice none 0 0) (by rw[hrun,hv]) (rL.nilTok hH rfl (hf base (by simp [pS]) (aQ4 _)).2)
 .cases hr
 .cases hr;exact r7.value hrun (.pure hH hx)
theorem aIM {u:Ty}{y:List u.den}{k:p9}{v:pC}{cs:p7}(h:AI g (.list u) y v k) (hc:cs=[v]):DP g (.list u) y cs (w5 k 0):=by
 intro q kk hm;cases k with
 |none=>simp [w5] at hm
 |some k=>
  simp only[w5,aQ2,aRc] at hm;obtain⟨rfl,rfl⟩:=hm;exact⟨u,y,v,by unfold qZ;simp [tI],by rw[hc];rfl,h⟩
omit hT hH in
theorem K3 {α:Type}: ∀(l m n:List α),qH (qH l m) n=qH l (qH m n)
 |[],_,_=>rfl
 |x::l,m,n=>by simp only[qH,K3 l m n]
omit hT hH in
theorem BF {i:Nat}: ∀{l m:List (Nat×pM)},i∈pS (qH l m)↔i∈pS l\/i∈pS m
 |[],m=>by simp [qH,pS]
 |(k,b)::l,m=>by simp only[qH,pS,aQV,BF (l:=l),or_assoc]
omit hT hH in
theorem rL.trans {H:rH}{e1 e2:q9}{g1 g2:Gh}{w1 w2:pB}{v1 v2:pC}{side:List Prop}{rds:pA}(h:rL g w H e1 g1 w1 v1) (k:rL g1 w1 (qH e1.upd H) e2 g2 w2 v2):rL g w H ⟨side,e2.slot,qH e2.upd e1.upd,rds⟩ g2 w2 v2:=by
 have hB: ∀b o,s6 g1 (qH e1.upd H) (pS e2.upd) b o->w.heap.size<=b\/s6 g H (pS (qH e2.upd e1.upd)) b o:=by
  rintro b o ⟨i,blk,hi,hg,ho⟩;by_cases h1:i∈pS e1.upd
  .refine(h.perm i blk b o h1 hg ho).imp id fun⟨j,bj,hj,q⟩=>⟨j,bj,BF.2 (.inr hj),q⟩
  .exact .inr ⟨i,blk,BF.2 (.inl hi),(zX h1).symm.trans hg,(xH (h.gho i h1).1 (h.gho i h1).2).1 ho⟩
 have mono: ∀b o,s6 g H (pS e1.upd) b o->s6 g H (pS (qH e2.upd e1.upd)) b o:=fun b o ⟨j,bj,hj,q⟩=>⟨j,bj,BF.2 (.inr hj),q⟩;refine⟨h.le.trans k.le,k.slot,by simp only[K3];exact k.heap,?_,fun i blk b o hi hg ho=> ?_,fun i hi=> ?_,fun i u y us hg=> ?_⟩
 .have h1:Fr (s6 g H (pS (qH e2.upd e1.upd))) w w1 g.S g1.S:=⟨h.fr.os,h.fr.tape,h.fr.output,h.fr.size,fun b hb hn=>h.fr.blk b hb (fun o ho=>hn o (mono b o ho)),fun b o hb hn=>h.fr.cell b o hb (fun ho=>hn (mono b o ho)),fun b o hs=>(h.fr.new b o hs).imp id (Or.imp id (mono b o)),fun b s hs=>(h.fr.shape b s hs).imp id fun h o=>mono b o (h o)⟩;exact h1.trans k.fr hB
 .simp only[K3] at hg;by_cases h2:i∈pS e2.upd
  .rcases k.perm i blk b o h2 hg ho with h3|h3
   .exact .inl (aRs h.fr.size h3)
   .exact hB b o h3
  .have hi1:i∈pS e1.upd:=(BF.1 hi).resolve_left h2;rw[zX h2] at hg;exact(h.perm i blk b o hi1 hg ((xH (k.gho i h2).1 (k.gho i h2).2).1 ho)).imp id (mono b o)
 .have h2:i∉pS e2.upd:=fun q=>hi (BF.2 (.inl q));have h1:i∉pS e1.upd:=fun q=>hi (BF.2 (.inr q));exact⟨(k.gho i h2).1.trans (h.gho i h1).1,(k.gho i h2).2.trans (h.gho i h1).2⟩
 .simp only[K3] at hg;rcases k.ty i u y us hg with⟨x,ts,h3⟩ |⟨h3,h4⟩
  .exact h.ty i u x ts h3
  .right;refine⟨?_,fun n=> ?_⟩
   .cases hj:g.J i with
    |none=>rfl
    |some p=>rw[h.le.J i p hj] at h3;cases h3
   .cases hj:g.cur i n with
    |none=>rfl
    |some p=>rw[<-h4 n,h.le.cur i n p hj]
omit hT hH in
theorem rL.congrH {H H':rH}{e:q9}{g':Gh}{w':pB}{v:pC}(h:rL g w H e g' w' v) (hH:H=H'):rL g w H' e g' w' v:=hH▸h
omit hT hH in
theorem X5 {w:pB}: ∀(ls:List (Nat×TypeId×Nat)) (i:Nat) (g:Gh) (H:rH),rR g w H->(∀j,i<=j->j<i+ls.length->∀n,g.cur j n=none)->
  ∃g1,rL g w H ⟨[],(.any,none),B8 ls i,[]⟩ g1 w undef/\g1.J=g.J/\(∀o k,(o,k)∈zQ ls i->g1.cur k 0=some (.slice none 0 0))/\(∀k,k<i->g1.cur k=g.cur k)
 |[],i,g,H,hH,_=>⟨g,.pure hH ⟨trivial,trivial⟩,rfl,fun _ _ h=>by simp [zQ] at h,fun _ _=>rfl⟩
 |(o,e,c)::r,i,g,H,hH,hf=>by
  have e1:=rL.nilTok (side:=[]) (d:= .val (.list .bool) []) (rds:=[]) (base:=i) (e:=e) (c:=c) (u:= .bool) hH rfl (hf i (aQ4 _) oY);have hc1: ∀k n,k≠i->(g.tok i 0 (.slice none 0 0)).cur k n=g.cur k n:=fun k n hk=>by
   show (if k=i/\n=0 then _ else _)=_;rw[aQO (fun h=>hk h.1)]
  obtain⟨g1,k1,k2,k3,k4⟩:=X5 r (i+1) (g.tok i 0 (.slice none 0 0)) (qH [(i,pM.grow e c 0)] H) e1.heap (fun j h1 h2 n=>by rw[hc1 j n oW];exact hf j oW (by simp only[aQJ];omega) n);refine⟨g1,e1.trans k1,k2.trans rfl,fun o' k hm=> ?_,fun k hk=> ?_⟩
  .simp only[zQ,aQV,aRc] at hm;rcases hm with⟨rfl,rfl⟩ |hm
   .rw[k4 _ oW];show (if k=k/\0=0 then _ else _)=_;simp
   .exact k3 o' k hm
  .rw[k4 k oW];funext n;exact hc1 k n oW
omit hT hH in
theorem X6: ∀{ls:List (Nat×TypeId×Nat)}{i o k:Nat},(o,k)∈zQ ls i->∃q∈ls,q.1=o
 |[],_,_,_,h=>by simp [zQ] at h
 |(o',e,c)::r,i,o,k,h=>by
  simp only[zQ,aQV,aRc] at h;rcases h with⟨h1,_⟩ |h
  .exact⟨(o',e,c),by simp,h1.symm⟩
  .obtain⟨q,h1,h2⟩:=X6 h;exact⟨q,by simp [h1],h2⟩
omit hT hH in
theorem X7 {t:Ty}: ∀{ls:List (Nat×TypeId×Nat)},CE t ls=true->∀q∈ls,CD t q.1=true
 |[],_,_,h=>by cases h
 |(o,e,c)::r,h,q,hq=>by
  simp only[CE,aQU] at h;rcases aQV.1 hq with rfl|hq
  .exact h.1
  .exact X7 h.2 q hq
omit hT hH in
theorem N7: ∀(ls:List (Nat×TypeId×Nat)) (i j:Nat),j∈pS (B8 ls i)↔i<=j/\j<i+ls.length
 |[],i,j=>by simp only[B8,pS,aSb,aQW,false_iff];omega
 |(o,e,c)::r,i,j=>by
  simp only[B8,BF,N7 r (i+1) j,pS,aQ2,aQJ];omega
omit hT hH in
theorem a97 {w:pB}: ∀(R:List (Nat×Nat×Ty)) (i:Nat) (g:Gh) (H:rH),rR g w H->(∀j,i<=j->j<i+R.length->∀n,g.cur j n=none)->
  ∃g1,rL g w H ⟨[],(.any,none),HA R i,[]⟩ g1 w undef/\g1.J=g.J/\(∀j,j<R.length->g1.cur (i+j) 0=some (.slice none 0 0))/\(∀k,k<i->g1.cur k=g.cur k)
 |[],i,g,H,hH,_=>⟨g,.pure hH ⟨trivial,trivial⟩,rfl,fun _ h=>by simp at h,fun _ _=>rfl⟩
 |(o,e,u)::r,i,g,H,hH,hf=>by
  have hfr:=hf i (aQ4 _) oY;have e1:=rL.row (side:=[]) (rds:=[]) (k:=i) (e:=e) (t:=u) (l:=[]) (n:=0) (s:=(.any,none)) (val:=undef) (v:= .slice none 0 0) (xs:=[]) hH rfl (World.ownsRow_nil w 0 _ _) rfl (fun m _=>hfr m) (fun u hu=>by rw[hfr] at hu;cases hu) (.inl ⟨rfl,rfl,rfl,aQ4 _,fun _ _ _=>rfl⟩) (fun _ _ _=>rfl) (fun b hb=>by cases hb) (fun b hb=>by cases hb) ⟨trivial,trivial⟩;have hc1: ∀k n,k≠i->(g.tok i 0 (.slice none 0 0)).cur k n=g.cur k n:=fun k n hk=>by
   show (if k=i/\n=0 then _ else _)=_;rw[aQO (fun h=>hk h.1)]
  obtain⟨g1,k1,k2,k3,k4⟩:=a97 r (i+1) (g.tok i 0 (.slice none 0 0)) (qH [(i,pM.row e u [] 0)] H) e1.heap (fun j h1 h2 n=>by rw[hc1 j n oW];exact hf j oW (by simp only[aQJ];omega) n);refine⟨g1,e1.trans k1,k2.trans rfl,fun j hj=> ?_,fun k hk=> ?_⟩
  .cases j with
   |zero=>
    rw[aRL,k4 _ oW];show (if i=i/\0=0 then _ else _)=_;simp
   |succ j=>
    have:=k3 j (by simpa using hj);rwa [show i+1+j=i+(j+1) by omega] at this
  .rw[k4 k oW];funext n;exact hc1 k n oW
omit hT hH in
theorem a98: ∀(R:List (Nat×Nat×Ty)) (i j:Nat),j∈pS (HA R i)↔i<=j/\j<i+R.length
 |[],i,j=>by simp only[HA,pS,aSb,aQW,false_iff];omega
 |(o,e,c)::r,i,j=>by
  simp only[HA,BF,a98 r (i+1) j,pS,aQ2,aQJ];omega
omit hT hH in
theorem X8 {α:Type}: ∀l:List α,MH l=l.length
 |[]=>rfl
 |_::l=>by simp only[MH,X8 l,aQJ]
omit hT hH in
theorem N8 {α:Type}{x:α}: ∀{l m:List α},x∈qH l m↔x∈l\/x∈m
 |[],m=>by simp [qH]
 |y::l,m=>by simp only[qH,aQV,N8 (l:=l),or_assoc]
omit hT hH in
theorem aIN {g:Gh}{w:pB}: ∀{t:Ty}{x:t.den}{cs:p7}{o:Nat},Rd g w t x cs->∀q∈CF t x o,o<=q.1/\cs[q.1-o]? =some (.slice none 0 0):=by
 intro t
 induction t with
 |pair a b iha ihb=>
  intro x cs o r q hq;obtain⟨c1,c2,rfl,r1,r2⟩:=r;simp only[CF,N8] at hq;have hl:=s3 r1;rcases hq with hq|hq
  .obtain⟨h1,h2⟩:=iha r1 q hq;exact⟨h1,by rw[aQT (aQP.1 h2).1];exact h2⟩
  .obtain⟨h1,h2⟩:=ihb r2 q hq;refine⟨oW,?_⟩;rw[aQN oW,hl,show q.1-o-a.cells=q.1- (o+a.cells) by omega];exact h2
 |rl e u=>
  intro x cs o r q hq;cases x with
  |none=>
   simp only[CF,VJ,aQ2] at hq;subst hq;refine⟨aQ4 _,?_⟩;rw[show cs=[.slice none 0 0] from r];simp
  |some z=>simp [CF,VJ] at hq
 |_=>intro x cs o r q hq;simp [CF] at hq
omit hT hH in
theorem aIO {g:Gh}{w:pB}: ∀{t:Ty}{x:t.den}{cs:p7}{o:Nat},Rd g w t x cs->∀q∈DL t x o,o<=q/\cs[q-o]? =some (.pointer none):=by
 intro t
 induction t with
 |pair a b iha ihb=>
  intro x cs o r q hq;obtain⟨c1,c2,rfl,r1,r2⟩:=r;simp only[DL,N8] at hq;have hl:=s3 r1;rcases hq with hq|hq
  .obtain⟨h1,h2⟩:=iha r1 q hq;exact⟨h1,by rw[aQT (aQP.1 h2).1];exact h2⟩
  .obtain⟨h1,h2⟩:=ihb r2 q hq;refine⟨oW,?_⟩;rw[aQN oW,hl,show q-o-a.cells=q- (o+a.cells) by omega];exact h2
 |mref=>
  intro x cs o r q hq;cases x with
  |none=>
   simp only[DL,VK,aQ2] at hq;subst hq;refine⟨aQ4 _,?_⟩;rw[show cs=[.pointer none] from r];simp
  |some z=>simp [DL,VK] at hq
 |_=>intro x cs o r q hq;simp [DL] at hq
omit hT hH in
theorem a99 {g:Gh}{w:pB}{t u:Ty}{x z:t.den}{y:u.den}{cs:p7}{o:Nat}{v:pC}(h:rZ u y t x o=some z) (hy:Rd g w u y [v]) (hR:Rd g w t x cs) (hv:cs[o]? =some v):Rd g w t z cs:=by
 obtain⟨c1,c2,c3,rfl,rfl,h2,h3⟩:=S5 hy hR h;have hu:=s3 hy;simp only[List.length_singleton] at hu;rw[<-hu] at h2;obtain⟨v',rfl⟩:=aRR.1 h2;have:(c1++[v']++c3)[c1.length]? =some v':=by simp
 rw[this] at hv;obtain rfl:=aQH hv;exact h3
omit hT hH in
theorem aAa {g:Gh}{w:pB}{t:Ty}{cs:p7}: ∀{R:List (Nat×Nat×Ty)}{i:Nat}{x z:t.den},H9 t i R (some x)=some z->Rd g w t x cs->(∀q∈R,cs[q.1]? =some (.slice none 0 0))->(∀j,j<R.length->g.cur (i+j) 0=some (.slice none 0 0))->Rd g w t z cs
 |[],i,x,z,h,hR,_,_=>by simp only[H9,aQE] at h;exact h▸hR
 |(o,e,u)::r,i,x,z,h,hR,hc,hg=>by
  simp only[H9] at h;cases hs:rZ (.rl e u) (some (i,0)) t x o with
  |none=>rw[hs] at h;cases r<;>simp [H9] at h
  |some x'=>
   rw[hs] at h;refine aAa h (a99 (v:= .slice none 0 0) hs ⟨_,by simpa using hg 0 oY,rfl,.inl ⟨rfl,rfl⟩⟩ hR (hc _ aQ3)) (fun q hq=>hc q (aQZ _ hq)) (fun j hj=> ?_);have:=hg (j+1) (by simpa using hj);rwa [show i+(j+1)=i+1+j by omega] at this
omit hT hH in
theorem aAb {g:Gh}{w:pB}{t:Ty}{cs:p7}{i:Nat}{p:Pl}(hp:g.J i=some p) (hp2:p.2=0): ∀{M:pA}{x z:t.den},F7 t i M (some x)=some z->Rd g w t x cs->(∀q∈M,cs[q]? =some (.pointer none)/\WK p.3 q)->Rd g w t z cs
 |[],x,z,h,hR,_=>by simp only[F7,aQE] at h;exact h▸hR
 |q::r,x,z,h,hR,hc=>by
  simp only[F7] at h;cases hs:rZ .mref (some (i,q)) t x q with
  |none=>rw[hs] at h;cases r<;>simp [F7] at h
  |some x'=>
   rw[hs] at h;exact aAb hp hp2 h (a99 (v:= .pointer none) hs ⟨p,hp,by rw[hp2,aRf];exact(hc _ aQ3).2,.inl rfl⟩ hR (hc _ aQ3).1) (fun q hq=>hc q (aQZ _ hq))
omit hT hH in
theorem SD {k:Nat}: ∀{ls:List (Nat×TypeId×Nat)}{q:Nat×TypeId×Nat},q∈zR k ls->q.1+1≠k
 |[],_,h=>by cases h
 |(o,e,c)::r,q,h=>by
  simp only[zR] at h;split at h
  .exact SD h
  .rename_i hne;rcases aQV.1 h with rfl|h
   .exact hne
   .exact SD h
omit hT in
theorem aAc {t:Ty}{y:t.den}{ls:List (Nat×TypeId×Nat)}{base:Nat}{e:q9}{cs:p7}{el:TypeId}(hr:R1 base el t y ls (CE t ls)=some e) (hf:wS g base e) (hR:Rd g w t y cs) (hn: ∀q∈ls,∃k,wA k t 0 cs/\q.1+1≠k):
  ∃g',rL g w H e g' (w.alloc (.cells cs.toArray el)) (.pointer (some ⟨w.heap.size,0,none⟩)):=by
 cases hl:CE t ls with
 |false=>rw[hl] at hr;cases hr
 |true=>
  rw[hl] at hr;simp only[R1,X8] at hr;have cR:=fun q hq=>aIN (o:=0) hR q hq;have cM: ∀q∈R0 el t y,cs[q]? =some (.pointer none)/\WK (some (el,cs.length)) q:=by
   intro q hq;unfold R0 at hq;split at hq
   .rename_i hb;have h0:=fun q hq=>aIO (o:=0) hR q hq;have hl:=s3 hR;generalize DL t y 0=M at hq h0;rw[<-hl] at hq;unfold a9c at hq;split at hq
    .rename_i h2;simp only[aQ2] at hq;subst hq;exact⟨by simpa using(h0 0 oY).2,rfl,el,hb,by rw[h2]⟩
    .cases hq
   .cases hq
  generalize CF t y 0=R at hr cR;generalize R0 el t y=M at hr cM;cases hz1:H9 t (base+1+ls.length) R (some y) with
  |none=>
   rw[hz1] at hr;have:F7 t base M none=none:=by cases M<;>rfl
   rw[this] at hr;cases hr
  |some z1=>
   rw[hz1] at hr;cases hz2:F7 t base M (some z1) with
   |none=>rw[hz2] at hr;cases hr
   |some z=>
    rw[hz2] at hr;simp only[a9d,X8] at hr;obtain rfl:=(aQH hr);have hfr: ∀j,base+1<=j->j<base+1+ls.length+R.length->g.J j=none/\∀n,g.cur j n=none:=fun j h1 h2=>hf j (by
     simp only[pS,aQV];right;rw[BF];by_cases h3:j<base+1+ls.length
     .exact .inr ((N7 ls (base+1) j).2 ⟨h1,h3⟩)
     .exact .inl ((a98 R (base+1+ls.length) j).2 ⟨oW,h2⟩)) oW
    have hf0:=hf base (by simp [pS]) (aQ4 _);obtain⟨g1,k1,k2,k3,k4⟩:=X5 ls (base+1) g H hH (fun j h1 h2=>(hfr j h1 oW).2);have hfr1: ∀j,base+1+ls.length<=j->j<base+1+ls.length+R.length->∀n,g1.cur j n=none:=by
     intro j h1 h2 n;have:=(k1.gho j (by simp only;rw[N7];omega)).2;rw[this];exact(hfr j oW h2).2 n
    obtain⟨g2,m1,m2,m3,m4⟩:=a97 R (base+1+ls.length) g1 _ k1.heap hfr1;have hJ:(g2.var base w.heap.size (some (el,cs.length))).J base=some ⟨w.heap.size,0,some (el,cs.length)⟩:=by simp [Gh.var]
    have hle:Le g w (g2.var base w.heap.size (some (el,cs.length))) w:=by
     refine((k1.le.trans m1.le).trans ⟨fun _ _ h=>h,fun _ _ _=>rfl,fun i p h=> ?_,fun _ _ _ h=>h⟩);show (if i=base then _ else _)=_;rw[aQO (fun e1=>by rw[e1,m2,k2,hf0.1] at h;cases h)];exact h
    have hRz:Rd (g2.var base w.heap.size (some (el,cs.length))) w t z cs:=aAb hJ rfl hz2 (aAa hz1 (vU hle hR) (fun q hq=>by simpa using(cR q hq).2) (fun j hj=>m3 j hj)) cM;have htk:DP g2 t z cs (zQ ls (base+1)):=by
     intro o k hm;obtain⟨q,hq,rfl⟩:=X6 hm;obtain⟨kx,hx1,hx2⟩:=hn q hq;obtain⟨u,h1,h2⟩:=a9T hx1 hRz (X7 hl q hq) oW;exact⟨u,[],_,h1,h2,m1.le.cur _ _ _ (k3 _ _ hm)⟩
    have e3:=rL.newVarJ (side:=[]) (rds:=[]) (base:=base) (toks:=zQ ls (base+1)) (e:=el) m1.heap hRz htk (by rw[m2,k2];exact hf0.1) (by rw[m4 base oW,k4 base oW];exact funext hf0.2);have e4:=rL.trans (side:=[]) (rds:=[]) k1 m1;exact⟨_,rL.trans (side:=[]) (rds:=[]) e4 (e3.congrH (H':=qH (qH (HA R (base+1+ls.length)) (B8 ls (base+1))) H) (by simp only[K3]))⟩
theorem X9 {t:Ty}{y:t.den}{k:p9}{v:pC}(h:rD g w (.val t y,k) v):sM g w t y v/\AI g t y v k:=by
 refine⟨h.1,?_⟩;cases k with
 |none=>trivial
 |some k=>exact h.2
theorem aIP {t:TypeId}{x:Operand}(ho:o.op= .box t x) {sx:pN}(hx:rD g w sx (a.eval x)) {base:Nat}{e:q9}(hr:VL base t (rE T t) sx=some e) (hf:wS g base e):r7 P o a g w H e:=by
 generalize hst:rE T t=ot at hr;have hrun:(execOp a.eval o).run P w= .ok (.value (.pointer (some ⟨w.heap.size,0,none⟩))) (w.alloc (.cells (a.eval x).cells.toList.toArray t)):=by
  unfold execOp;rw[ho];simp only[Instr.box,Go.newVar,newRow,aQS,run_newObj,aQK,aQ6,aRQ];rfl
 have one: ∀{u:Ty}{y:u.den},sM g w u y (a.eval x)->u.isRow=false->(a.eval x).cells.toList=[a.eval x]:=fun hv hrow=>by
  have h1:=yH (yI hrow hv) _ (aQ2.2 rfl);cases h:a.eval x<;>first|rfl|(rw[h] at h1;simp [Value.oneCell'] at h1)
 unfold VL at hr;split at hr
 .rename_i ti u y k;split at hr
  .obtain⟨hv,hk⟩:=X9 hT hH hx;have hR:=CI hv;unfold a9e at hr;split at hr
   .rename_i a' b' y' k' _;have hn:wA k' (.pair a' b') 0 (a.eval x).cells.toList:=hk;obtain⟨g',h⟩:=aAc (el:=t) hH hr hf hR (fun q hq=>⟨k',hn,SD hq⟩);exact r7.value hrun h
   .rename_i u' y' k';cases hr;have hfr:=hf base (by simp [pS]) (aQ4 _);exact r7.value hrun (rL.newVar hH hR (aIM hT hH hk (one hv rfl)) hfr.1 (funext hfr.2))
   .cases hr;have hfr:=hf base (by simp [pS]) (aQ4 _);exact r7.value hrun (rL.newVar hH hR (fun q k hm=>by cases hm) hfr.1 (funext hfr.2))
  .cases hr
 .cases hr
theorem aAd {t:TypeId}(run: ∀ti,rE T t=some ti->(execOp a.eval o).run P w= .ok (.value (.pointer (some ⟨w.heap.size,0,none⟩))) (w.alloc (.cells (sX ti.ty).toArray t))) {base:Nat}{e:q9}(hr:MI base t (rE T t)=some e) (hf:wS g base e):r7 P o a g w H e:=by
 generalize hst:rE T t=ot at hr;unfold MI at hr;split at hr
 .rename_i u el by' ar ls_;cases hr;have hf0:=hf base (by simp [pS]) (aQ4 _);have hf1:=hf (base+1) (by simp [pS]) oW;have hty:=sI hT hst;have e1:=rL.nilTok (side:=[]) (d:= .val (.list u) []) (rds:=[]) (base:=base+1) (e:=el) (c:=u.cells) (u:=u) hH rfl hf1.2;have hH1:=e1.heap;have htk:DP (g.tok (base+1) 0 (.slice none 0 0)) (.list u) [] [.slice none 0 0] [(0,base+1)]:=by
   intro q kk hm;simp only[aQ2,aRc] at hm;obtain⟨rfl,rfl⟩:=hm;exact⟨u,[],.slice none 0 0,by unfold qZ;simp [tI],rfl,by simp [Gh.tok]⟩
  have e2:=rL.newVar (side:=[]) (rds:=[]) (base:=base) (toks:=[(0,base+1)]) (e:=t) hH1 (BD (g.tok (base+1) 0 (.slice none 0 0)) w (.list u)) htk hf0.1 (by
   funext n;show (if base=base+1/\n=0 then _ else _)=_;rw[aQO oW];exact hf0.2 n)
  exact r7.value (run _ hst) (rL.trans (side:=[]) (rds:=[]) e1 e2)
 .rename_i ti hno;obtain⟨g',h⟩:=aAc (el:=t) hH hr hf (BD g w ti.ty) (fun q _=>⟨0,S9 _ _,oW⟩);exact r7.value (run _ hst) h
 .cases hr
theorem aIQ {t:TypeId}(ho:o.op= .alloc t) {base:Nat}{e:q9}(hr:MI base t (rE T t)=some e) (hf:wS g base e):r7 P o a g w H e:=by
 have run: ∀ti,rE T t=some ti->(execOp a.eval o).run P w= .ok (.value (.pointer (some ⟨w.heap.size,0,none⟩))) (w.alloc (.cells (sX ti.ty).toArray t)):=by
  intro ti hti;obtain⟨i,hi,hsz,hz⟩:=BE (sI hT hti);have hc:(uS ti.ty).cells=(sX ti.ty).toArray:=by
   have:=CI (HL g w ti.ty);unfold uS;cases h:ti.ty<;>simp [Ty.isRow,sX,Value.cells]
  unfold execOp;rw[ho];simp only[Instr.alloc,zeroValue,typeInfo,Go.newVar,newRow,aQS,aRu,hi,hz,hc,run_newObj,aQK,aQ6];rfl
 exact aAd hT hH run hr hf
theorem aIR {t:TypeId}{x:Operand}(ho:o.op= .box t x) {sx:pN}(hx:rD g w sx (a.eval x)) (hfix: ∀ti:Option TI,rD g w (JG ti sx) (a.eval x)) {base:Nat}{e:q9}(hr:VM base t (rE T t) sx=some e) (hf:wS g base e):r7 P o a g w H e:=by
 generalize hst:rE T t=ot at hr;unfold VM at hr;split at hr
 .rename_i u el by' ar ls_ k;rw[<-hst] at hr;refine aAd hT hH (fun ti hti=> ?_) hr hf;rw[hst] at hti;cases hti;have hv:a.eval x= .slice none 0 0:=hx.1;unfold execOp;rw[ho];simp only[Instr.box,Go.newVar,newRow,aQS,run_newObj,aQK,aQ6,hv];rfl
 .rw[<-hst] at hr;exact aIP hT hH ho (hfix _) hr hf
omit hT hH in
theorem aIS {t:Ty}{y:t.den}{k:p9}{v:pC}(h:AI g t y v k):AI g t y v (CB t k):=by
 cases t with
 |list u=>exact h
 |_=>trivial
omit hT hH in
theorem aAe {off:Nat}: ∀{l:p5}{o k:Nat},(o,k)∈JN off l->∃q,o=off+q/\(q,k)∈l
 |[],_,_,h=>by cases h
 |(q,k')::r,o,k,h=>by
  simp only[JN,aQV,aRc] at h;rcases h with⟨rfl,rfl⟩ |h
  .exact⟨q,rfl,aQ3⟩
  .obtain⟨q',h1,h2⟩:=aAe h;exact⟨q',h1,aQZ _ h2⟩
omit hT hH in
theorem aAf {v t:Ty}{y:t.den}: ∀{u:Ty}{x z:u.den}{o q:Nat}{l:(Ty.list v).den},rZ t y u x o=some z->qZ (.list v) t y q=some l->q<t.cells->qZ (.list v) u z (o+q)=some l:=by
 intro u
 induction u with
 |pair a b iha ihb=>
  intro x z o q l h g hq;by_cases hu:o=0/\t= .pair a b
  .obtain⟨rfl,rfl⟩:=hu;unfold rZ at h;rw[aSC rfl] at h;simp only[tI,aQE] at h;subst h;simpa using g
  .have keyh:(if o<a.cells then(rZ t y a x.1 o).map (fun q=>(q,x.2)) else(rZ t y b x.2 (o-a.cells)).map (fun q=>(x.1,q)))=some z:=by
    cases o with
    |zero=>
     unfold rZ at h;rw[aSe (fun e=>hu ⟨rfl,e⟩)] at h;simpa using h
    |succ o=>simpa[rZ] using h
   have keyg: ∀m,qZ (.list v) (.pair a b) z m=(if m<a.cells then qZ (.list v) a z.1 m else qZ (.list v) b z.2 (m-a.cells)):=by
    intro m;cases m with
    |zero=>
     conv=>lhs;unfold qZ
     rw[aSe (by intro e;cases e),Nat.zero_sub]
    |succ m=>simp [qZ]
   rw[keyg];by_cases ho:o<a.cells
   .rw[aQI ho] at keyh;obtain⟨z',hz',rfl⟩:=aQQ.1 keyh;have hfit:o+t.cells<=a.cells:=by
     have: ∀{u:Ty}{x z:u.den}{o:Nat},rZ t y u x o=some z->o+t.cells<=u.cells:=by
      intro u
      induction u with
      |pair a b iha ihb=>
       intro x z o h;have key: ∀o,(if o<a.cells then(rZ t y a x.1 o).map (fun q=>(q,x.2)) else(rZ t y b x.2 (o-a.cells)).map (fun q=>(x.1,q)))=some z->o+t.cells<=a.cells+b.cells:=by
        intro o h;by_cases ho:o<a.cells
        .rw[aQI ho] at h;obtain⟨z',hz',_⟩:=aQQ.1 h;have:=iha hz';omega
        .rw[aQO ho] at h;obtain⟨z',hz',_⟩:=aQQ.1 h;have:=ihb hz';omega
       cases o with
       |zero=>
        unfold rZ at h;split at h
        .rename_i e;subst e;simp
        .exact key 0 (by simpa using h)
       |succ o=>exact key (o+1) (by simpa[rZ] using h)
      |_=>
       intro x z o h;cases o with
       |zero=>
        unfold rZ at h;split at h
        .rename_i e;subst e;simp
        .simp at h
       |succ o=>simp [rZ] at h
     exact this hz'
    rw[aQI oW];exact iha hz' g hq
   .rw[aQO ho] at keyh;obtain⟨z',hz',rfl⟩:=aQQ.1 keyh;rw[aQO oW,show o+q-a.cells=o-a.cells+q from by omega];exact ihb hz' g hq
 |_=>
  intro x z o q l h g hq;cases o with
  |zero=>
   unfold rZ at h;split at h
   .rename_i e;subst e;simp only[tI,aQE] at h
    try subst h
    simpa using g
   .simp at h
  |succ o=>simp [rZ] at h
omit hT hH in
theorem aAg {v:Ty}: ∀{t:Ty}{x:t.den}{q:Nat}{l:(Ty.list v).den},qZ (.list v) t x q=some l->q<t.cells:=by
 intro t
 induction t with
 |pair s t ihs iht=>
  intro x q l g;have key: ∀q,(if q<s.cells then qZ (.list v) s x.1 q else qZ (.list v) t x.2 (q-s.cells))=some l->q<s.cells+t.cells:=by
   intro q g;by_cases h:q<s.cells
   .omega
   .rw[aQO h] at g;have:=iht g;omega
  cases q with
  |zero=>
   unfold qZ at g;rw[aSe (by intro e;cases e)] at g;exact key 0 (by simpa using g)
  |succ q=>exact key (q+1) (by simpa[qZ] using g)
 |unit=>
  intro x q l g;cases q with
  |zero=>unfold qZ at g;rw[aSe (by intro e;cases e)] at g;cases g
  |succ q=>simp [qZ] at g
 |_=>
  intro x q l g;cases q with
  |zero=>simp [Ty.cells]
  |succ q=>simp [qZ] at g
omit hT in
theorem rL.retok {i:Nat}{u:Ty}{z:u.den}{toks nt:p5}{p:Pl}(hb:pQ H i=some (.cells u z toks)) (hp:g.J i=some p)
  (hn: ∀cs,Rd g w u z cs->w.rangeAt p.1 p.2 cs->DP g u z cs nt):rL g w H ⟨[],(.any,none),[(i,.cells u z (qH nt toks))],[]⟩ g w undef:=by
 obtain⟨p',cs,hp',hR,hra,hth,hns,htk⟩:=hH.blk i _ hb;rw[hp] at hp';obtain rfl:=aQH hp';have get: ∀j blk,j∈pS [(i,pM.cells u z (qH nt toks))]->pQ (qH [(i,pM.cells u z (qH nt toks))] H) j=some blk->j=i/\blk= .cells u z (qH nt toks):=by
  intro j blk hi hg;simp only[pS,aQ2] at hi;subst hi;simp only[qH,pQ,aR4,aQE] at hg;exact⟨rfl,hg.symm⟩
 have perm: ∀j blk b o,j∈pS [(i,pM.cells u z (qH nt toks))]->pQ (qH [(i,pM.cells u z (qH nt toks))] H) j=some blk->rK g j blk b o->w.heap.size<=b\/s6 g H (pS [(i,pM.cells u z (qH nt toks))]) b o:=by
  intro j blk b o hi hg ho;obtain⟨rfl,rfl⟩:=get j blk hi hg;exact .inr ⟨j,_,hi,hb,ho⟩
 have le:Le g w g w:=⟨fun _ _ h=>h,fun _ _ _=>rfl,fun _ _ h=>h,fun _ _ _ h=>h⟩;have fr:Fr (s6 g H (pS [(i,pM.cells u z (qH nt toks))])) w w g.S g.S:=⟨rfl,rfl,rfl,aQ4 _,fun _ _ _=>rfl,fun _ _ _ _=>⟨rfl,rfl⟩,fun _ _ h=> .inl h,fun _ _ h=> .inl h⟩;refine⟨le,⟨trivial,trivial⟩,hH.upd le fr perm (fun _ _=>⟨rfl,rfl⟩) (fun j blk hi hg=> ?_) (fun i j bi bj b o hi hj hij hgi hgj _ _=>hij ((get i bi hi hgi).1.trans (get j bj hj hgj).1.symm)) (fun b o h=>hH.sl b o h),fr,perm,fun _ _=>⟨rfl,rfl⟩,fun j u' y' us h=> ?_⟩
 .obtain⟨rfl,rfl⟩:=get j blk hi hg;refine⟨p,cs,hp,hR,hra,hth,hns,fun q kk hm=> ?_⟩;rcases(N8.1 hm) with hm|hm
  .exact hn cs hR hra q kk hm
  .exact htk q kk hm
 .simp only[qH,pQ] at h;split at h
  .rename_i e1;subst e1;simp only[aQE,pM.cells.injEq] at h;obtain⟨rfl,_⟩:=h;exact .inl ⟨z,toks,hb⟩
  .exact .inl ⟨y',us,h⟩
omit hT hH in
theorem aIT {g:Gh}{t a b:Ty}{y:t.den}{v:pC}{k:p9}(h:k.isSome=true) (ht:t= .pair a b) (hk:AI g t y v k): ∃m,k=some m/\wA m t 0 v.cells.toList:=by
 subst ht;cases k with
 |none=>cases h
 |some k=>exact⟨k,rfl,hk⟩
omit hT hH in
theorem aIU {base i off:Nat}{b:Option pM}{ls:List (Nat×TypeId×Nat)}{t:Ty}{y:t.den}{k:p9}{e:q9}(h:RC base i off b ls t y k=some e):
  (∃(s:Ty) (x:s.den) (toks:p5) (z:s.den),b=some (.cells s x toks)/\rZ t y s x off=some z/\k.isSome=true/\(∃a c,t= .pair a c)/\∃m,k=some m/\CE t (zR m ls)=true/\
   e=⟨[],(.any,none),(i,.cells s z (qH (JN off (zQ (zR m ls) base)) (uG toks off t.cells)))::qH (B8 (zR m ls) base) [(i,.cells s z (uG toks off t.cells))],[i]⟩)\/RA t y k i off b=some e:=by
 unfold RC at h;split at h
 .rename_i q r a c y' k';cases hok:CE (.pair a c) (zR k' (q::r)) with
  |false=>rw[hok] at h;unfold RB at h;split at h<;>first|cases h|(rename_i h2;cases h2)
  |true=>
   rw[hok] at h;unfold RB at h;split at h
   .rename_i s x toks _;cases hset:rZ (.pair a c) y' s x off with
    |none=>rw[hset] at h;cases h
    |some z=>
     rw[hset] at h;exact .inl ⟨s,x,toks,z,rfl,hset,rfl,⟨a,c,rfl⟩,_,rfl,hok,(aQH h).symm⟩
   .cases h
 .exact .inr h
omit hT hH in
theorem aAh {i off k n el:Nat}{u v:Ty}{x:v.den}{y:Option q9}{e:q9}(h:orO i off k n el u v x y=some e):y=some e\/VY i (wG el u (some (k,n)) v x off)=some e:=by
 cases y with
 |some r=>exact .inl h
 |none=>exact .inr h
theorem aIV {t:TypeId}{x y:Operand}(ho:o.op= .store t x y) {sx sy:pN}(hx:rD g w sx (a.eval x)) (hy:rD g w sy (a.eval y)) {base:Nat}{e:q9}(hr:RE base H (rE T t) sx sy=some e) (hside: ∀p∈e.side,p) (hf:wS g base e):r7 P o a g w H e:=by
 generalize hst:rE T t=ot at hr;unfold RE at hr;split at hr
 .rename_i ti i off k kk n k2;generalize hb:pQ H i=ob at hr;unfold VZ at hr;split at hr
  .rename_i u el _ _ _ v x' toks;rcases aAh hr with hr|hr
   case inr=>
    generalize hset:wG el u (some (kk,n)) v x' off=oz at hr;cases oz with
    |none=>cases hr
    |some z'=>
     cases hr;have hty:=sI hT hst;obtain⟨p,hp,hv⟩:=xI hx.1;obtain⟨h1,h2⟩:=hy.1;have hR:Rd g w (.rl el u) (some (kk,n)) [a.eval y]:=⟨_,h1,rfl,h2⟩;obtain⟨heff,hth⟩:=xG.openS (side:=[]) (rds:=[1000000000,i]) hH hb hp hset hR rfl rfl;have hce:(a.eval y).cells= #[a.eval y]:=by rcases h2 with⟨h2,_⟩ |⟨_,_,h2,_⟩<;>(rw[h2];rfl)
     refine r7.skipW (w':=w.setCells p.1 (p.2+off) [a.eval y]) ?_ heff;obtain⟨inf,hi,hsz,_⟩:=BE hty;have hcells:=run_storeCells_cells (P:=P) p.1 (p.2+off) [a.eval y] 0 w (fun j hj=>by simpa using(hth j hj).1) (fun j hj=>by simpa using(hth j hj).2) (fun v hv=>yH hR v hv);simp only[aRL] at hcells;have hs2:(a.eval y).cells.size=inf.size:=by rw[hsz,hce];rfl
     have hcl:(a.eval y).cells.toList=[a.eval y]:=by rw[hce]
     simp only[execOp,ho,hv,Instr.storeAt,Instr.sureAddr,storeVar,aQS,aQ6,aQK,sizeOf,typeInfo,aRu,hi,hs2,ne_eq,not_true_eq_false,aSF,hcl,hcells]
   generalize hset:rZ (.rl el u) (some (kk,n)) v x' off=oz at hr;cases oz with
   |none=>cases hr
   |some z'=>
    cases hr;have hty:=sI hT hst;obtain⟨p,hp,hv⟩:=xI hx.1;obtain⟨h1,h2⟩:=hy.1;have hR:Rd g w (.rl el u) (some (kk,n)) [a.eval y]:=⟨_,h1,rfl,h2⟩;obtain⟨heff,hth⟩:=rL.store (side:=[]) (rds:=[i]) (k:=none) (v:=a.eval y) hH hb hp hset hR trivial (fun _ _ _=>rfl) (fun _=>rfl);have hce:(a.eval y).cells= #[a.eval y]:=by rcases h2 with⟨h2,_⟩ |⟨_,_,h2,_⟩<;>(rw[h2];rfl)
    refine r7.skip (w':=w.setCells p.1 (p.2+off) [a.eval y]) ?_ heff;obtain⟨inf,hi,hsz,_⟩:=BE hty;have hcells:=run_storeCells_cells (P:=P) p.1 (p.2+off) [a.eval y] 0 w (fun j hj=>by simpa using(hth j hj).1) (fun j hj=>by simpa using(hth j hj).2) (fun v hv=>yH hR v hv);simp only[aRL] at hcells;have hs2:(a.eval y).cells.size=inf.size:=by rw[hsz,hce];rfl
    have hcl:(a.eval y).cells.toList=[a.eval y]:=by rw[hce]
    simp only[execOp,ho,hv,Instr.storeAt,Instr.sureAddr,storeVar,aQS,aQ6,aQK,sizeOf,typeInfo,aRu,hi,hs2,ne_eq,not_true_eq_false,aSF,hcl,hcells]
  .cases hr
 .rename_i ti k n c i o' _ u z kk;split at hr
  .rename_i hu;subst hu;generalize hk:pQ H k=ob at hr;unfold RD at hr;split at hr
   .rename_i e' t' l m;split at hr
    .rename_i hc;generalize hset:rZ ti.ty z t' (qB t' l i) o'=oz at hr;cases oz with
     |none=>cases hr
     |some z'=>
      cases hr;have hnm:=hside _ (aQ2.2 rfl);obtain⟨b,cap,xs,c1,c2,c3,hv,hcur,hown,hF,hl,hi,h0,e1,e2,e3,e4⟩:=a9Y hT hH hx.1 hk hnm hc;subst hnm;have hty:=sI hT hst;obtain⟨hvy,hky⟩:=X9 hT hH hy;have hR:=CI hvy;have hRl:=s3 hR;obtain⟨d1,d2,d3,f1,f2,f3,f4⟩:=S5 hR e4 hset;obtain⟨_,_,_,_,hv0,hown0,_,hnone,hseal⟩: ∃(_:True) (_:True) (v0:pC) (xs0:p7),g.cur k n=some v0/\w.ownsRow 0 e' t'.cells v0 n xs0/\sQ (Rd g w t') t'.cells l xs0/\(∀m,n<m->g.cur k m=none)/\∀b,v0.ownBlock=some b->∀o,¬g.S b o:=by
       obtain⟨_,v0,xs0,q1,q2,q3,q4,q5⟩:=hH.blk k _ hk;exact⟨trivial,trivial,v0,xs0,q1,q2,q3,q4,q5⟩
      rw[hcur] at hv0;obtain rfl:=aQH hv0;rcases hown.2 with⟨h5,_⟩ |⟨q,cap',cur,h5,_,hg,hnc,hcm,hcs,htake⟩
      .cases h5
      simp only[aSy,aQE,Addr.mk.injEq,and_true,true_and] at h5;obtain⟨rfl,rfl⟩:=h5;have hxl:=hown.1;have hnew:=s3 f4;simp only[aQG] at hnew;have hc2l:c2.length=t'.cells:=by rw[e3,hc]
      have hd:d1.length+d2.length+d3.length=t'.cells:=by rw[<-hc2l,f1];simp only[aQG]
      have hx1:c1.length+c2.length+c3.length=n*t'.cells:=by rw[<-hxl,e1];simp only[aQG]
      have hall:cur.toList=(c1++(d1++d2++d3)++c3)++cur.toList.drop (n*t'.cells):=by
       conv=>lhs;rw[<-aR2 (n*t'.cells) cur.toList,htake,e1,f1]
      obtain⟨D,hD⟩: ∃D,D=cur.toList.drop (n*t'.cells):=⟨_,rfl⟩;rw[<-hD] at hall;have hall2:cur.toList=(c1++d1)++(d2++(d3++c3++D)):=by rw[hall];simp only[aQR]
      have hpos:i.toNat*c+o'=(c1++d1).length:=by rw[aQG,e2,f2]
      have hD2:(a.eval y).cells.toList.length=d2.length:=by rw[hRl,f3]
      have hfit:i.toNat*c+o'+0+(a.eval y).cells.toList.length<=cur.size:=by
       have:cur.size=cur.toList.length:=by simp
       rw[this,hall2,aRL,hpos,hD2];simp only[aQG];omega
      have hst2:=run_storeCells_at P b (i.toNat*c+o') e' (a.eval y).cells.toList 0 cur w hg hfit (fun v hv=>yH hR v hv);have hrow:cur.toList.take (i.toNat*c+o'+0)++(a.eval y).cells.toList++cur.toList.drop (i.toNat*c+o'+0+(a.eval y).cells.toList.length)=(c1++(d1++(a.eval y).cells.toList++d3)++c3)++D:=by
       rw[aRL,hpos,hD2,hall2,aRZ,List.drop_append,List.drop_of_length_le oW,List.nil_append,aRr,List.drop_left];simp only[aQR]
      rw[hrow] at hst2;obtain⟨inf,hinf,hsz,_⟩:=BE hty;have hs2:(a.eval y).cells.size=inf.size:=by rw[hsz,<-hRl,aRb]
      have hnewlen:((c1++(d1++(a.eval y).cells.toList++d3)++c3)++D).length=cur.size:=by
       have:cur.size=cur.toList.length:=by simp
       rw[this,hall];simp only[aQG];omega
      have hxs':(c1++(d1++(a.eval y).cells.toList++d3)++c3).length=n*t'.cells:=by
       rw[<-hx1];simp only[aQG];rw[f1];simp only[aQG];omega
      have hown':(w.setRow b ((c1++(d1++(a.eval y).cells.toList++d3)++c3)++D).toArray).ownsRow 0 e' t'.cells (.slice (some ⟨b,0,none⟩) n cap) n (c1++(d1++(a.eval y).cells.toList++d3)++c3):=
       ⟨hxs',.inr ⟨b,cap,_,rfl,aRJ _,aSs w b cur _ e' _ hg,hnc,hcm,by rw[aRo,hnewlen,hcs],by rw[<-hxs'];exact aRZ⟩⟩
      have hF':sQ (Rd g w t') t'.cells (l.set i.toNat z') (c1++(d1++(a.eval y).cells.toList++d3)++c3):=by
       obtain⟨q1,q2,q3,r1,r2,r3,r4⟩:=X1 hF f4 (s3 f4) hi;have s1:q1=c1/\q2=c2/\q3=c3:=by
        have h6:q1++(q2++q3)=c1++(c2++c3):=by rw[<-aQR,<-r1,e1,aQR]
        obtain⟨h7,h8⟩:=aSx h6 (by rw[r2,e2,hc]);obtain⟨h9,h10⟩:=aSx h8 (by rw[r3,e3,hc]);exact⟨h7,h9,h10⟩
       obtain⟨rfl,rfl,rfl⟩:=s1;exact r4
      have hownk: ∀o,s6 g H [k] b o:=fun o=>⟨k,_,by simp,hk,_,hcur,rfl⟩;refine r7.skip (w':=w.setRow b ((c1++(d1++(a.eval y).cells.toList++d3)++c3)++D).toArray) ?_ (rL.row (v:= .slice (some ⟨b,0,none⟩) n cap) hH (by rw[List.length_set];exact hl) hown' hF' hnone (fun u hu=>by rw[hcur] at hu;exact(aQH hu).symm)
       (.inr ⟨some b,⟨rfl,rfl,rfl,by simp,fun q _ hq=>aRY w b q _ (fun e=>hq (by rw[e]))⟩,fun b' hb' o=>by cases hb';exact hownk o⟩) (fun b' o hS=> ?_) hseal (fun b' hb'=>by cases hb';exact .inr hownk) ⟨trivial,trivial⟩)
      .simp only[execOp,ho,hv,Instr.storeAt,Instr.sureAddr,storeVar,aQS,aQ6,aQK,sizeOf,typeInfo,aRu,hinf,hs2,ne_eq,not_true_eq_false,aSF,hst2]
      .have hne:b'≠b:=fun e=>hseal b rfl o (e▸hS);exact aQ5 (a:=⟨b',o,none⟩) (aRY w b b' _ hne)
    .cases hr
   .cases hr
  .cases hr
 .rename_i ti i off k u z kk;split at hr
  .rename_i hu;subst hu;generalize hb:pQ H i=ob at hr;have hty:=sI hT hst;obtain⟨p,hp,hv⟩:=xI hx.1;obtain⟨hvy,hky⟩:=X9 hT hH hy;have hR:=CI hvy;have hone:ti.ty.isRow=false->(a.eval y).cells.toList=[a.eval y]:=fun hrow=>by
    have h1:=yH (yI hrow hvy) _ (aQ2.2 rfl);cases h:a.eval y<;>first|rfl|(rw[h] at h1;simp [Value.oneCell'] at h1)
   have hrun:w.there p.1 (p.2+off) (a.eval y).cells.toList.length->(execOp a.eval o).run P w= .ok .skip (w.setCells p.1 (p.2+off) (a.eval y).cells.toList):=by
    intro hth;obtain⟨inf,hi,hsz,_⟩:=BE hty;have hlen:=s3 hR;have hcells:=run_storeCells_cells (P:=P) p.1 (p.2+off) (a.eval y).cells.toList 0 w (fun j hj=>by simpa using(hth j hj).1) (fun j hj=>by simpa using(hth j hj).2) (fun v hv=>yH hR v hv);simp only[aRL] at hcells;have hs2:(a.eval y).cells.size=inf.size:=by rw[hsz,<-hlen,aRb]
    simp only[execOp,ho,hv,Instr.storeAt,Instr.sureAddr,storeVar,aQS,aQ6,aQK,sizeOf,typeInfo,aRu,hi,hs2,ne_eq,not_true_eq_false,aSF,hcells]
   rcases aIU hr with⟨s,x',toks,z',hb',hset,hsome,⟨pa,pb,hpair⟩,mk_,hmk,hok,rfl⟩ |hr
   .rw[hb'] at hb;have hn:wA mk_ ti.ty 0 (a.eval y).cells.toList:=by
     obtain⟨m',e1,e2⟩:=aIT hsome hpair hky;rw[hmk] at e1;obtain rfl:=aQH e1;exact e2
    have hlx:=fun q hq=>SD (k:=mk_) (ls:=ti.ls) (q:=q) hq;generalize zR mk_ ti.ls=lsm at hf hok hlx|-;obtain⟨heff,hth⟩:=rL.store (side:=[]) (rds:=[i]) (k:=none) (v:=undef) hH hb hp hset hR trivial (fun _ _ _=>rfl) (fun h=>by rw[hpair] at h;cases h);have hfr: ∀j,base<=j->j<base+lsm.length->∀n,g.cur j n=none:=fun j h1 h2=>(hf j (by
     simp only[pS,aQV];right;rw[BF];exact .inl ((N7 _ base j).2 ⟨h1,h2⟩)) h1).2
    obtain⟨g1,k1,k2,k3,k4⟩:=X5 lsm base g _ heff.heap hfr;have e2:=rL.trans (side:=[]) (rds:=[]) heff k1;have hib:i<base:=by
     rcases aRw i base with h|h
     .exact h
     .have:=(hf i (by simp [pS]) h).1;rw[hp] at this;cases this
    have hiN:i∉pS (B8 lsm base):=fun h=>by
     have:=(N7 _ base i).1 h;omega
    have hb3:pQ (qH (qH (B8 lsm base) [(i,pM.cells s z' (uG toks off ti.ty.cells))]) H) i=some (.cells s z' (uG toks off ti.ty.cells)):=by
     rw[K3,zX hiN];simp [qH,pQ]
    have hyl:=s3 hR;have e3:=rL.retok (p:=p) (nt:=JN off (zQ lsm base)) e2.heap hb3 (by rw[k2];exact hp) (fun cs hRz hra o k hm=>by
     obtain⟨q,rfl,hq⟩:=aAe hm;obtain⟨en,he,rfl⟩:=X6 hq;obtain⟨u,h1,h2⟩:=a9T hn hR (X7 hok en he) (by have:=hlx en he;omega);have hql:en.1<(a.eval y).cells.toList.length:=(aQP.1 h2).1;have h3:=aAf hset h1 oW;refine⟨u,[],.slice none 0 0,h3,?_,k3 _ _ hq⟩;have hlen:=s3 hRz;have hlt:=aAg h3;have hc:cs[off+en.1]? =some cs[off+en.1]:=aQM oW;have hr1:=hra _ _ hc;have hr2:=aRX p.1 (a.eval y).cells.toList (p.2+off) w (fun j hj=>(hth j hj).1) en.1 hql;rw[aRm] at hr2;rw[hr2] at hr1;rw[hc,<-hr1,<-h2,aQM hql])
    exact r7.skip (w':=w.setCells p.1 (p.2+off) (a.eval y).cells.toList) (hrun hth) (rL.trans (side:=[]) (rds:=[i]) e2 e3)
   .unfold RA at hr;split at hr
    .rename_i s q toks _;generalize hset:rZ ti.ty z s q off=oz at hr;cases oz with
     |none=>cases hr
     |some z'=>
      cases hr;obtain⟨heff,hth⟩:=rL.store (side:=[]) (rds:=[i]) hH hb hp hset hR (aIS hky) (fun a b e=>by rw[e];rfl) hone;exact r7.skip (w':=w.setCells p.1 (p.2+off) (a.eval y).cells.toList) (hrun hth) heff
    .cases hr
  .cases hr
 .cases hr
theorem aAi {t:Ty}{n:Nat}{ev:Operand->pC}{ρ:Operand->pN}: ∀(ps:List (Nat×Operand)) (l z:List t.den) (cs:p7),sQ (Rd g w t) t.cells l cs->l.length=n->(∀q∈ps,rD g w (ρ q.2) (ev q.2))->yS t n (some l) (tJ ρ ps)=some z->
  ∃cs',Instr.fill (fun i=>some (i*t.cells,t.cells)) cs.toArray (ps.map fun q=>(q.1,ev q.2))=some cs'.toArray/\sQ (Rd g w t) t.cells z cs'/\z.length=n
 |[],l,z,cs,r,hl,_,h=>by
  simp only[tJ,yS,aQE] at h;subst h;exact⟨cs,rfl,r,hl⟩
 |(i,q)::ps,l,z,cs,r,hl,hq,h=>by
  have h0:=hq (i,q) oY;generalize hs:ρ q=s at h0;simp only[tJ,hs] at h;obtain⟨d,k⟩:=s;cases d with
  |val u y=>
   simp only[yS,a81] at h;by_cases hc:u=t/\i<n
   .rw[aSC hc] at h;obtain⟨rfl,hi⟩:=hc;simp only[tI] at h;have hR:=CI h0.1;obtain⟨c1,c2,c3,rfl,h2,h3,h4⟩:=X1 (i:=i) r hR (s3 hR) oW;obtain⟨cs',k1,k2,k3⟩:=aAi ps (l.set i y) z _ h4 (by simpa using hl) (fun q hq'=>hq q (by simp [hq'])) h;refine⟨cs',?_,k2,k3⟩;simp only[aRP];rw[a9S rfl (by have:=s3 hR;simpa using this) (c1:=c1) (c2:=c2) (c3:=c3) oY h2 h3];exact k1
   .rw[aSe hc] at h;cases ps with
    |nil=>simp [tJ,yS] at h
    |cons p ps=>simp [tJ,yS] at h
  |_=>simp [yS] at h
theorem XA {t:TypeId}{n:Nat}{ps:Array (Nat×Operand)}(ho:o.op= .buildSlice t n ps) {ρ:Operand->pN}(hρ: ∀q∈ps.toList,rD g w (ρ q.2) (a.eval q.2)) {u:Ty}{el:TypeId}{by':Nat}{ar:Bool}{ls:List (Nat×TypeId×Nat)}(hst:rE T t=some ⟨.list u,el,by',ar,ls⟩) {l:List u.den}
  (hb:yS u n (some (AF u n)) (tJ ρ ps.toList)=some l) (hn:n<=16777216/\n*u.cells<=16777216):
  ∃cs':p7,sQ (Rd g w u) u.cells l cs'/\l.length=n/\(execOp a.eval o).run P w= .ok (.value (.slice (some ⟨w.heap.size,0,none⟩) n n)) (w.alloc (.cells cs'.toArray el)):=by
    obtain⟨h2,h3,_⟩:=(sI hT hst).2;obtain⟨ei,hei,hz⟩:=aQQ.1 h3;simp only[aRc] at hz;obtain⟨cs',k1,k2,k3⟩:=aAi hT hH ps.toList (AF u n) l _ (a93 n) (a94 u n) hρ hb;refine⟨cs',k2,k3,?_⟩;have hzc:(uS u).cells=(sX u).toArray:=by
     unfold uS;cases h:u<;>simp [Ty.isRow,sX,Value.cells]
    have hmap:(ps.map fun(q:Nat×Operand)=>(q.1,a.eval q.2)).toList=ps.toList.map fun q=>(q.1,a.eval q.2):=by simp
    have hzl:(sX u).length=u.cells:=s3 (BD g w u);have hrow: ∀z:Array pC,(n*u.cells≠0->z=(sX u).toArray)->(Array.range (n*u.cells)).map (fun i=>z[i%z.size]!)=(List.flatten (List.replicate n (sX u))).toArray:=by
     intro z hz0;by_cases h0:n*u.cells=0
     .rw[h0];have:List.flatten (List.replicate n (sX u))=[]:=aRe (by simp [hzl,h0]);rw[this];simp
     .rw[hz0 h0];have hpos:0<u.cells:=Nat.pos_of_ne_zero (fun h=>h0 (by rw[h];simp));apply aRA.1;apply List.ext_getElem?;intro j;have key: ∀(m j:Nat),j<m*u.cells->(List.flatten (List.replicate m (sX u)))[j]? =(sX u)[j%u.cells]? :=by
       intro m
       induction m with
       |zero=>intro j h;simp at h
       |succ m ih=>
        intro j h;rw[List.replicate_succ,aSl];by_cases hj:j<u.cells
        .rw[aQT oW,Nat.mod_eq_of_lt hj]
        .rw[aQN oW,hzl,ih (j-u.cells) (by rw[aRB] at h;omega)];congr 1
         conv=>rhs;rw[<-Nat.sub_add_cancel (Nat.le_of_not_lt hj),Nat.add_mod_right]
      by_cases hj:j<n*u.cells
      .have hm:j%u.cells<(sX u).length:=by rw[hzl];exact Nat.mod_lt _ hpos
       simp only[Array.toList_map,Array.toList_range,List.getElem?_map,List.getElem?_range hj,Option.map_some,aRo,hzl];rw[key n j hj,aQM hm];simp [getElem!_pos,hm]
      .rw[aRU oZ,aRU (by simp [hzl];omega)]
    have hlim: ¬(n*u.cells>2^24):=by have:=hn.2;omega
    by_cases h0:n*u.cells=0
    .simp only[execOp,ho,Instr.buildSlice,aQS,aQX h2,aQK,sizeOf,typeInfo,aRu,hei,hz.1,aQ6,aQO hlim,aQI h0];rw[hrow #[] (fun h=>absurd h0 h),hmap,k1];simp only[newRow,aQS,run_newObj,aQK,aQ6];rfl
    .simp only[execOp,ho,Instr.buildSlice,aQS,aQX h2,aQK,sizeOf,typeInfo,aRu,hei,hz.1,aQ6,aQO hlim,aQO h0,zeroValue,hz.2.2,hzc];rw[hrow (sX u).toArray (fun _=>rfl),hmap,k1];simp only[newRow,aQS,run_newObj,aQK,aQ6];rfl
theorem aIW {t:TypeId}{n:Nat}{ps:Array (Nat×Operand)}(ho:o.op= .buildSlice t n ps) {ρ:Operand->pN}(hρ: ∀q∈ps.toList,rD g w (ρ q.2) (a.eval q.2)) {base:Nat}{e:q9}(hr:VQ base n (tJ ρ ps.toList) (rE T t)=some e) (hf:wS g base e):r7 P o a g w H e:=by
 generalize hst:rE T t=ot at hr;unfold VQ at hr;split at hr
 .rename_i u el by' ls_;split at hr
  .rename_i hn0;generalize hb:yS u n (some (AF u n)) (tJ ρ ps.toList)=ol at hr;cases ol with
   |none=>cases hr
   |some l=>
    simp only[a9f] at hr;split at hr
    .rename_i hn;cases hr;obtain⟨cs',k2,k3,hrun⟩:=XA hT hH ho hρ hst hb hn.2;have hfr:=(hf base (by simp [pS]) (aQ4 _)).2;have hlen:=FG k2;have hown:(w.alloc (.cells cs'.toArray el)).ownsRow 0 el u.cells (.slice (some ⟨w.heap.size,0,none⟩) n n) n cs':=⟨by rw[hlen,k3],.inr ⟨w.heap.size,n,cs'.toArray,rfl,aRJ _,aSz w _,aQ4 _,by unfold maxLen;omega,by simp [hlen,k3],by simp [<-k3,<-hlen]⟩⟩;refine r7.value hrun (rL.row (v:= .slice (some ⟨w.heap.size,0,none⟩) n n) (xs:=cs') hH k3 hown k2 (fun m _=>hfr m) (fun u hu=>by rw[hfr] at hu;cases hu) (.inl (World.grownBy_alloc w _ _)) (fun b o h=>aQ5 (a:=⟨b,o,none⟩) (aRa _ _ _ (hH.sl b o h))) (fun b hb o hs=> ?_) (fun b hb=> ?_) ⟨⟨by simp [Gh.tok],.inr ⟨_,_,rfl,aQ4 _⟩⟩,trivial⟩)
     .cases hb;exact aSk _ (hH.sl _ _ hs)
     .cases hb;exact .inl (aQ4 _)
    .cases hr
  .rename_i hn0;generalize hb:yS u n (some (AF u n)) (tJ ρ ps.toList)=ol at hr;cases ol with
   |none=>cases hr
   |some l=>
    simp only[R4] at hr;split at hr
    .rename_i hn;cases hr;obtain⟨cs',k2,k3,hrun⟩:=XA hT hH ho hρ hst hb hn;have hfr:=hf base (by simp [pS]) (aQ4 _);exact r7.value (v:= .slice (some ⟨w.heap.size,0,none⟩) n n) (w':=w.alloc (.cells cs'.toArray el)) hrun (rL.lit hH rfl k3 k2 (by unfold maxLen;omega) hfr.2)
    .cases hr
 .rename_i u el by' ls_;generalize hb:yS u n (some (AF u n)) (tJ ρ ps.toList)=ol at hr;cases ol with
  |none=>cases hr
  |some l=>
   simp only[R4] at hr;split at hr
   .rename_i hn;cases hr;obtain⟨cs',k2,k3,hrun⟩:=XA hT hH ho hρ hst hb hn;have hfr:=hf base (by simp [pS]) (aQ4 _);exact r7.value (v:= .slice (some ⟨w.heap.size,0,none⟩) n n) (w':=w.alloc (.cells cs'.toArray el)) hrun (rL.lit hH rfl k3 k2 (by unfold maxLen;omega) hfr.2)
   .cases hr
 .cases hr
theorem aIX {args:Array Operand}{tys:Array TypeId}(ho:o.op= .call ⟨.builtin .append,args,tys⟩) {ρ:Operand->pN}(hρ: ∀x∈args.toList,rD g w (ρ x) (a.eval x)) {e:q9}
  {t:TypeId}(htt:tys= #[t,t]) (hr:RL H (rE T t) (uH ρ args.toList)=some e) (hs: ∀p∈e.side,p):r7 P o a g w H e:=by
 subst htt;generalize hst:rE T t=ot at hr;generalize hss:uH ρ args.toList=ss at hr;unfold RL at hr;split at hr
 .rename_i u el by' ar ls_ k n _ b1 r _;split at hr
  .rename_i hbu;subst hbu;generalize hk:pQ H k=ob at hr;unfold RK at hr;split at hr
   .rename_i e' t' l m;split at hr
    .rename_i hbt;subst hbt;split at hr
     .rename_i hec;obtain⟨rfl,hpos,hb1⟩:=hec;simp only[tI] at hr;cases hr;have hnm:=hs _ (by simp:(n=m)∈_);subst hnm;have hby:=hs _ (by simp:((n+List.length r)*by'<=140737488355328)∈_);obtain⟨v,vr,hv,hs1,hs2⟩:=SB hT hH hρ hss;obtain⟨h2,h3,_⟩:=(sI hT hst).2;obtain⟨ei,hei,hz⟩:=aQQ.1 h3;simp only[aRc] at hz;obtain⟨cs,hx⟩:=DQ (a:=a) hT hH ho;obtain⟨hl,v0,xs,hv0,hown,hF0,hnone,hseal⟩:=hH.blk k _ hk;obtain⟨hcur,hshape⟩:=hs1.1;rw[hv0] at hcur;obtain rfl:=aQH hcur;obtain⟨adr,capr,hvr,hler,hlr⟩:=AK hs2.1;have hlen2:(l++r).length=n+List.length r:=by rw[aQG,hl]
      rw[hlen2];have hownk: ∀q,v0.ownBlock=some q->∀o,s6 g H [k] q o:=fun q hq o=>⟨k,_,by simp,hk,v0,hv0,hq⟩;by_cases hm:List.length r=0
      .obtain rfl:r=[]:=aRe hm;refine r7.value (v:=v0) (w':=w) ?_ (rL.row (v:=v0) (xs:=xs) hH hlen2 hown (by rw[List.append_nil];exact hF0) hnone (fun u hu=>by
        have h5:g.cur k n=some u:=hu;rw[hv0] at h5;exact(aQH h5).symm) (.inl ⟨rfl,rfl,rfl,aQ4 _,fun _ _ _=>rfl⟩) (fun _ _ _=>rfl) hseal (fun q hq=> .inr (hownk q hq)) ⟨⟨by simp [Gh.tok],hshape⟩,trivial⟩)
       obtain⟨adl,capl,hvl,hlel⟩: ∃adl capl,v0= .slice adl n capl/\n<=capl:=by
        rcases hshape with⟨h,rfl⟩ |⟨b,cap,h,h'⟩
        .exact⟨_,_,h,aQ4 _⟩
        .exact⟨_,_,h,h'⟩
       rw[hx,hv,hvr,hvl];have ha0:(#[Value.slice adl n capl,Value.slice adr (List.length ([]:List b1.den)) capr]:Array pC)[0]? =some (.slice adl n capl):=rfl;have ha1:(#[Value.slice adl n capl,Value.slice adr (List.length ([]:List b1.den)) capr]:Array pC)[1]? =some (.slice adr 0 capr):=rfl;have ht0:(#[t,t]:Array TypeId)[0]? =some t:=rfl;have ht1:(#[t,t]:Array TypeId)[1]? =some t:=rfl;simp only[builtin,Builtin.append_,ht0,ht1,ha0,ha1,aQS,aQX h2,aQK,aQ6,sizeOf,typeInfo,aRu,hei];cases adr<;>cases adl<;>simp [Builtin.lenOf,Builtin.firstCells,loadCells,loadCellsFrom,storeCells,hlel]
      .obtain⟨b,off,rfl,hL⟩: ∃b o,adr=some ⟨b,o,none⟩/\wQ (Rd g w b1) w g.S b1.cells b o r:=by
        rcases hlr with rfl|h
        .exact absurd rfl hm
        .exact h
       obtain⟨news,hF,hra,_⟩:=K2 hL;obtain⟨q,cap,w',hrun,hown',hq,hg,hcap,hcell⟩:=X2 (P:=P) w t o.type e' ei (uS b1) b1.cells by' h2 hei hz.2.2 hz.1 hz.2.1 (by
        have:=s3 (CI (HL g w b1));simpa using this) v0 n xs hown ⟨b,off,none⟩ (List.length r) capr news (FG hF) (fun j u hu=>by rw[aRN];exact hra j u hu) (N5 (fun _ _ h=>yH h) hF) oW
        (by
         have:=Nat.mul_le_mul_left (n+List.length r) hb1;unfold maxLen;omega) hby
       refine r7.value (v:= .slice (some ⟨q,0,none⟩) (n+List.length r) cap) (w':=w') ?_ (rL.row (v:= .slice (some ⟨q,0,none⟩) (n+List.length r) cap) (xs:=xs++news) hH hlen2 hown' (MZ hF0 hF) (fun m hm'=>hnone m oW) (fun u hu=>by
        rw[hnone _ oW] at hu;cases hu) (.inr ⟨v0.ownBlock,hg,fun b hb o=>hownk b hb o⟩) (fun b o hS=>hcell b o (hH.sl b o hS) (fun hb=>absurd hS (hseal b hb o))) (fun b hb o hS=> ?_) (fun b hb=> ?_) ⟨⟨by simp [Gh.tok],.inr ⟨q,cap,rfl,hcap⟩⟩,trivial⟩)
       .rw[hx,hv,hvr];simp only[builtin,aQS,hrun,aQK,aQ6]
       .cases hb;rcases hq with h|h
        .rw[h] at hS;exact aSk _ (hH.sl _ _ hS)
        .exact hseal _ h o hS
       .cases hb;rcases hq with h|h
        .exact .inl (aR1 h.symm)
        .exact .inr (hownk _ h)
     .cases hr
    .cases hr
   .cases hr
  .cases hr
 .rename_i u el by' ar ls_ a1 l k b1 r k2;split at hr
  .rename_i hab;obtain⟨rfl,rfl⟩:=hab;simp only[tI] at hr;generalize hk:pQ H k=ob at hr;unfold RJ at hr;split at hr
   .rename_i e' c n;split at hr
    .rename_i hec;obtain⟨rfl,hcc,hpos,hb1⟩:=hec;cases hr;rw[aQG];have hln:=hs _ (by simp:(List.length l=n)∈_);have hby:=hs _ (by simp:((List.length l+List.length r)*by'<=140737488355328)∈_);obtain⟨v,vr,hv,hs1,hs2⟩:=SB hT hH hρ hss;obtain⟨h2,h3,_⟩:=(sI hT hst).2;obtain⟨ei,hei,hz⟩:=aQQ.1 h3;simp only[aRc] at hz;obtain⟨cs,hx⟩:=DQ (a:=a) hT hH ho;obtain⟨v0,xs,hv0,hown,hnone,hseal⟩:=hH.blk k _ hk;have hcur:g.cur k (List.length l)=some v:=hs1.2;rw[hln,hv0] at hcur;obtain rfl:=aQH hcur;obtain⟨adr,capr,hvr,hler,hlr⟩:=AK hs2.1;obtain⟨adl,capl,hvl,hlel,hll⟩:=AK hs1.1;by_cases hm:List.length r=0
     ·
      obtain rfl:r=[]:=aRe hm;have hlr:List.length l+List.length ([]:List b1.den)=n:=by rw[hln];rfl
      have hget: ∀i,pQ (qH [(k,pM.grow e' c (List.length l+List.length ([]:List b1.den)))] H) i=pQ H i:=by
       intro i;simp only[qH,pQ];by_cases hi:k=i
       .subst hi;rw[aQI rfl,hlr];exact hk.symm
       .rw[aQO hi]
      have hkeep:rL g w H ⟨[List.length l=n,(List.length l+List.length ([]:List b1.den))*by'<=140737488355328],(.val (.list b1) (l++[]),some k),[(k,.grow e' c (List.length l+List.length ([]:List b1.den)))],[k]⟩ g w v0:=by
       refine⟨.refl _ _,?_,⟨fun i b h=>hH.blk i b ((hget i).symm.trans h),fun i j bi bj b o' hij h1 h2=>hH.dis i j bi bj b o' hij ((hget i).symm.trans h1) ((hget j).symm.trans h2),hH.sl,hH.tab.1,fun i blk b o' h ho'=>hH.tab.2 i blk b o' ((hget i).symm.trans h) ho'⟩,.refl _ _ _,fun i blk b o' hi hg ho'=> .inr ⟨i,blk,hi,(hget i).symm.trans hg,ho'⟩,fun _ _=>⟨rfl,rfl⟩,fun i u' y us h=> .inl ⟨y,us,(hget i).symm.trans h⟩⟩;rw[List.append_nil];exact hs1
      refine r7.value (v:=v0) (w':=w) ?_ hkeep;rw[hx,hv,hvr,hvl];have ha0:(#[Value.slice adl (List.length l) capl,Value.slice adr (List.length ([]:List b1.den)) capr]:Array pC)[0]? =some (.slice adl (List.length l) capl):=rfl;have ha1:(#[Value.slice adl (List.length l) capl,Value.slice adr (List.length ([]:List b1.den)) capr]:Array pC)[1]? =some (.slice adr 0 capr):=rfl;have ht0:(#[t,t]:Array TypeId)[0]? =some t:=rfl;have ht1:(#[t,t]:Array TypeId)[1]? =some t:=rfl;simp only[builtin,Builtin.append_,ht0,ht1,ha0,ha1,aQS,aQX h2,aQK,aQ6,sizeOf,typeInfo,aRu,hei];cases adr<;>cases adl<;>simp [Builtin.lenOf,Builtin.firstCells,loadCells,loadCellsFrom,storeCells,hlel]
     .obtain⟨b,off,rfl,hL⟩: ∃b o,adr=some ⟨b,o,none⟩/\wQ (Rd g w b1) w g.S b1.cells b o r:=by
       rcases hlr with rfl|h
       .exact absurd rfl hm
       .exact h
      obtain⟨news,hF,hra,_⟩:=K2 hL;have hxs:sQ (Rd g w b1) b1.cells l xs:=by
       by_cases h0:List.length l=0
       .obtain rfl:l=[]:=aRe h0;have:xs=[]:=aRe (by rw[hown.1,<-hln];simp);exact this
       .rcases hll with rfl|⟨b0,off0,rfl,hL0⟩
        .exact absurd rfl h0
        .obtain⟨ls,hF0,hra0,_⟩:=K2 hL0;rcases hown.2 with⟨e1,e2⟩ |⟨q,cap,cur,e1,e2⟩
         .exact absurd (hln.trans e2) h0
         .rw[hvl] at e1;simp only[aSy,aQE,Addr.mk.injEq] at e1;obtain⟨⟨rfl,rfl,_⟩,_,rfl⟩:=e1;have hvn:v0= .slice (some ⟨b0,0,none⟩) n capl:=by rw[hvl,hln]
          have hrx:=X3 (hvn▸hown);have:ls=xs:=by
           have hl1:=FG hF0;have hl2:=hown.1;apply List.ext_getElem?;intro j;by_cases hj:j<ls.length
           .have h1:=hra0 j ls[j] (aQM hj);have hj':j<xs.length:=by rw[hl2,hcc,<-hln,<-hl1];exact hj
            have h2:=hrx j xs[j] (aQM hj');rw[h1] at h2;rw[aQM hj,aQM hj',aQH h2]
           .rw[aRU oW,aRU (by rw[hl2,hcc,<-hln,<-hl1];omega)]
          rw[<-this];exact hF0
      obtain⟨q,cap,w',hrun,hown',hq,hg,hcap,hcell⟩:=X2 (P:=P) w t o.type e' ei (uS b1) c by' h2 hei hz.2.2 (by rw[hz.1,hcc]) hz.2.1 (by
       have:=s3 (CI (HL g w b1));rw[hcc];simpa using this) v0 n xs hown ⟨b,off,none⟩ (List.length r) capr news (by rw[FG hF,hcc]) (fun j u hu=>by rw[aRN];exact hra j u hu) (N5 (fun _ _ h=>yH h) hF) oW
       (by
        have:=Nat.mul_le_mul_left (List.length l+List.length r) hb1;unfold maxLen;omega) (by rw[<-hln];exact hby)
      refine r7.value (v:= .slice (some ⟨q,0,none⟩) (n+List.length r) cap) (w':=w') ?_ (by
       have:=rL.append (side:=[List.length l=n,(List.length l+List.length r)*by'<=140737488355328]) (rds:=[k]) hH hk hcc hln hv0 hown hnone hseal (hcc▸hxs) (hcc▸hF) oW hown' hq hg hcap hcell;rw[hln];rw[hln] at this;exact this)
      rw[hx,hv,hvr];simp only[builtin,aQS,hrun,aQK,aQ6]
    .cases hr
   .cases hr
  .cases hr
 .cases hr
end
end Go.Proofs.YtkpflnijijccpaaGreatDoor.Vc
